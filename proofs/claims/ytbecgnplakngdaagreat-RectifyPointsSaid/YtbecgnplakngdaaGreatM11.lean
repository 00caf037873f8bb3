/- Part 11 of a proof: rules, plain facts, and functions walked. -/
import Derived.Test.YtbecgnplakngdaaGreatM10
namespace Go.Proofs.YtbecgnplakngdaaGreat
open Go.Fid
set_option maxRecDepth 4000
set_option linter.unusedVariables false
set_option linter.unusedSimpArgs false
theorem cb69 : callB Tryz.prog 69 = true := by kernel_rfl
theorem cb71 : callB Tryz.prog 71 = true := by kernel_rfl
theorem cb75 : callB Tryz.prog 75 = true := by kernel_rfl
theorem cb76 : callB Tryz.prog 76 = true := by kernel_rfl
theorem cb79 : callB Tryz.prog 79 = true := by kernel_rfl
theorem cb80 : callB Tryz.prog 80 = true := by kernel_rfl
theorem cb125 : callB Tryz.prog 125 = true := by kernel_rfl
theorem cb127 : callB Tryz.prog 127 = true := by kernel_rfl
theorem cb128 : callB Tryz.prog 128 = true := by kernel_rfl
theorem fo23_0 : fieldB Tryz.prog 23 0 = some 0 := by kernel_rfl
theorem fo23_1 : fieldB Tryz.prog 23 1 = some 1 := by kernel_rfl
theorem fo23_2 : fieldB Tryz.prog 23 2 = some 2 := by kernel_rfl
theorem fo27_0 : fieldB Tryz.prog 27 0 = some 0 := by kernel_rfl
theorem fo27_1 : fieldB Tryz.prog 27 1 = some 1 := by kernel_rfl
theorem fo29_0 : fieldB Tryz.prog 29 0 = some 0 := by kernel_rfl
theorem fo29_1 : fieldB Tryz.prog 29 1 = some 3 := by kernel_rfl
theorem fo29_2 : fieldB Tryz.prog 29 2 = some 7 := by kernel_rfl
theorem fo29_3 : fieldB Tryz.prog 29 3 = some 8 := by kernel_rfl
theorem sh52 : shapeB Tryz.prog 52 = some (false, 1) := by kernel_rfl
theorem q_turn (a b c d : Int) (ha : -1048576 ≤ a ∧ a ≤ 1048576) (hb : -1048576 ≤ b ∧ b ≤ 1048576) (hc : -1048576 ≤ c ∧ c ≤ 1048576) (hd : -1048576 ≤ d ∧ d ≤ 1048576) (hq : rotC a b c d = 0) : Takes Tryz.prog 69 [(encQuat (RQuat.mk a b c d))] (encA130 (A3.mk (A3.mk (ofQ (R00 a b c d)) (ofQ (R01 a b c d)) (ofQ (R02 a b c d))) (A3.mk (ofQ (R10 a b c d)) (ofQ (R11 a b c d)) (ofQ (R12 a b c d))) (A3.mk (ofQ (R20 a b c d)) (ofQ (R21 a b c d)) (ofQ (R22 a b c d))))) := by
  have hn0 := nq_ne hq
  have hnq := nq_b ha hb hc hd
  let y4 := (A3.mk (RRat.mk (RInt.mk false []) (RInt.mk false [])) (RRat.mk (RInt.mk false []) (RInt.mk false [])) (RRat.mk (RInt.mk false []) (RInt.mk false [])))
  let y3 := (bx (encA130 (A3.mk (A3.mk (ofQ (R00 a b c d)) (ofQ (R01 a b c d)) (ofQ (R02 a b c d))) (A3.mk (ofQ (R10 a b c d)) (ofQ (R11 a b c d)) (ofQ (R12 a b c d))) (A3.mk (ofQ (R20 a b c d)) (ofQ (R21 a b c d)) (ofQ (R22 a b c d))))))
  let y2 := (bx (encA130 (A3.mk (A3.mk (ofQ (R00 a b c d)) (ofQ (R01 a b c d)) (ofQ (R02 a b c d))) (A3.mk (ofQ (R10 a b c d)) (ofQ (R11 a b c d)) (ofQ (R12 a b c d))) y4)))
  let y1 := (bx (encA130 (A3.mk y4 y4 y4)))
  refine fn_intro Tryz.func69 rfl cb69 rfl ?_
  show PWp _ _ _ _ ⟨[(0, (.d (encQuat (RQuat.mk a b c d))))], []⟩
  refine pwp_seq <| kx [(1, (.ref 0 0)), (2, (.ref 1 0))] [(0, some (bx (encQuat (RQuat.mk a b c d)))), (1, some y1)] (zN (oBx 0) <| zN (oAl 1 ze131 zo131) <| zZ) ?_
  refine pwp_seq ?_
  have bn1 : QL (Q00 a b c d) 3 := (ql_Q00 (by first | assumption | omega) (by first | assumption | omega) (by first | assumption | omega) (by first | assumption | omega))
  have bn2 : QL (Q01 a b c d) 3 := (ql_Q01 (by first | assumption | omega) (by first | assumption | omega) (by first | assumption | omega) (by first | assumption | omega))
  have bn3 : QL (Q02 a b c d) 3 := (ql_Q02 (by first | assumption | omega) (by first | assumption | omega) (by first | assumption | omega) (by first | assumption | omega))
  have bn4 : QL (Q10 a b c d) 3 := (ql_Q10 (by first | assumption | omega) (by first | assumption | omega) (by first | assumption | omega) (by first | assumption | omega))
  have bn5 : QL (Q11 a b c d) 3 := (ql_Q11 (by first | assumption | omega) (by first | assumption | omega) (by first | assumption | omega) (by first | assumption | omega))
  have bn6 : QL (Q12 a b c d) 3 := (ql_Q12 (by first | assumption | omega) (by first | assumption | omega) (by first | assumption | omega) (by first | assumption | omega))
  have bn7 : QL (Q20 a b c d) 3 := (ql_Q20 (by first | assumption | omega) (by first | assumption | omega) (by first | assumption | omega) (by first | assumption | omega))
  have bn8 : QL (Q21 a b c d) 3 := (ql_Q21 (by first | assumption | omega) (by first | assumption | omega) (by first | assumption | omega) (by first | assumption | omega))
  have bn9 : QL (Q22 a b c d) 3 := (ql_Q22 (by first | assumption | omega) (by first | assumption | omega) (by first | assumption | omega) (by first | assumption | omega))
  refine kx [(3, (vl 52 1 enc_sl_52 [[(ofQ (Q00 a b c d)), (ofQ (Q01 a b c d)), (ofQ (Q02 a b c d))], [(ofQ (Q10 a b c d)), (ofQ (Q11 a b c d)), (ofQ (Q12 a b c d))], [(ofQ (Q20 a b c d)), (ofQ (Q21 a b c d)), (ofQ (Q22 a b c d))]]))] [] (zR (oLa sh25) <| zE (oCl (q_rmat a b c d (by omega) (by omega) (by omega) (by omega) hq hn0)) <| zM <| zE oEx <| zE oEx <| zM <| zM <| zZ) ?_
  refine pwp_seq ?_
  have bn10 : QL (N4 a b c d) 3 := (ql_eqz (Eq.symm (show ((nq a b c d : Int) : Rat) = N4 a b c d from rfl)) (ql_int (z := (nq a b c d)) (lenZ_int (by omega) (by omega)) (by decide)))
  refine kx [(5, (.ref 2 0))] [(2, some (bx (encR (ofQ (N4 a b c d)))))] (zR (oLa sh25) <| zE (oCl (q_norm a b c d (by omega) (by omega) (by omega) (by omega))) <| zE (oCl (by have h := f_whole (nq a b c d) (by omega) (by omega); rw [(show ((nq a b c d : Int) : Rat) = N4 a b c d from rfl)] at h; exact h)) <| zN (oAl 2 ze42 zo42) <| zT (oSt sh42) <| zZ) ?_
  refine pwp_seq <| kx [(6, (.ref 3 0))] [(3, some y1)] (zN (oAl 3 ze131 zo131) <| zZ) ?_
  refine pwp_seq <| pwp_seq <| kx [(16, (vin 0))] [] (zM <| zZ) ?_
  refine pwp_block <| pwp_rounds 20 ?_
  refine pwp_round <| pwp_seq <| kx [(17, (vb true))] [] (zE (oBk true oLt) <| zZ) ?_
  refine pwp_seq <| pwp_cond (b := true) (by kernel_rfl) (fun _ => ?_) (fun h => by cases h)
  refine pwp_skip <| pwp_seq <| pwp_block <| pwp_seq <| kx [(7, (vin 0))] [] (zM <| zM <| zZ) ?_
  have bn11 : QL (R00 a b c d) 6 := (ql_eqz (Eq.symm (Q00_n (a := a) (b := b) (c := c) (d := d) hn0)) (ql_mul (k := 6) bn1 bn10 (by decide)))
  have bn12 : QL (R01 a b c d) 6 := (ql_eqz (Eq.symm (Q01_n (a := a) (b := b) (c := c) (d := d) hn0)) (ql_mul (k := 6) bn2 bn10 (by decide)))
  have bn13 : QL (R02 a b c d) 6 := (ql_eqz (Eq.symm (Q02_n (a := a) (b := b) (c := c) (d := d) hn0)) (ql_mul (k := 6) bn3 bn10 (by decide)))
  refine kd [] [(3, some (bx (encA130 (A3.mk (A3.mk (ofQ (R00 a b c d)) (ofQ (R01 a b c d)) (ofQ (R02 a b c d))) y4 y4))))] mo (wM <| wM <| wM <| wE (oXs el34 0) <| wE (oC1 sh52) <| wE (oXs el52 0) <| wE (oCa sh42) <| wM <| wM <| wE (oXs el34 0) <| wE (oC1 sh52) <| wE (oXs el52 1) <| wE (oCa sh42) <| wM <| wM <| wE (oXs el34 0) <| wE (oC1 sh52) <| wE (oXs el52 2) <| wE (oCa sh42) <| wE (oBf ar129 ze129 zo129) <| wR (oLa sh42) <| wE (oCl (by have h := q_scaled (Q00 a b c d) (Q01 a b c d) (Q02 a b c d) (ql_up bn1 (by decide)) (ql_up bn2 (by decide)) (ql_up bn3 (by decide)) (N4 a b c d) (ql_up bn10 (by decide)); rw [(Q00_n (a := a) (b := b) (c := c) (d := d) hn0), (Q01_n (a := a) (b := b) (c := c) (d := d) hn0), (Q02_n (a := a) (b := b) (c := c) (d := d) hn0)] at h; exact h)) <| wE (oXr ar131 0) <| wT (oSt sh129) <| wZ) ?_
  refine kx [(16, (vin 1))] [] (zE (oAd 1 (hr := by decide)) <| zM <| zZ) ?_
  refine pwp_again (SimImp.refl _) ?_
  refine pwp_seq <| kx [(17, (vb true))] [] (zE (oBk true oLt) <| zZ) ?_
  refine pwp_seq <| pwp_cond (b := true) (by kernel_rfl) (fun _ => ?_) (fun h => by cases h)
  refine pwp_skip <| pwp_seq <| pwp_block <| pwp_seq <| kx [(7, (vin 1))] [] (zM <| zM <| zZ) ?_
  have bn14 : QL (R10 a b c d) 6 := (ql_eqz (Eq.symm (Q10_n (a := a) (b := b) (c := c) (d := d) hn0)) (ql_mul (k := 6) bn4 bn10 (by decide)))
  have bn15 : QL (R11 a b c d) 6 := (ql_eqz (Eq.symm (Q11_n (a := a) (b := b) (c := c) (d := d) hn0)) (ql_mul (k := 6) bn5 bn10 (by decide)))
  have bn16 : QL (R12 a b c d) 6 := (ql_eqz (Eq.symm (Q12_n (a := a) (b := b) (c := c) (d := d) hn0)) (ql_mul (k := 6) bn6 bn10 (by decide)))
  refine kd [] [(3, some y2)] mo (wM <| wM <| wM <| wE (oXs el34 1) <| wE (oC1 sh52) <| wE (oXs el52 0) <| wE (oCa sh42) <| wM <| wM <| wE (oXs el34 1) <| wE (oC1 sh52) <| wE (oXs el52 1) <| wE (oCa sh42) <| wM <| wM <| wE (oXs el34 1) <| wE (oC1 sh52) <| wE (oXs el52 2) <| wE (oCa sh42) <| wE (oBf ar129 ze129 zo129) <| wR (oLa sh42) <| wE (oCl (by have h := q_scaled (Q10 a b c d) (Q11 a b c d) (Q12 a b c d) (ql_up bn4 (by decide)) (ql_up bn5 (by decide)) (ql_up bn6 (by decide)) (N4 a b c d) (ql_up bn10 (by decide)); rw [(Q10_n (a := a) (b := b) (c := c) (d := d) hn0), (Q11_n (a := a) (b := b) (c := c) (d := d) hn0), (Q12_n (a := a) (b := b) (c := c) (d := d) hn0)] at h; exact h)) <| wE (oXr ar131 1) <| wT (oSt sh129) <| wZ) ?_
  refine kx [(16, (vin 2))] [] (zE (oAd 2 (hr := by decide)) <| zM <| zZ) ?_
  refine pwp_again (SimImp.refl _) ?_
  refine pwp_seq <| kx [(17, (vb true))] [] (zE (oBk true oLt) <| zZ) ?_
  refine pwp_seq <| pwp_cond (b := true) (by kernel_rfl) (fun _ => ?_) (fun h => by cases h)
  refine pwp_skip <| pwp_seq <| pwp_block <| pwp_seq <| pwp_sim (wk (l := [(2, (.ref 1 0)), (3, (vl 52 1 enc_sl_52 [[(ofQ (Q00 a b c d)), (ofQ (Q01 a b c d)), (ofQ (Q02 a b c d))], [(ofQ (Q10 a b c d)), (ofQ (Q11 a b c d)), (ofQ (Q12 a b c d))], [(ofQ (Q20 a b c d)), (ofQ (Q21 a b c d)), (ofQ (Q22 a b c d))]])), (5, (.ref 2 0)), (6, (.ref 3 0)), (16, (vin 2)), (17, (vb true))]) (b := [(1, some y1), (2, some (bx (encR (ofQ (N4 a b c d))))), (3, some y2)])) ?_
  refine kx [(7, (vin 2))] [] (zM <| zM <| zZ) ?_
  have bn17 : QL (R20 a b c d) 6 := (ql_eqz (Eq.symm (Q20_n (a := a) (b := b) (c := c) (d := d) hn0)) (ql_mul (k := 6) bn7 bn10 (by decide)))
  have bn18 : QL (R21 a b c d) 6 := (ql_eqz (Eq.symm (Q21_n (a := a) (b := b) (c := c) (d := d) hn0)) (ql_mul (k := 6) bn8 bn10 (by decide)))
  have bn19 : QL (R22 a b c d) 6 := (ql_eqz (Eq.symm (Q22_n (a := a) (b := b) (c := c) (d := d) hn0)) (ql_mul (k := 6) bn9 bn10 (by decide)))
  refine kd [] [(3, some y3)] mo (wM <| wM <| wM <| wE (oXs el34 2) <| wE (oC1 sh52) <| wE (oXs el52 0) <| wE (oCa sh42) <| wM <| wM <| wE (oXs el34 2) <| wE (oC1 sh52) <| wE (oXs el52 1) <| wE (oCa sh42) <| wM <| wM <| wE (oXs el34 2) <| wE (oC1 sh52) <| wE (oXs el52 2) <| wE (oCa sh42) <| wE (oBf ar129 ze129 zo129) <| wR (oLa sh42) <| wE (oCl (by have h := q_scaled (Q20 a b c d) (Q21 a b c d) (Q22 a b c d) (ql_up bn7 (by decide)) (ql_up bn8 (by decide)) (ql_up bn9 (by decide)) (N4 a b c d) (ql_up bn10 (by decide)); rw [(Q20_n (a := a) (b := b) (c := c) (d := d) hn0), (Q21_n (a := a) (b := b) (c := c) (d := d) hn0), (Q22_n (a := a) (b := b) (c := c) (d := d) hn0)] at h; exact h)) <| wE (oXr ar131 2) <| wT (oSt sh129) <| wZ) ?_
  refine kx [(16, (vin 3))] [] (zE (oAd 3 (hr := by decide)) <| zM <| zZ) ?_
  refine pwp_again (SimImp.refl _) ?_
  refine pwp_seq <| kx [(17, (vb false))] [] (zE (oBk false oLt) <| zZ) ?_
  refine pwp_seq <| pwp_cond (b := false) (by kernel_rfl) (fun h => by cases h) (fun _ => ?_)
  refine pwp_exit <| pwp_seq <| kx [] [(1, some y3)] (zR (oLa sh131) <| zT (oSt sh131) <| zZ) ?_
  refine pwp_ret ⟨_, (res_a (cs := (bx (encA130 (A3.mk (A3.mk (ofQ (R00 a b c d)) (ofQ (R01 a b c d)) (ofQ (R02 a b c d))) (A3.mk (ofQ (R10 a b c d)) (ofQ (R11 a b c d)) (ofQ (R12 a b c d))) (A3.mk (ofQ (R20 a b c d)) (ofQ (R21 a b c d)) (ofQ (R22 a b c d))))))) (d := (encA130 (A3.mk (A3.mk (ofQ (R00 a b c d)) (ofQ (R01 a b c d)) (ofQ (R02 a b c d))) (A3.mk (ofQ (R10 a b c d)) (ofQ (R11 a b c d)) (ofQ (R12 a b c d))) (A3.mk (ofQ (R20 a b c d)) (ofQ (R21 a b c d)) (ofQ (R22 a b c d)))))) rfl rfl sh131 rfl rfl .nil), ?_⟩
  rfl
theorem qs_mat (a b c d : Int) (ha : -1048576 ≤ a ∧ a ≤ 1048576) (hb : -1048576 ≤ b ∧ b ≤ 1048576) (hc : -1048576 ≤ c ∧ c ≤ 1048576) (hd : -1048576 ≤ d ∧ d ≤ 1048576) (hq : rotC a b c d = 0) : Takes Tryz.prog 76 [(encQuat (RQuat.mk a b c d))] (encA45 (A3.mk (A3.mk (ofQ (R00 a b c d)) (ofQ (R01 a b c d)) (ofQ (R02 a b c d))) (A3.mk (ofQ (R10 a b c d)) (ofQ (R11 a b c d)) (ofQ (R12 a b c d))) (A3.mk (ofQ (R20 a b c d)) (ofQ (R21 a b c d)) (ofQ (R22 a b c d))))) := by
  have hn0 := nq_ne hq
  have hnq := nq_b ha hb hc hd
  let y4 := (A3.mk (RRat.mk (RInt.mk false []) (RInt.mk false [])) (RRat.mk (RInt.mk false []) (RInt.mk false [])) (RRat.mk (RInt.mk false []) (RInt.mk false [])))
  let y3 := (bx (encA45 (A3.mk (A3.mk (ofQ (R00 a b c d)) (ofQ (R01 a b c d)) (ofQ (R02 a b c d))) (A3.mk (ofQ (R10 a b c d)) (ofQ (R11 a b c d)) (ofQ (R12 a b c d))) (A3.mk (ofQ (R20 a b c d)) (ofQ (R21 a b c d)) (ofQ (R22 a b c d))))))
  let y2 := (bx (encA45 (A3.mk (A3.mk (ofQ (R00 a b c d)) (ofQ (R01 a b c d)) (ofQ (R02 a b c d))) (A3.mk (ofQ (R10 a b c d)) (ofQ (R11 a b c d)) (ofQ (R12 a b c d))) y4)))
  let y1 := (bx (encA45 (A3.mk y4 y4 y4)))
  refine fn_intro Tryz.func76 rfl cb76 rfl ?_
  show PWp _ _ _ _ ⟨[(0, (.d (encQuat (RQuat.mk a b c d))))], []⟩
  refine pwp_seq <| kx [(1, (.ref 0 0)), (2, (.ref 1 0))] [(0, some (bx (encQuat (RQuat.mk a b c d)))), (1, some y1)] (zN (oBx 0) <| zN (oAl 1 ze45 zo45) <| zZ) ?_
  refine pwp_seq ?_
  have bn1 : QL (Q00 a b c d) 3 := (ql_Q00 (by first | assumption | omega) (by first | assumption | omega) (by first | assumption | omega) (by first | assumption | omega))
  have bn2 : QL (Q01 a b c d) 3 := (ql_Q01 (by first | assumption | omega) (by first | assumption | omega) (by first | assumption | omega) (by first | assumption | omega))
  have bn3 : QL (Q02 a b c d) 3 := (ql_Q02 (by first | assumption | omega) (by first | assumption | omega) (by first | assumption | omega) (by first | assumption | omega))
  have bn4 : QL (Q10 a b c d) 3 := (ql_Q10 (by first | assumption | omega) (by first | assumption | omega) (by first | assumption | omega) (by first | assumption | omega))
  have bn5 : QL (Q11 a b c d) 3 := (ql_Q11 (by first | assumption | omega) (by first | assumption | omega) (by first | assumption | omega) (by first | assumption | omega))
  have bn6 : QL (Q12 a b c d) 3 := (ql_Q12 (by first | assumption | omega) (by first | assumption | omega) (by first | assumption | omega) (by first | assumption | omega))
  have bn7 : QL (Q20 a b c d) 3 := (ql_Q20 (by first | assumption | omega) (by first | assumption | omega) (by first | assumption | omega) (by first | assumption | omega))
  have bn8 : QL (Q21 a b c d) 3 := (ql_Q21 (by first | assumption | omega) (by first | assumption | omega) (by first | assumption | omega) (by first | assumption | omega))
  have bn9 : QL (Q22 a b c d) 3 := (ql_Q22 (by first | assumption | omega) (by first | assumption | omega) (by first | assumption | omega) (by first | assumption | omega))
  refine kx [(3, (vl 52 1 enc_sl_52 [[(ofQ (Q00 a b c d)), (ofQ (Q01 a b c d)), (ofQ (Q02 a b c d))], [(ofQ (Q10 a b c d)), (ofQ (Q11 a b c d)), (ofQ (Q12 a b c d))], [(ofQ (Q20 a b c d)), (ofQ (Q21 a b c d)), (ofQ (Q22 a b c d))]]))] [] (zR (oLa sh25) <| zE (oCl (qs_rmat a b c d (by omega) (by omega) (by omega) (by omega) hq hn0)) <| zM <| zE oEx <| zE oEx <| zM <| zM <| zZ) ?_
  refine pwp_seq <| kx [(5, (.ref 2 0))] [(2, some y1)] (zE (oBa ar45 ze45 zo45) <| zN (oAl 2 ze45 zo45) <| zT (oSt sh45) <| zZ) ?_
  refine pwp_seq <| pwp_seq <| kx [(13, (vin 0))] [] (zM <| zZ) ?_
  refine pwp_block <| pwp_rounds 20 ?_
  refine pwp_round <| pwp_seq <| kx [(14, (vb true))] [] (zE (oBk true oLt) <| zZ) ?_
  refine pwp_seq <| pwp_cond (b := true) (by kernel_rfl) (fun _ => ?_) (fun h => by cases h)
  refine pwp_skip <| pwp_seq <| pwp_block <| pwp_seq <| kx [(6, (vin 0))] [] (zM <| zM <| zZ) ?_
  have bn10 : QL (N4 a b c d) 3 := (ql_N4 (by first | assumption | omega) (by first | assumption | omega) (by first | assumption | omega) (by first | assumption | omega))
  have bn11 : QL (R00 a b c d) 6 := (ql_eqz (Eq.symm (Q00_n (a := a) (b := b) (c := c) (d := d) hn0)) (ql_mul (k := 6) bn1 bn10 (by decide)))
  have bn12 : QL (R01 a b c d) 6 := (ql_eqz (Eq.symm (Q01_n (a := a) (b := b) (c := c) (d := d) hn0)) (ql_mul (k := 6) bn2 bn10 (by decide)))
  have bn13 : QL (R02 a b c d) 6 := (ql_eqz (Eq.symm (Q02_n (a := a) (b := b) (c := c) (d := d) hn0)) (ql_mul (k := 6) bn3 bn10 (by decide)))
  refine kd [] [(2, some (bx (encA45 (A3.mk (A3.mk (ofQ (R00 a b c d)) (ofQ (R01 a b c d)) (ofQ (R02 a b c d))) y4 y4))))] mo (wM <| wM <| wM <| wE (oXs el34 0) <| wE (oC1 sh52) <| wE (e_sap (cs := (Dat.cells (encA43 (A3.mk (ofQ (Q00 a b c d)) (ofQ (Q01 a b c d)) (ofQ (Q02 a b c d)))))) (by exact rfl) ar44 (by exact rfl) (by kernel_rfl) (by kernel_rfl) (by kernel_rfl)) <| wE (oCa sh44) <| wR (oLa sh25) <| wE (oCl (qs_norm a b c d (by omega) (by omega) (by omega) (by omega))) <| wE (oCl (by have h := qs_scaled (Q00 a b c d) (Q01 a b c d) (Q02 a b c d) (ql_up bn1 (by decide)) (ql_up bn2 (by decide)) (ql_up bn3 (by decide)) (N4 a b c d) (ql_up bn10 (by decide)); rw [(Q00_n (a := a) (b := b) (c := c) (d := d) hn0), (Q01_n (a := a) (b := b) (c := c) (d := d) hn0), (Q02_n (a := a) (b := b) (c := c) (d := d) hn0)] at h; exact h)) <| wE (oXr ar45 0) <| wT (oSt sh44) <| wZ) ?_
  refine kx [(13, (vin 1))] [] (zE (oAd 1 (hr := by decide)) <| zM <| zZ) ?_
  refine pwp_again (SimImp.refl _) ?_
  refine pwp_seq <| kx [(14, (vb true))] [] (zE (oBk true oLt) <| zZ) ?_
  refine pwp_seq <| pwp_cond (b := true) (by kernel_rfl) (fun _ => ?_) (fun h => by cases h)
  refine pwp_skip <| pwp_seq <| pwp_block <| pwp_seq <| kx [(6, (vin 1))] [] (zM <| zM <| zZ) ?_
  have bn14 : QL (R10 a b c d) 6 := (ql_eqz (Eq.symm (Q10_n (a := a) (b := b) (c := c) (d := d) hn0)) (ql_mul (k := 6) bn4 bn10 (by decide)))
  have bn15 : QL (R11 a b c d) 6 := (ql_eqz (Eq.symm (Q11_n (a := a) (b := b) (c := c) (d := d) hn0)) (ql_mul (k := 6) bn5 bn10 (by decide)))
  have bn16 : QL (R12 a b c d) 6 := (ql_eqz (Eq.symm (Q12_n (a := a) (b := b) (c := c) (d := d) hn0)) (ql_mul (k := 6) bn6 bn10 (by decide)))
  refine kd [] [(2, some y2)] mo (wM <| wM <| wM <| wE (oXs el34 1) <| wE (oC1 sh52) <| wE (e_sap (cs := (Dat.cells (encA43 (A3.mk (ofQ (Q10 a b c d)) (ofQ (Q11 a b c d)) (ofQ (Q12 a b c d)))))) (by exact rfl) ar44 (by exact rfl) (by kernel_rfl) (by kernel_rfl) (by kernel_rfl)) <| wE (oCa sh44) <| wR (oLa sh25) <| wE (oCl (qs_norm a b c d (by omega) (by omega) (by omega) (by omega))) <| wE (oCl (by have h := qs_scaled (Q10 a b c d) (Q11 a b c d) (Q12 a b c d) (ql_up bn4 (by decide)) (ql_up bn5 (by decide)) (ql_up bn6 (by decide)) (N4 a b c d) (ql_up bn10 (by decide)); rw [(Q10_n (a := a) (b := b) (c := c) (d := d) hn0), (Q11_n (a := a) (b := b) (c := c) (d := d) hn0), (Q12_n (a := a) (b := b) (c := c) (d := d) hn0)] at h; exact h)) <| wE (oXr ar45 1) <| wT (oSt sh44) <| wZ) ?_
  refine kx [(13, (vin 2))] [] (zE (oAd 2 (hr := by decide)) <| zM <| zZ) ?_
  refine pwp_again (SimImp.refl _) ?_
  refine pwp_seq <| kx [(14, (vb true))] [] (zE (oBk true oLt) <| zZ) ?_
  refine pwp_seq <| pwp_cond (b := true) (by kernel_rfl) (fun _ => ?_) (fun h => by cases h)
  refine pwp_skip <| pwp_seq <| pwp_block <| pwp_seq <| kx [(6, (vin 2))] [] (zM <| zM <| zZ) ?_
  refine pwp_sim (wk (l := [(1, (.ref 0 0)), (2, (.ref 1 0)), (3, (vl 52 1 enc_sl_52 [[(ofQ (Q00 a b c d)), (ofQ (Q01 a b c d)), (ofQ (Q02 a b c d))], [(ofQ (Q10 a b c d)), (ofQ (Q11 a b c d)), (ofQ (Q12 a b c d))], [(ofQ (Q20 a b c d)), (ofQ (Q21 a b c d)), (ofQ (Q22 a b c d))]])), (5, (.ref 2 0)), (6, (vin 2)), (13, (vin 2))]) (b := [(0, some (bx (encQuat (RQuat.mk a b c d)))), (1, some y1), (2, some y2)])) ?_
  have bn17 : QL (R20 a b c d) 6 := (ql_eqz (Eq.symm (Q20_n (a := a) (b := b) (c := c) (d := d) hn0)) (ql_mul (k := 6) bn7 bn10 (by decide)))
  have bn18 : QL (R21 a b c d) 6 := (ql_eqz (Eq.symm (Q21_n (a := a) (b := b) (c := c) (d := d) hn0)) (ql_mul (k := 6) bn8 bn10 (by decide)))
  have bn19 : QL (R22 a b c d) 6 := (ql_eqz (Eq.symm (Q22_n (a := a) (b := b) (c := c) (d := d) hn0)) (ql_mul (k := 6) bn9 bn10 (by decide)))
  refine kd [] [(2, some y3)] mo (wM <| wM <| wM <| wE (oXs el34 2) <| wE (oC1 sh52) <| wE (e_sap (cs := (Dat.cells (encA43 (A3.mk (ofQ (Q20 a b c d)) (ofQ (Q21 a b c d)) (ofQ (Q22 a b c d)))))) (by exact rfl) ar44 (by exact rfl) (by kernel_rfl) (by kernel_rfl) (by kernel_rfl)) <| wE (oCa sh44) <| wR (oLa sh25) <| wE (oCl (qs_norm a b c d (by omega) (by omega) (by omega) (by omega))) <| wE (oCl (by have h := qs_scaled (Q20 a b c d) (Q21 a b c d) (Q22 a b c d) (ql_up bn7 (by decide)) (ql_up bn8 (by decide)) (ql_up bn9 (by decide)) (N4 a b c d) (ql_up bn10 (by decide)); rw [(Q20_n (a := a) (b := b) (c := c) (d := d) hn0), (Q21_n (a := a) (b := b) (c := c) (d := d) hn0), (Q22_n (a := a) (b := b) (c := c) (d := d) hn0)] at h; exact h)) <| wE (oXr ar45 2) <| wT (oSt sh44) <| wZ) ?_
  refine kx [(13, (vin 3))] [] (zE (oAd 3 (hr := by decide)) <| zM <| zZ) ?_
  refine pwp_again (SimImp.refl _) ?_
  refine pwp_seq <| kx [(14, (vb false))] [] (zE (oBk false oLt) <| zZ) ?_
  refine pwp_seq <| pwp_cond (b := false) (by kernel_rfl) (fun h => by cases h) (fun _ => ?_)
  refine pwp_exit <| pwp_seq <| kx [] [(1, some y3)] (zR (oLa sh45) <| zT (oSt sh45) <| zZ) ?_
  refine pwp_ret ⟨_, (res_a (cs := (bx (encA45 (A3.mk (A3.mk (ofQ (R00 a b c d)) (ofQ (R01 a b c d)) (ofQ (R02 a b c d))) (A3.mk (ofQ (R10 a b c d)) (ofQ (R11 a b c d)) (ofQ (R12 a b c d))) (A3.mk (ofQ (R20 a b c d)) (ofQ (R21 a b c d)) (ofQ (R22 a b c d))))))) (d := (encA45 (A3.mk (A3.mk (ofQ (R00 a b c d)) (ofQ (R01 a b c d)) (ofQ (R02 a b c d))) (A3.mk (ofQ (R10 a b c d)) (ofQ (R11 a b c d)) (ofQ (R12 a b c d))) (A3.mk (ofQ (R20 a b c d)) (ofQ (R21 a b c d)) (ofQ (R22 a b c d)))))) rfl rfl sh45 rfl rfl .nil), ?_⟩
  rfl
theorem q_stn (sx sy sz sa sb sc sd sf su sv : Int) : Takes Tryz.prog 125 [(encStn (RStn.mk (RSpot.mk sx sy sz) (RQuat.mk sa sb sc sd) sf (RPix.mk su sv)))] (.val (.int .i64 ((((stnC sx sy sz su sv sf sa sb sc sd) : Nat) : Int)))) := by
  refine fn_intro Tryz.func125 rfl cb125 rfl ?_
  show PWp _ _ _ _ ⟨[(0, (.d (encStn (RStn.mk (RSpot.mk sx sy sz) (RQuat.mk sa sb sc sd) sf (RPix.mk su sv)))))], []⟩
  refine pwp_seq <| kx [(1, (.ref 0 0))] [(0, some (bx (encStn (RStn.mk (RSpot.mk sx sy sz) (RQuat.mk sa sb sc sd) sf (RPix.mk su sv)))))] (zN (oBx 0) <| zM <| zZ) ?_
  refine pwp_seq <| pwp_seq <| kx [(20, (vl 3 1 enc_i64 [sx, sy, sz, su, sv])), (21, (vin 5)), (22, (vin 0))] [] (zE (oFr fo29_0) <| zE (oFr fo23_0) <| zR (oL1 sh3) <| zE (oFr fo29_0) <| zE (oFr fo23_1) <| zR (oL1 sh3) <| zE (oFr fo29_0) <| zE (oFr fo23_2) <| zR (oL1 sh3) <| zE (oFr fo29_3) <| zE (oFr fo27_0) <| zR (oL1 sh3) <| zE (oFr fo29_3) <| zE (oFr fo27_1) <| zR (oL1 sh3) <| zE (oBs el74 ze3 zo3) <| zE (oLn el74 5) <| zM <| zZ) ?_
  refine pwp_block <| pwp_rounds 20 ?_
  refine pwp_round <| pwp_seq <| kx [(23, (vb true))] [] (zE (oBk true oLt) <| zZ) ?_
  refine pwp_seq <| pwp_cond (b := true) (by kernel_rfl) (fun _ => ?_) (fun h => by cases h)
  refine pwp_skip <| pwp_seq <| pwp_block <| pwp_seq <| kx [(4, (vi sx))] [] (zE (oXs el74 0) <| zE (oC1 sh3) <| zM <| zZ) ?_
  refine pwp_seq <| kx [(31, (vb (decide (sx < -1048576) || decide (((1048576 : Nat) : Int) < sx))))] [] ?_ ?_
  · refine zM <| zE oLt <| zE (oV (vb (decide (sx < -1048576))) (mv_ok (by kernel_rfl))) <| ?_
    rcases hb1 : (decide (sx < -1048576)) with _ | _
    · replace hb1 := of_decide_eq_false hb1
      exact zM <| zE oGt <| zE oPo <| zZ
    · replace hb1 := of_decide_eq_true hb1
      exact zK <| zK <| zE oPt <| zZ
  refine pwp_cond rfl (fun h2 => ?_) (fun h2 => ?_)
  · refine pwp_seq <| kx [(2, (vin 2))] [] (zM <| zZ) ?_
    refine pwp_ret ⟨_, (.tmp (d := (.val (.int .i64 (((2 : Nat) : Int))))) rfl .nil), ?_⟩
    first | (rw [show stnC sx sy sz su sv sf sa sb sc sd = rotC sa sb sc sd from stnC_q (by unfold stnP; simp_all <;> omega)]; rfl) | (rw [show stnC sx sy sz su sv sf sa sb sc sd = 2 from stnC_r (by unfold stnP; simp_all <;> omega)]; rfl)
  · refine pwp_skip <| kx [(22, (vin 1))] [] (zE (oAd 1 (hr := by decide)) <| zM <| zZ) ?_
    refine pwp_again (SimImp.refl _) ?_
    refine pwp_seq <| kx [(23, (vb true))] [] (zE (oBk true oLt) <| zZ) ?_
    refine pwp_seq <| pwp_cond (b := true) (by kernel_rfl) (fun _ => ?_) (fun h => by cases h)
    refine pwp_skip <| pwp_seq <| pwp_block <| pwp_seq <| kx [(4, (vi sy))] [] (zE (oXs el74 1) <| zE (oC1 sh3) <| zM <| zZ) ?_
    refine pwp_seq <| kx [(31, (vb (decide (sy < -1048576) || decide (((1048576 : Nat) : Int) < sy))))] [] ?_ ?_
    · refine zM <| zE oLt <| zE (oV (vb (decide (sy < -1048576))) (mv_ok (by kernel_rfl))) <| ?_
      rcases hb3 : (decide (sy < -1048576)) with _ | _
      · replace hb3 := of_decide_eq_false hb3
        exact zM <| zE oGt <| zE oPo <| zZ
      · replace hb3 := of_decide_eq_true hb3
        exact zK <| zK <| zE oPt <| zZ
    refine pwp_cond rfl (fun h4 => ?_) (fun h4 => ?_)
    · refine pwp_seq <| kx [(2, (vin 2))] [] (zM <| zZ) ?_
      refine pwp_ret ⟨_, (.tmp (d := (.val (.int .i64 (((2 : Nat) : Int))))) rfl .nil), ?_⟩
      first | (rw [show stnC sx sy sz su sv sf sa sb sc sd = rotC sa sb sc sd from stnC_q (by unfold stnP; simp_all <;> omega)]; rfl) | (rw [show stnC sx sy sz su sv sf sa sb sc sd = 2 from stnC_r (by unfold stnP; simp_all <;> omega)]; rfl)
    · refine pwp_skip <| kx [(22, (vin 2))] [] (zE (oAd 2 (hr := by decide)) <| zM <| zZ) ?_
      refine pwp_again (SimImp.refl _) ?_
      refine pwp_seq <| kx [(23, (vb true))] [] (zE (oBk true oLt) <| zZ) ?_
      refine pwp_seq <| pwp_cond (b := true) (by kernel_rfl) (fun _ => ?_) (fun h => by cases h)
      refine pwp_skip <| pwp_seq <| pwp_block <| pwp_seq <| kx [(4, (vi sz))] [] (zE (oXs el74 2) <| zE (oC1 sh3) <| zM <| zZ) ?_
      refine pwp_seq <| kx [(31, (vb (decide (sz < -1048576) || decide (((1048576 : Nat) : Int) < sz))))] [] ?_ ?_
      · refine zM <| zE oLt <| zE (oV (vb (decide (sz < -1048576))) (mv_ok (by kernel_rfl))) <| ?_
        rcases hb5 : (decide (sz < -1048576)) with _ | _
        · replace hb5 := of_decide_eq_false hb5
          exact zM <| zE oGt <| zE oPo <| zZ
        · replace hb5 := of_decide_eq_true hb5
          exact zK <| zK <| zE oPt <| zZ
      refine pwp_cond rfl (fun h6 => ?_) (fun h6 => ?_)
      · refine pwp_seq <| kx [(2, (vin 2))] [] (zM <| zZ) ?_
        refine pwp_ret ⟨_, (.tmp (d := (.val (.int .i64 (((2 : Nat) : Int))))) rfl .nil), ?_⟩
        first | (rw [show stnC sx sy sz su sv sf sa sb sc sd = rotC sa sb sc sd from stnC_q (by unfold stnP; simp_all <;> omega)]; rfl) | (rw [show stnC sx sy sz su sv sf sa sb sc sd = 2 from stnC_r (by unfold stnP; simp_all <;> omega)]; rfl)
      · refine pwp_skip <| kx [(22, (vin 3))] [] (zE (oAd 3 (hr := by decide)) <| zM <| zZ) ?_
        refine pwp_again (SimImp.refl _) ?_
        refine pwp_seq <| pwp_sim (wk (l := [(1, (.ref 0 0)), (20, (vl 3 1 enc_i64 [sx, sy, sz, su, sv])), (21, (vin 5)), (22, (vin 3))]) (b := [(0, some (bx (encStn (RStn.mk (RSpot.mk sx sy sz) (RQuat.mk sa sb sc sd) sf (RPix.mk su sv)))))])) ?_
        refine kx [(23, (vb true))] [] (zE (oBk true oLt) <| zZ) ?_
        refine pwp_seq <| pwp_cond (b := true) (by kernel_rfl) (fun _ => ?_) (fun h => by cases h)
        refine pwp_skip <| pwp_seq <| pwp_block <| pwp_seq <| kx [(4, (vi su))] [] (zE (oXs el74 3) <| zE (oC1 sh3) <| zM <| zZ) ?_
        refine pwp_seq <| kx [(31, (vb (decide (su < -1048576) || decide (((1048576 : Nat) : Int) < su))))] [] ?_ ?_
        · refine zM <| zE oLt <| zE (oV (vb (decide (su < -1048576))) (mv_ok (by kernel_rfl))) <| ?_
          rcases hb7 : (decide (su < -1048576)) with _ | _
          · replace hb7 := of_decide_eq_false hb7
            exact zM <| zE oGt <| zE oPo <| zZ
          · replace hb7 := of_decide_eq_true hb7
            exact zK <| zK <| zE oPt <| zZ
        refine pwp_cond rfl (fun h8 => ?_) (fun h8 => ?_)
        · refine pwp_seq <| kx [(2, (vin 2))] [] (zM <| zZ) ?_
          refine pwp_ret ⟨_, (.tmp (d := (.val (.int .i64 (((2 : Nat) : Int))))) rfl .nil), ?_⟩
          first | (rw [show stnC sx sy sz su sv sf sa sb sc sd = rotC sa sb sc sd from stnC_q (by unfold stnP; simp_all <;> omega)]; rfl) | (rw [show stnC sx sy sz su sv sf sa sb sc sd = 2 from stnC_r (by unfold stnP; simp_all <;> omega)]; rfl)
        · refine pwp_skip <| kx [(22, (vin 4))] [] (zE (oAd 4 (hr := by decide)) <| zM <| zZ) ?_
          refine pwp_again (SimImp.refl _) ?_
          refine pwp_seq <| kx [(23, (vb true))] [] (zE (oBk true oLt) <| zZ) ?_
          refine pwp_seq <| pwp_cond (b := true) (by kernel_rfl) (fun _ => ?_) (fun h => by cases h)
          refine pwp_skip <| pwp_seq <| pwp_block <| pwp_seq <| kx [(4, (vi sv))] [] (zE (oXs el74 4) <| zE (oC1 sh3) <| zM <| zZ) ?_
          refine pwp_seq <| kx [(31, (vb (decide (sv < -1048576) || decide (((1048576 : Nat) : Int) < sv))))] [] ?_ ?_
          · refine zM <| zE oLt <| zE (oV (vb (decide (sv < -1048576))) (mv_ok (by kernel_rfl))) <| ?_
            rcases hb9 : (decide (sv < -1048576)) with _ | _
            · replace hb9 := of_decide_eq_false hb9
              exact zM <| zE oGt <| zE oPo <| zZ
            · replace hb9 := of_decide_eq_true hb9
              exact zK <| zK <| zE oPt <| zZ
          refine pwp_cond rfl (fun h10 => ?_) (fun h10 => ?_)
          · refine pwp_seq <| kx [(2, (vin 2))] [] (zM <| zZ) ?_
            refine pwp_ret ⟨_, (.tmp (d := (.val (.int .i64 (((2 : Nat) : Int))))) rfl .nil), ?_⟩
            first | (rw [show stnC sx sy sz su sv sf sa sb sc sd = rotC sa sb sc sd from stnC_q (by unfold stnP; simp_all <;> omega)]; rfl) | (rw [show stnC sx sy sz su sv sf sa sb sc sd = 2 from stnC_r (by unfold stnP; simp_all <;> omega)]; rfl)
          · refine pwp_skip <| kx [(22, (vin 5))] [] (zE (oAd 5 (hr := by decide)) <| zM <| zZ) ?_
            refine pwp_again (SimImp.refl _) ?_
            refine pwp_seq <| kx [(23, (vb false))] [] (zE (oBk false oLt) <| zZ) ?_
            refine pwp_seq <| pwp_cond (b := false) (by kernel_rfl) (fun h => by cases h) (fun _ => ?_)
            refine pwp_exit <| pwp_seq <| pwp_seq <| kx [(40, (vb (decide (sf < ((1 : Nat) : Int)) || decide (((1048576 : Nat) : Int) < sf))))] [] ?_ ?_
            · refine zE (oFr fo29_2) <| zR (oL1 sh3) <| zE oLt <| zE (oV (vb (decide (sf < ((1 : Nat) : Int)))) (mv_ok (by kernel_rfl))) <| ?_
              rcases hb11 : (decide (sf < ((1 : Nat) : Int))) with _ | _
              · replace hb11 := of_decide_eq_false hb11
                exact zE (oFr fo29_2) <| zR (oL1 sh3) <| zE oGt <| zE oPo <| zZ
              · replace hb11 := of_decide_eq_true hb11
                exact zK <| zK <| zK <| zE oPt <| zZ
            refine pwp_cond rfl (fun h12 => ?_) (fun h12 => ?_)
            · refine pwp_seq <| kx [(2, (vin 2))] [] (zM <| zZ) ?_
              refine pwp_ret ⟨_, (.tmp (d := (.val (.int .i64 (((2 : Nat) : Int))))) rfl .nil), ?_⟩
              first | (rw [show stnC sx sy sz su sv sf sa sb sc sd = rotC sa sb sc sd from stnC_q (by unfold stnP; simp_all <;> omega)]; rfl) | (rw [show stnC sx sy sz su sv sf sa sb sc sd = 2 from stnC_r (by unfold stnP; simp_all <;> omega)]; rfl)
            · refine pwp_skip <| pwp_seq <| kx [(2, (vin (rotC sa sb sc sd)))] [] (zE (oFr fo29_1) <| zR (oLa sh25) <| zE (oCl (q_chk sa sb sc sd)) <| zM <| zZ) ?_
              refine pwp_ret ⟨_, (.tmp (d := (.val (.int .i64 ((((rotC sa sb sc sd) : Nat) : Int))))) rfl .nil), ?_⟩
              first | (rw [show stnC sx sy sz su sv sf sa sb sc sd = rotC sa sb sc sd from stnC_q (by unfold stnP; simp_all <;> omega)]; rfl) | (rw [show stnC sx sy sz su sv sf sa sb sc sd = 2 from stnC_r (by unfold stnP; simp_all <;> omega)]; rfl)
theorem qs_stn (sx sy sz sa sb sc sd sf su sv : Int) : Takes Tryz.prog 75 [(encStn (RStn.mk (RSpot.mk sx sy sz) (RQuat.mk sa sb sc sd) sf (RPix.mk su sv)))] (.val (.int .i64 ((((stnC sx sy sz su sv sf sa sb sc sd) : Nat) : Int)))) := by
  refine fn_intro Tryz.func75 rfl cb75 rfl ?_
  show PWp _ _ _ _ ⟨[(0, (.d (encStn (RStn.mk (RSpot.mk sx sy sz) (RQuat.mk sa sb sc sd) sf (RPix.mk su sv)))))], []⟩
  refine pwp_seq <| kx [(1, (.ref 0 0))] [(0, some (bx (encStn (RStn.mk (RSpot.mk sx sy sz) (RQuat.mk sa sb sc sd) sf (RPix.mk su sv)))))] (zN (oBx 0) <| zM <| zZ) ?_
  refine pwp_seq <| pwp_seq <| kx [(20, (vl 3 1 enc_i64 [sx, sy, sz, su, sv])), (21, (vin 5)), (22, (vin 0))] [] (zE (oFr fo29_0) <| zE (oFr fo23_0) <| zR (oL1 sh3) <| zE (oFr fo29_0) <| zE (oFr fo23_1) <| zR (oL1 sh3) <| zE (oFr fo29_0) <| zE (oFr fo23_2) <| zR (oL1 sh3) <| zE (oFr fo29_3) <| zE (oFr fo27_0) <| zR (oL1 sh3) <| zE (oFr fo29_3) <| zE (oFr fo27_1) <| zR (oL1 sh3) <| zE (oBs el74 ze3 zo3) <| zE (oLn el74 5) <| zM <| zZ) ?_
  refine pwp_block <| pwp_rounds 20 ?_
  refine pwp_round <| pwp_seq <| kx [(23, (vb true))] [] (zE (oBk true oLt) <| zZ) ?_
  refine pwp_seq <| pwp_cond (b := true) (by kernel_rfl) (fun _ => ?_) (fun h => by cases h)
  refine pwp_skip <| pwp_seq <| pwp_block <| pwp_seq <| kx [(4, (vi sx))] [] (zE (oXs el74 0) <| zE (oC1 sh3) <| zM <| zZ) ?_
  refine pwp_seq <| kx [(31, (vb (decide (sx < -1048576) || decide (((1048576 : Nat) : Int) < sx))))] [] ?_ ?_
  · refine zM <| zE oLt <| zE (oV (vb (decide (sx < -1048576))) (mv_ok (by kernel_rfl))) <| ?_
    rcases hb1 : (decide (sx < -1048576)) with _ | _
    · replace hb1 := of_decide_eq_false hb1
      exact zM <| zE oGt <| zE oPo <| zZ
    · replace hb1 := of_decide_eq_true hb1
      exact zK <| zK <| zE oPt <| zZ
  refine pwp_cond rfl (fun h2 => ?_) (fun h2 => ?_)
  · refine pwp_seq <| kx [(2, (vin 2))] [] (zM <| zZ) ?_
    refine pwp_ret ⟨_, (.tmp (d := (.val (.int .i64 (((2 : Nat) : Int))))) rfl .nil), ?_⟩
    first | (rw [show stnC sx sy sz su sv sf sa sb sc sd = rotC sa sb sc sd from stnC_q (by unfold stnP; simp_all <;> omega)]; rfl) | (rw [show stnC sx sy sz su sv sf sa sb sc sd = 2 from stnC_r (by unfold stnP; simp_all <;> omega)]; rfl)
  · refine pwp_skip <| kx [(22, (vin 1))] [] (zE (oAd 1 (hr := by decide)) <| zM <| zZ) ?_
    refine pwp_again (SimImp.refl _) ?_
    refine pwp_seq <| kx [(23, (vb true))] [] (zE (oBk true oLt) <| zZ) ?_
    refine pwp_seq <| pwp_cond (b := true) (by kernel_rfl) (fun _ => ?_) (fun h => by cases h)
    refine pwp_skip <| pwp_seq <| pwp_block <| pwp_seq <| kx [(4, (vi sy))] [] (zE (oXs el74 1) <| zE (oC1 sh3) <| zM <| zZ) ?_
    refine pwp_seq <| kx [(31, (vb (decide (sy < -1048576) || decide (((1048576 : Nat) : Int) < sy))))] [] ?_ ?_
    · refine zM <| zE oLt <| zE (oV (vb (decide (sy < -1048576))) (mv_ok (by kernel_rfl))) <| ?_
      rcases hb3 : (decide (sy < -1048576)) with _ | _
      · replace hb3 := of_decide_eq_false hb3
        exact zM <| zE oGt <| zE oPo <| zZ
      · replace hb3 := of_decide_eq_true hb3
        exact zK <| zK <| zE oPt <| zZ
    refine pwp_cond rfl (fun h4 => ?_) (fun h4 => ?_)
    · refine pwp_seq <| kx [(2, (vin 2))] [] (zM <| zZ) ?_
      refine pwp_ret ⟨_, (.tmp (d := (.val (.int .i64 (((2 : Nat) : Int))))) rfl .nil), ?_⟩
      first | (rw [show stnC sx sy sz su sv sf sa sb sc sd = rotC sa sb sc sd from stnC_q (by unfold stnP; simp_all <;> omega)]; rfl) | (rw [show stnC sx sy sz su sv sf sa sb sc sd = 2 from stnC_r (by unfold stnP; simp_all <;> omega)]; rfl)
    · refine pwp_skip <| kx [(22, (vin 2))] [] (zE (oAd 2 (hr := by decide)) <| zM <| zZ) ?_
      refine pwp_again (SimImp.refl _) ?_
      refine pwp_seq <| kx [(23, (vb true))] [] (zE (oBk true oLt) <| zZ) ?_
      refine pwp_seq <| pwp_cond (b := true) (by kernel_rfl) (fun _ => ?_) (fun h => by cases h)
      refine pwp_skip <| pwp_seq <| pwp_block <| pwp_seq <| kx [(4, (vi sz))] [] (zE (oXs el74 2) <| zE (oC1 sh3) <| zM <| zZ) ?_
      refine pwp_seq <| kx [(31, (vb (decide (sz < -1048576) || decide (((1048576 : Nat) : Int) < sz))))] [] ?_ ?_
      · refine zM <| zE oLt <| zE (oV (vb (decide (sz < -1048576))) (mv_ok (by kernel_rfl))) <| ?_
        rcases hb5 : (decide (sz < -1048576)) with _ | _
        · replace hb5 := of_decide_eq_false hb5
          exact zM <| zE oGt <| zE oPo <| zZ
        · replace hb5 := of_decide_eq_true hb5
          exact zK <| zK <| zE oPt <| zZ
      refine pwp_cond rfl (fun h6 => ?_) (fun h6 => ?_)
      · refine pwp_seq <| kx [(2, (vin 2))] [] (zM <| zZ) ?_
        refine pwp_ret ⟨_, (.tmp (d := (.val (.int .i64 (((2 : Nat) : Int))))) rfl .nil), ?_⟩
        first | (rw [show stnC sx sy sz su sv sf sa sb sc sd = rotC sa sb sc sd from stnC_q (by unfold stnP; simp_all <;> omega)]; rfl) | (rw [show stnC sx sy sz su sv sf sa sb sc sd = 2 from stnC_r (by unfold stnP; simp_all <;> omega)]; rfl)
      · refine pwp_skip <| kx [(22, (vin 3))] [] (zE (oAd 3 (hr := by decide)) <| zM <| zZ) ?_
        refine pwp_again (SimImp.refl _) ?_
        refine pwp_seq <| pwp_sim (wk (l := [(1, (.ref 0 0)), (20, (vl 3 1 enc_i64 [sx, sy, sz, su, sv])), (21, (vin 5)), (22, (vin 3))]) (b := [(0, some (bx (encStn (RStn.mk (RSpot.mk sx sy sz) (RQuat.mk sa sb sc sd) sf (RPix.mk su sv)))))])) ?_
        refine kx [(23, (vb true))] [] (zE (oBk true oLt) <| zZ) ?_
        refine pwp_seq <| pwp_cond (b := true) (by kernel_rfl) (fun _ => ?_) (fun h => by cases h)
        refine pwp_skip <| pwp_seq <| pwp_block <| pwp_seq <| kx [(4, (vi su))] [] (zE (oXs el74 3) <| zE (oC1 sh3) <| zM <| zZ) ?_
        refine pwp_seq <| kx [(31, (vb (decide (su < -1048576) || decide (((1048576 : Nat) : Int) < su))))] [] ?_ ?_
        · refine zM <| zE oLt <| zE (oV (vb (decide (su < -1048576))) (mv_ok (by kernel_rfl))) <| ?_
          rcases hb7 : (decide (su < -1048576)) with _ | _
          · replace hb7 := of_decide_eq_false hb7
            exact zM <| zE oGt <| zE oPo <| zZ
          · replace hb7 := of_decide_eq_true hb7
            exact zK <| zK <| zE oPt <| zZ
        refine pwp_cond rfl (fun h8 => ?_) (fun h8 => ?_)
        · refine pwp_seq <| kx [(2, (vin 2))] [] (zM <| zZ) ?_
          refine pwp_ret ⟨_, (.tmp (d := (.val (.int .i64 (((2 : Nat) : Int))))) rfl .nil), ?_⟩
          first | (rw [show stnC sx sy sz su sv sf sa sb sc sd = rotC sa sb sc sd from stnC_q (by unfold stnP; simp_all <;> omega)]; rfl) | (rw [show stnC sx sy sz su sv sf sa sb sc sd = 2 from stnC_r (by unfold stnP; simp_all <;> omega)]; rfl)
        · refine pwp_skip <| kx [(22, (vin 4))] [] (zE (oAd 4 (hr := by decide)) <| zM <| zZ) ?_
          refine pwp_again (SimImp.refl _) ?_
          refine pwp_seq <| kx [(23, (vb true))] [] (zE (oBk true oLt) <| zZ) ?_
          refine pwp_seq <| pwp_cond (b := true) (by kernel_rfl) (fun _ => ?_) (fun h => by cases h)
          refine pwp_skip <| pwp_seq <| pwp_block <| pwp_seq <| kx [(4, (vi sv))] [] (zE (oXs el74 4) <| zE (oC1 sh3) <| zM <| zZ) ?_
          refine pwp_seq <| kx [(31, (vb (decide (sv < -1048576) || decide (((1048576 : Nat) : Int) < sv))))] [] ?_ ?_
          · refine zM <| zE oLt <| zE (oV (vb (decide (sv < -1048576))) (mv_ok (by kernel_rfl))) <| ?_
            rcases hb9 : (decide (sv < -1048576)) with _ | _
            · replace hb9 := of_decide_eq_false hb9
              exact zM <| zE oGt <| zE oPo <| zZ
            · replace hb9 := of_decide_eq_true hb9
              exact zK <| zK <| zE oPt <| zZ
          refine pwp_cond rfl (fun h10 => ?_) (fun h10 => ?_)
          · refine pwp_seq <| kx [(2, (vin 2))] [] (zM <| zZ) ?_
            refine pwp_ret ⟨_, (.tmp (d := (.val (.int .i64 (((2 : Nat) : Int))))) rfl .nil), ?_⟩
            first | (rw [show stnC sx sy sz su sv sf sa sb sc sd = rotC sa sb sc sd from stnC_q (by unfold stnP; simp_all <;> omega)]; rfl) | (rw [show stnC sx sy sz su sv sf sa sb sc sd = 2 from stnC_r (by unfold stnP; simp_all <;> omega)]; rfl)
          · refine pwp_skip <| kx [(22, (vin 5))] [] (zE (oAd 5 (hr := by decide)) <| zM <| zZ) ?_
            refine pwp_again (SimImp.refl _) ?_
            refine pwp_seq <| kx [(23, (vb false))] [] (zE (oBk false oLt) <| zZ) ?_
            refine pwp_seq <| pwp_cond (b := false) (by kernel_rfl) (fun h => by cases h) (fun _ => ?_)
            refine pwp_exit <| pwp_seq <| pwp_seq <| kx [(40, (vb (decide (sf < ((1 : Nat) : Int)) || decide (((1048576 : Nat) : Int) < sf))))] [] ?_ ?_
            · refine zE (oFr fo29_2) <| zR (oL1 sh3) <| zE oLt <| zE (oV (vb (decide (sf < ((1 : Nat) : Int)))) (mv_ok (by kernel_rfl))) <| ?_
              rcases hb11 : (decide (sf < ((1 : Nat) : Int))) with _ | _
              · replace hb11 := of_decide_eq_false hb11
                exact zE (oFr fo29_2) <| zR (oL1 sh3) <| zE oGt <| zE oPo <| zZ
              · replace hb11 := of_decide_eq_true hb11
                exact zK <| zK <| zK <| zE oPt <| zZ
            refine pwp_cond rfl (fun h12 => ?_) (fun h12 => ?_)
            · refine pwp_seq <| kx [(2, (vin 2))] [] (zM <| zZ) ?_
              refine pwp_ret ⟨_, (.tmp (d := (.val (.int .i64 (((2 : Nat) : Int))))) rfl .nil), ?_⟩
              first | (rw [show stnC sx sy sz su sv sf sa sb sc sd = rotC sa sb sc sd from stnC_q (by unfold stnP; simp_all <;> omega)]; rfl) | (rw [show stnC sx sy sz su sv sf sa sb sc sd = 2 from stnC_r (by unfold stnP; simp_all <;> omega)]; rfl)
            · refine pwp_skip <| pwp_seq <| kx [(2, (vin (rotC sa sb sc sd)))] [] (zE (oFr fo29_1) <| zR (oLa sh25) <| zE (oCl (qs_chk sa sb sc sd)) <| zM <| zZ) ?_
              refine pwp_ret ⟨_, (.tmp (d := (.val (.int .i64 ((((rotC sa sb sc sd) : Nat) : Int))))) rfl .nil), ?_⟩
              first | (rw [show stnC sx sy sz su sv sf sa sb sc sd = rotC sa sb sc sd from stnC_q (by unfold stnP; simp_all <;> omega)]; rfl) | (rw [show stnC sx sy sz su sv sf sa sb sc sd = 2 from stnC_r (by unfold stnP; simp_all <;> omega)]; rfl)
theorem q_inner (sx sy sz sa sb sc sd sf su sv : Int) (hsu : -1048576 ≤ su ∧ su ≤ 1048576) (hsv : -1048576 ≤ sv ∧ sv ≤ 1048576) (hsf : 1 ≤ sf ∧ sf ≤ 1048576) : Takes Tryz.prog 71 [(encStn (RStn.mk (RSpot.mk sx sy sz) (RQuat.mk sa sb sc sd) sf (RPix.mk su sv)))] (encA130 (A3.mk (A3.mk (ofQ ((1 : Int) : Rat)) (ofQ ((0 : Int) : Rat)) (ofQ ((-su : Int) : Rat))) (A3.mk (ofQ ((0 : Int) : Rat)) (ofQ ((1 : Int) : Rat)) (ofQ ((-sv : Int) : Rat))) (A3.mk (ofQ ((0 : Int) : Rat)) (ofQ ((0 : Int) : Rat)) (ofQ ((sf : Int) : Rat))))) := by
  let y1 := (A3.mk (RRat.mk (RInt.mk false []) (RInt.mk false [])) (RRat.mk (RInt.mk false []) (RInt.mk false [])) (RRat.mk (RInt.mk false []) (RInt.mk false [])))
  refine fn_intro Tryz.func71 rfl cb71 rfl ?_
  show PWp _ _ _ _ ⟨[(0, (.d (encStn (RStn.mk (RSpot.mk sx sy sz) (RQuat.mk sa sb sc sd) sf (RPix.mk su sv)))))], []⟩
  refine pwp_seq <| kx [(1, (.ref 0 0)), (2, (.ref 1 0))] [(0, some (bx (encStn (RStn.mk (RSpot.mk sx sy sz) (RQuat.mk sa sb sc sd) sf (RPix.mk su sv))))), (1, some (bx (encA130 (A3.mk y1 y1 y1))))] (zN (oBx 0) <| zN (oAl 1 ze131 zo131) <| zZ) ?_
  refine pwp_seq ?_
  have bn1 : QL ((1 : Int) : Rat) 3 := (ql_int (z := 1) (n := 3) (lenZ_int (by omega) (by omega)) (by decide))
  have bn2 : QL ((0 : Int) : Rat) 3 := (ql_int (z := 0) (n := 3) (lenZ_int (by omega) (by omega)) (by decide))
  have bn3 : QL ((-su : Int) : Rat) 3 := (ql_int (z := (-su)) (n := 3) (lenZ_int (by omega) (by omega)) (by decide))
  have bn4 : QL ((-sv : Int) : Rat) 3 := (ql_int (z := (-sv)) (n := 3) (lenZ_int (by omega) (by omega)) (by decide))
  have bn5 : QL ((sf : Int) : Rat) 3 := (ql_int (z := sf) (n := 3) (lenZ_int (by omega) (by omega)) (by decide))
  refine kd [] [(1, some (bx (encA130 (A3.mk (A3.mk (ofQ ((1 : Int) : Rat)) (ofQ ((0 : Int) : Rat)) (ofQ ((-su : Int) : Rat))) (A3.mk (ofQ ((0 : Int) : Rat)) (ofQ ((1 : Int) : Rat)) (ofQ ((-sv : Int) : Rat))) (A3.mk (ofQ ((0 : Int) : Rat)) (ofQ ((0 : Int) : Rat)) (ofQ ((sf : Int) : Rat)))))))] mo (wE (oFr fo29_3) <| wE (oFr fo27_0) <| wR (oL1 sh3) <| wE (oNg (-su)) <| wE (oCl (q_whole ((1 : Nat) : Int) (by omega) (by omega) ((0 : Nat) : Int) (by omega) (by omega) (-su) (by omega) (by omega))) <| wE (oFr fo29_3) <| wE (oFr fo27_1) <| wR (oL1 sh3) <| wE (oNg (-sv)) <| wE (oCl (q_whole ((0 : Nat) : Int) (by omega) (by omega) ((1 : Nat) : Int) (by omega) (by omega) (-sv) (by omega) (by omega))) <| wE (oFr fo29_2) <| wR (oL1 sh3) <| wE (oCl (q_whole ((0 : Nat) : Int) (by omega) (by omega) ((0 : Nat) : Int) (by omega) (by omega) sf (by omega) (by omega))) <| wE (oBf ar131 ze131 zo131) <| wT (oSt sh131) <| wZ) ?_
  refine pwp_ret ⟨_, (res_a (cs := (bx (encA130 (A3.mk (A3.mk (ofQ ((1 : Int) : Rat)) (ofQ ((0 : Int) : Rat)) (ofQ ((-su : Int) : Rat))) (A3.mk (ofQ ((0 : Int) : Rat)) (ofQ ((1 : Int) : Rat)) (ofQ ((-sv : Int) : Rat))) (A3.mk (ofQ ((0 : Int) : Rat)) (ofQ ((0 : Int) : Rat)) (ofQ ((sf : Int) : Rat))))))) (d := (encA130 (A3.mk (A3.mk (ofQ ((1 : Int) : Rat)) (ofQ ((0 : Int) : Rat)) (ofQ ((-su : Int) : Rat))) (A3.mk (ofQ ((0 : Int) : Rat)) (ofQ ((1 : Int) : Rat)) (ofQ ((-sv : Int) : Rat))) (A3.mk (ofQ ((0 : Int) : Rat)) (ofQ ((0 : Int) : Rat)) (ofQ ((sf : Int) : Rat)))))) rfl rfl sh131 rfl rfl .nil), ?_⟩
  rfl
theorem q_red (a0 a1 a2 : Rat) (ha0 : QL a0 10000000) (ha1 : QL a1 10000000) (ha2 : QL a2 10000000) (hz : zeroV a0 a1 a2 = false) : Takes Tryz.prog 127 [(encA43 (A3.mk (ofQ a0) (ofQ a1) (ofQ a2)))] (encA43 (A3.mk (ofQ (a0 * (redK a0 a1 a2))) (ofQ (a1 * (redK a0 a1 a2))) (ofQ (a2 * (redK a0 a1 a2))))) := by
  refine fn_intro Tryz.func127 rfl cb127 rfl ?_
  show PWp _ _ _ _ ⟨[(0, (.d (encA43 (A3.mk (ofQ a0) (ofQ a1) (ofQ a2)))))], []⟩
  refine pwp_seq <| kx [(1, (.ref 0 0)), (2, (.ref 1 0))] [(0, some (bx (encA43 (A3.mk (ofQ a0) (ofQ a1) (ofQ a2))))), (1, some (bx (encA43 (A3.mk (RRat.mk (RInt.mk false []) (RInt.mk false [])) (RRat.mk (RInt.mk false []) (RInt.mk false [])) (RRat.mk (RInt.mk false []) (RInt.mk false []))))))] (zN (oBx 0) <| zN (oAl 1 ze129 zo129) <| zZ) ?_
  refine pwp_seq ?_
  have bn1 : IOk (ofZ (((Int.gcd a1.num a2.num : Nat) : Int))) (((Int.gcd a1.num a2.num : Nat) : Int)) 10000000 := (iok_gcd (k := 10000000) (qok_num ha1) (qok_num ha2) (by decide))
  have bn2 : IOk (ofZ (((Int.gcd a0.num (((Int.gcd a1.num a2.num : Nat) : Int)) : Nat) : Int))) (((Int.gcd a0.num (((Int.gcd a1.num a2.num : Nat) : Int)) : Nat) : Int)) 10000000 := (iok_gcd (k := 10000000) (qok_num ha0) bn1 (by decide))
  refine kd [(3, (.ref 2 0))] [(2, some (bx (encI (ofZ ((Int.gcd a0.num (((Int.gcd a1.num a2.num : Nat) : Int)) : Nat) : Int)))))] mo (wE (oXr ar129 0) <| wE (oFr fo42_0) <| wR (oLa sh40) <| wE (oXr ar129 1) <| wE (oFr fo42_0) <| wR (oLa sh40) <| wE (oXr ar129 2) <| wE (oFr fo42_0) <| wR (oLa sh40) <| wE (oCl (s_gcd (qok_num ha1) (qok_num ha2) (by decide) (by decide))) <| wE (oCl (s_gcd (qok_num ha0) bn1 (by decide) (by decide))) <| wN (oAl 2 ze40 zo40) <| wT (oSt sh40) <| wZ) ?_
  refine pwp_seq ?_
  have bn3 : QL (Rat.divInt 1 (((Int.gcd a0.num (((Int.gcd a1.num a2.num : Nat) : Int)) : Nat) : Int))) 10000000 := (ql_divInt (n := 10000000) (Nat.le_trans (IOk.ln (iok_small (z := 1) (by decide))) (by decide)) (Nat.le_trans (IOk.ln bn2) (by decide)) (by decide))
  refine kd [(4, (.ref 3 0))] [(3, some (bx (encR (ofQ (Rat.divInt 1 (((Int.gcd a0.num (((Int.gcd a1.num a2.num : Nat) : Int)) : Nat) : Int)))))))] mo (wE (oCl (t_of 1 (by decide) (by decide))) <| wR (oLa sh40) <| wE (oCl (f_newO (ofZ 1) 1 (iok_up (iok_small (z := 1) (by decide)) (by decide)) (ofZ ((Int.gcd a0.num (((Int.gcd a1.num a2.num : Nat) : Int)) : Nat) : Int)) (((Int.gcd a0.num (((Int.gcd a1.num a2.num : Nat) : Int)) : Nat) : Int)) (iu bn2) (gcd3_ne hz))) <| wM <| wE oEx <| wE oEx <| wN (oAl 3 ze42 zo42) <| wT (oSt sh42) <| wM <| wZ) ?_
  refine pwp_seq <| kx [] [(1, some (bx (encA43 (A3.mk (ofQ (a0 * (Rat.divInt 1 (((Int.gcd a0.num (((Int.gcd a1.num a2.num : Nat) : Int)) : Nat) : Int))))) (ofQ (a1 * (Rat.divInt 1 (((Int.gcd a0.num (((Int.gcd a1.num a2.num : Nat) : Int)) : Nat) : Int))))) (ofQ (a2 * (Rat.divInt 1 (((Int.gcd a0.num (((Int.gcd a1.num a2.num : Nat) : Int)) : Nat) : Int)))))))))] (zR (oLa sh129) <| zR (oLa sh42) <| zE (oCl (q_scaled a0 a1 a2 (ql_up ha0 (by decide)) (ql_up ha1 (by decide)) (ql_up ha2 (by decide)) (Rat.divInt 1 (((Int.gcd a0.num (((Int.gcd a1.num a2.num : Nat) : Int)) : Nat) : Int))) (ql_up bn3 (by decide)))) <| zT (oSt sh129) <| zZ) ?_
  refine pwp_ret ⟨_, (res_a (cs := (bx (encA43 (A3.mk (ofQ (a0 * (Rat.divInt 1 (((Int.gcd a0.num (((Int.gcd a1.num a2.num : Nat) : Int)) : Nat) : Int))))) (ofQ (a1 * (Rat.divInt 1 (((Int.gcd a0.num (((Int.gcd a1.num a2.num : Nat) : Int)) : Nat) : Int))))) (ofQ (a2 * (Rat.divInt 1 (((Int.gcd a0.num (((Int.gcd a1.num a2.num : Nat) : Int)) : Nat) : Int))))))))) (d := (encA43 (A3.mk (ofQ (a0 * (Rat.divInt 1 (((Int.gcd a0.num (((Int.gcd a1.num a2.num : Nat) : Int)) : Nat) : Int))))) (ofQ (a1 * (Rat.divInt 1 (((Int.gcd a0.num (((Int.gcd a1.num a2.num : Nat) : Int)) : Nat) : Int))))) (ofQ (a2 * (Rat.divInt 1 (((Int.gcd a0.num (((Int.gcd a1.num a2.num : Nat) : Int)) : Nat) : Int)))))))) rfl rfl sh129 rfl rfl .nil), ?_⟩
  rfl
theorem qs_red (a0 a1 a2 : Rat) (ha0 : QL a0 10000000) (ha1 : QL a1 10000000) (ha2 : QL a2 10000000) (hz : zeroV a0 a1 a2 = false) : Takes Tryz.prog 80 [(encA43 (A3.mk (ofQ a0) (ofQ a1) (ofQ a2)))] (encA43 (A3.mk (ofQ (a0 * (redK a0 a1 a2))) (ofQ (a1 * (redK a0 a1 a2))) (ofQ (a2 * (redK a0 a1 a2))))) := by
  let y1 := (RRat.mk (RInt.mk false []) (RInt.mk false []))
  refine fn_intro Tryz.func80 rfl cb80 rfl ?_
  show PWp _ _ _ _ ⟨[(0, (.d (encA43 (A3.mk (ofQ a0) (ofQ a1) (ofQ a2)))))], []⟩
  refine pwp_seq <| kx [(1, (.ref 0 0)), (2, (.ref 1 0))] [(0, some (bx (encA43 (A3.mk (ofQ a0) (ofQ a1) (ofQ a2))))), (1, some (bx (encA43 (A3.mk y1 y1 y1))))] (zN (oBx 0) <| zN (oAl 1 ze44 zo44) <| zZ) ?_
  refine pwp_seq <| kx [(3, (.ref 2 0))] [(2, some (bx (encI (ofZ 0))))] (zE (oCl (r_of 0 (by decide) (by decide))) <| zN (oAl 2 ze40 zo40) <| zT (oSt sh40) <| zZ) ?_
  refine pwp_seq <| pwp_seq <| kx [(9, (.d (encA43 (A3.mk (ofQ a0) (ofQ a1) (ofQ a2))))), (10, (vin 0))] [] (zR (oLa sh44) <| zM <| zZ) ?_
  refine pwp_block <| pwp_rounds 20 ?_
  refine pwp_round <| pwp_seq <| kx [(11, (vb true))] [] (zE (oBk true oLt) <| zZ) ?_
  refine pwp_seq <| pwp_cond (b := true) (by kernel_rfl) (fun _ => ?_) (fun h => by cases h)
  refine pwp_skip <| pwp_seq <| pwp_block <| pwp_seq <| kx [(5, (.ref 3 0))] [(3, some (bx (encR (ofQ a0))))] (zE (oXa ar44 sh42 (fun h => by cases h) 0) <| zN (oAl 3 ze42 zo42) <| zT (oSt sh42) <| zZ) ?_
  have bn1 : IOk (ofZ (((Int.gcd 0 a0.num : Nat) : Int))) (((Int.gcd 0 a0.num : Nat) : Int)) 10000000 := (iok_gcd (k := 10000000) (iok_small (z := 0) (by decide)) (qok_num ha0) (by decide))
  refine kx [] [(2, some (bx (encI (ofZ ((Int.gcd 0 a0.num : Nat) : Int)))))] (zR (oLa sh40) <| zE (oFr fo42_0) <| zR (oLa sh40) <| zE (oCl (rs_gcd (iok_small (z := 0) (by decide)) (qok_num ha0) (by decide) (by decide))) <| zT (oSt sh40) <| zZ) ?_
  refine kx [(10, (vin 1))] [] (zE (oAd 1 (hr := by decide)) <| zM <| zZ) ?_
  refine pwp_again (SimImp.refl _) ?_
  refine pwp_seq <| kx [(11, (vb true))] [] (zE (oBk true oLt) <| zZ) ?_
  refine pwp_seq <| pwp_cond (b := true) (by kernel_rfl) (fun _ => ?_) (fun h => by cases h)
  refine pwp_skip <| pwp_seq <| pwp_block <| pwp_seq <| kx [(5, (.ref 4 0))] [(4, some (bx (encR (ofQ a1))))] (zE (oXa ar44 sh42 (fun h => by cases h) 1) <| zN (oAl 4 ze42 zo42) <| zT (oSt sh42) <| zZ) ?_
  have bn2 : IOk (ofZ (((Int.gcd (((Int.gcd 0 a0.num : Nat) : Int)) a1.num : Nat) : Int))) (((Int.gcd (((Int.gcd 0 a0.num : Nat) : Int)) a1.num : Nat) : Int)) 10000000 := (iok_gcd (k := 10000000) bn1 (qok_num ha1) (by decide))
  refine kx [] [(2, some (bx (encI (ofZ ((Int.gcd (((Int.gcd 0 a0.num : Nat) : Int)) a1.num : Nat) : Int)))))] (zR (oLa sh40) <| zE (oFr fo42_0) <| zR (oLa sh40) <| zE (oCl (rs_gcd bn1 (qok_num ha1) (by decide) (by decide))) <| zT (oSt sh40) <| zZ) ?_
  refine kx [(10, (vin 2))] [] (zE (oAd 2 (hr := by decide)) <| zM <| zZ) ?_
  refine pwp_again (SimImp.refl _) ?_
  refine pwp_seq <| kx [(11, (vb true))] [] (zE (oBk true oLt) <| zZ) ?_
  refine pwp_seq <| pwp_cond (b := true) (by kernel_rfl) (fun _ => ?_) (fun h => by cases h)
  refine pwp_skip <| pwp_seq <| pwp_block <| pwp_seq <| kx [(5, (.ref 5 0))] [(5, some (bx (encR (ofQ a2))))] (zE (oXa ar44 sh42 (fun h => by cases h) 2) <| zN (oAl 5 ze42 zo42) <| zT (oSt sh42) <| zZ) ?_
  have bn3 : IOk (ofZ (gcd3 a0 a1 a2)) (gcd3 a0 a1 a2) 10000000 := (iok_eqz (gcd3_ref a0 a1 a2).symm (iok_gcd (k := 10000000) bn2 (qok_num ha2) (by decide)))
  refine kx [] [(2, some (bx (encI (ofZ (gcd3 a0 a1 a2)))))] (zR (oLa sh40) <| zE (oFr fo42_0) <| zR (oLa sh40) <| zE (oCl (by have h := rs_gcd bn2 (qok_num ha2) (by decide) (by decide); rw [(gcd3_ref a0 a1 a2)] at h; exact h)) <| zT (oSt sh40) <| zZ) ?_
  refine pwp_sim (wk (l := [(1, (.ref 0 0)), (2, (.ref 1 0)), (3, (.ref 2 0)), (9, (.d (encA43 (A3.mk (ofQ a0) (ofQ a1) (ofQ a2))))), (10, (vin 2))]) (b := [(0, some (bx (encA43 (A3.mk (ofQ a0) (ofQ a1) (ofQ a2))))), (1, some (bx (encA43 (A3.mk y1 y1 y1)))), (2, some (bx (encI (ofZ (gcd3 a0 a1 a2)))))])) ?_
  refine kx [(10, (vin 3))] [] (zE (oAd 3 (hr := by decide)) <| zM <| zZ) ?_
  refine pwp_again (SimImp.refl _) ?_
  refine pwp_seq <| kx [(11, (vb false))] [] (zE (oBk false oLt) <| zZ) ?_
  refine pwp_seq <| pwp_cond (b := false) (by kernel_rfl) (fun h => by cases h) (fun _ => ?_)
  refine pwp_exit <| pwp_seq ?_
  have bn4 : QL (Rat.divInt 1 (gcd3 a0 a1 a2)) 10000000 := (ql_divInt (n := 10000000) (Nat.le_trans (IOk.ln (iok_small (z := 1) (by decide))) (by decide)) (Nat.le_trans (IOk.ln bn3) (by decide)) (by decide))
  refine kd [(6, (.ref 6 0))] [(6, some (bx (encR (ofQ (Rat.divInt 1 (gcd3 a0 a1 a2))))))] mo (wE (oCl (r_of 1 (by decide) (by decide))) <| wR (oLa sh40) <| wE (oCl (g_newO (ofZ 1) 1 (iok_up (iok_small (z := 1) (by decide)) (by decide)) (ofZ (gcd3 a0 a1 a2)) (gcd3 a0 a1 a2) (iu bn3) (gcd3_ne hz))) <| wM <| wE oEx <| wE oEx <| wN (oAl 6 ze42 zo42) <| wT (oSt sh42) <| wM <| wZ) ?_
  refine pwp_seq <| kx [] [(1, some (bx (encA43 (A3.mk (ofQ (a0 * (Rat.divInt 1 (gcd3 a0 a1 a2)))) (ofQ (a1 * (Rat.divInt 1 (gcd3 a0 a1 a2)))) (ofQ (a2 * (Rat.divInt 1 (gcd3 a0 a1 a2))))))))] (zR (oLa sh44) <| zR (oLa sh42) <| zE (oCl (qs_scaled a0 a1 a2 (ql_up ha0 (by decide)) (ql_up ha1 (by decide)) (ql_up ha2 (by decide)) (Rat.divInt 1 (gcd3 a0 a1 a2)) (ql_up bn4 (by decide)))) <| zT (oSt sh44) <| zZ) ?_
  refine pwp_ret ⟨_, (res_a (cs := (bx (encA43 (A3.mk (ofQ (a0 * (Rat.divInt 1 (gcd3 a0 a1 a2)))) (ofQ (a1 * (Rat.divInt 1 (gcd3 a0 a1 a2)))) (ofQ (a2 * (Rat.divInt 1 (gcd3 a0 a1 a2)))))))) (d := (encA43 (A3.mk (ofQ (a0 * (Rat.divInt 1 (gcd3 a0 a1 a2)))) (ofQ (a1 * (Rat.divInt 1 (gcd3 a0 a1 a2)))) (ofQ (a2 * (Rat.divInt 1 (gcd3 a0 a1 a2))))))) rfl rfl sh44 rfl rfl .nil), ?_⟩
  rfl
theorem q_isz (a0 a1 a2 : Rat) (ha0 : QL a0 100000000) (ha1 : QL a1 100000000) (ha2 : QL a2 100000000) : Takes Tryz.prog 128 [(encA43 (A3.mk (ofQ a0) (ofQ a1) (ofQ a2)))] (.val (.bool ((zeroV a0 a1 a2)))) := by
  refine fn_intro Tryz.func128 rfl cb128 rfl ?_
  show PWp _ _ _ _ ⟨[(0, (.d (encA43 (A3.mk (ofQ a0) (ofQ a1) (ofQ a2)))))], []⟩
  refine pwp_seq <| kx [(1, (.ref 0 0))] [(0, some (bx (encA43 (A3.mk (ofQ a0) (ofQ a1) (ofQ a2)))))] (zN (oBx 0) <| zM <| zZ) ?_
  refine pwp_seq <| kx [(2, (vb ((signQ (dot3 a0 a1 a2 a0 a1 a2)) == 0)))] [] (zR (oLa sh129) <| zR (oLa sh129) <| zE (oCl (q_dot a0 a1 a2 ha0 ha1 ha2 a0 a1 a2 ha0 ha1 ha2)) <| zE (oCl (f_sign (ofQ (dot3 a0 a1 a2 a0 a1 a2)) (dot3 a0 a1 a2 a0 a1 a2) (qok_up (qok_of (ql_dot3 (n := 100000000) (k := 600000002) ha0 ha1 ha2 ha0 ha1 ha2 (by decide))) (by decide)))) <| zE oEq <| zM <| zZ) ?_
  refine pwp_ret ⟨_, (.tmp (d := (.val (.bool (((signQ (dot3 a0 a1 a2 a0 a1 a2)) == 0))))) rfl .nil), ?_⟩
  rw [← zeroV_dot]; rfl
theorem qs_zero (a0 a1 a2 : Rat) (ha0 : QL a0 100000000) (ha1 : QL a1 100000000) (ha2 : QL a2 100000000) : Takes Tryz.prog 79 [(encA43 (A3.mk (ofQ a0) (ofQ a1) (ofQ a2)))] (.val (.bool ((zeroV a0 a1 a2)))) := by
  refine fn_intro Tryz.func79 rfl cb79 rfl ?_
  show PWp _ _ _ _ ⟨[(0, (.d (encA43 (A3.mk (ofQ a0) (ofQ a1) (ofQ a2)))))], []⟩
  refine pwp_seq <| kx [(1, (.ref 0 0))] [(0, some (bx (encA43 (A3.mk (ofQ a0) (ofQ a1) (ofQ a2)))))] (zN (oBx 0) <| zM <| zZ) ?_
  refine pwp_seq <| kx [(2, (vb ((((signQ a0) == 0) && ((signQ a1) == 0)) && ((signQ a2) == 0))))] [] ?_ ?_
  · refine zE (oXr ar44 0) <| zR (oLa sh42) <| zE (oCl (g_sign (ofQ a0) a0 (qok_up (qok_of ha0) (by decide)))) <| zE oEq <| zE (oV (vb ((signQ a0) == 0)) (mv_ok (by kernel_rfl))) <| ?_
    rcases hb1 : ((signQ a0) == 0) with _ | _
    · replace hb1 := ne_of_beq_false hb1
      exact zK <| zK <| zK <| zK <| zE oPf <| zM <| zK <| zK <| zK <| zK <| zE oPf <| zM <| zZ
    · replace hb1 := eq_of_beq hb1
      refine zE (oXr ar44 1) <| zR (oLa sh42) <| zE (oCl (g_sign (ofQ a1) a1 (qok_up (qok_of ha1) (by decide)))) <| zE oEq <| zE oPa <| zE (oV (vb (true && ((signQ a1) == 0))) (mv_ok (by kernel_rfl))) <| ?_
      rcases hb2 : (true && ((signQ a1) == 0)) with _ | _
      · exact zK <| zK <| zK <| zK <| zE oPf <| zM <| zZ
      · exact zE (oXr ar44 2) <| zR (oLa sh42) <| zE (oCl (g_sign (ofQ a2) a2 (qok_up (qok_of ha2) (by decide)))) <| zE oEq <| zE oPa <| zM <| zZ
  refine pwp_ret ⟨_, (.tmp (d := (.val (.bool (((((signQ a0) == 0) && ((signQ a1) == 0)) && ((signQ a2) == 0)))))) rfl .nil), ?_⟩
  rw [zeroV_sgn]; rfl
end Go.Proofs.YtbecgnplakngdaaGreat
