/- Part 9 of a proof: rules, plain facts, and functions walked. -/
import Derived.Test.YtbecgnplakngdaaGreatM8
import Derived.Test.YtbecgnplakngdaaGreatM4
import Derived.Test.YtbecgnplakngdaaGreatM7
namespace Go.Proofs.YtbecgnplakngdaaGreat
open Go.Fid
set_option maxRecDepth 4000
set_option linter.unusedVariables false
set_option linter.unusedSimpArgs false
theorem ar129 : arrB Tryz.prog 129 = some (3, 42, 4) := by kernel_rfl
theorem ar131 : arrB Tryz.prog 131 = some (3, 129, 12) := by kernel_rfl
theorem cb72 : callB Tryz.prog 72 = true := by kernel_rfl
theorem cb73 : callB Tryz.prog 73 = true := by kernel_rfl
theorem cb96 : callB Tryz.prog 96 = true := by kernel_rfl
theorem cb98 : callB Tryz.prog 98 = true := by kernel_rfl
theorem cb101 : callB Tryz.prog 101 = true := by kernel_rfl
theorem cb106 : callB Tryz.prog 106 = true := by kernel_rfl
theorem cb107 : callB Tryz.prog 107 = true := by kernel_rfl
theorem cb141 : callB Tryz.prog 141 = true := by kernel_rfl
theorem el52 : elemB Tryz.prog 52 = some (42, 4) := by kernel_rfl
theorem sh129 : shapeB Tryz.prog 129 = some (true, 12) := by kernel_rfl
theorem sh131 : shapeB Tryz.prog 131 = some (true, 36) := by kernel_rfl
theorem ze129 : zeroB Tryz.prog 129 = some [.bool false, .slice none 0 0, .bool false, .slice none 0 0, .bool false, .slice none 0 0, .bool false, .slice none 0 0, .bool false, .slice none 0 0, .bool false, .slice none 0 0] := by kernel_rfl
theorem ze131 : zeroB Tryz.prog 131 = some [.bool false, .slice none 0 0, .bool false, .slice none 0 0, .bool false, .slice none 0 0, .bool false, .slice none 0 0, .bool false, .slice none 0 0, .bool false, .slice none 0 0, .bool false, .slice none 0 0, .bool false, .slice none 0 0, .bool false, .slice none 0 0, .bool false, .slice none 0 0, .bool false, .slice none 0 0, .bool false, .slice none 0 0, .bool false, .slice none 0 0, .bool false, .slice none 0 0, .bool false, .slice none 0 0, .bool false, .slice none 0 0, .bool false, .slice none 0 0, .bool false, .slice none 0 0] := by kernel_rfl
theorem zo129 : ZOk [.bool false, .slice none 0 0, .bool false, .slice none 0 0, .bool false, .slice none 0 0, .bool false, .slice none 0 0, .bool false, .slice none 0 0, .bool false, .slice none 0 0] [.val (.bool false), .sl 152 1 [], .val (.bool false), .sl 152 1 [], .val (.bool false), .sl 152 1 [], .val (.bool false), .sl 152 1 [], .val (.bool false), .sl 152 1 [], .val (.bool false), .sl 152 1 []] := by simp [ZOk, Value.oneCell']
theorem zo131 : ZOk [.bool false, .slice none 0 0, .bool false, .slice none 0 0, .bool false, .slice none 0 0, .bool false, .slice none 0 0, .bool false, .slice none 0 0, .bool false, .slice none 0 0, .bool false, .slice none 0 0, .bool false, .slice none 0 0, .bool false, .slice none 0 0, .bool false, .slice none 0 0, .bool false, .slice none 0 0, .bool false, .slice none 0 0, .bool false, .slice none 0 0, .bool false, .slice none 0 0, .bool false, .slice none 0 0, .bool false, .slice none 0 0, .bool false, .slice none 0 0, .bool false, .slice none 0 0] [.val (.bool false), .sl 152 1 [], .val (.bool false), .sl 152 1 [], .val (.bool false), .sl 152 1 [], .val (.bool false), .sl 152 1 [], .val (.bool false), .sl 152 1 [], .val (.bool false), .sl 152 1 [], .val (.bool false), .sl 152 1 [], .val (.bool false), .sl 152 1 [], .val (.bool false), .sl 152 1 [], .val (.bool false), .sl 152 1 [], .val (.bool false), .sl 152 1 [], .val (.bool false), .sl 152 1 [], .val (.bool false), .sl 152 1 [], .val (.bool false), .sl 152 1 [], .val (.bool false), .sl 152 1 [], .val (.bool false), .sl 152 1 [], .val (.bool false), .sl 152 1 [], .val (.bool false), .sl 152 1 []] := by simp [ZOk, Value.oneCell']
theorem q_dotF (ta : Nat) (a0 a1 a2 : Rat) (ha0 : QL a0 100000000) (ha1 : QL a1 100000000) (ha2 : QL a2 100000000) (tb : Nat) (b0 b1 b2 : Rat) (hb0 : QL b0 100000000) (hb1 : QL b1 100000000) (hb2 : QL b2 100000000) : Takes Tryz.prog 141 [(.sl ta 4 (List.map encR [(ofQ a0), (ofQ a1), (ofQ a2)])), (.sl tb 4 (List.map encR [(ofQ b0), (ofQ b1), (ofQ b2)]))] (.tup [(encR (ofQ (dot3 a0 a1 a2 b0 b1 b2))), (.val (.int .i64 (0)))]) := by
  refine fn_intro Tryz.func141 rfl cb141 rfl ?_
  show PWp _ _ _ _ ⟨[(0, (vl ta 4 encR [(ofQ a0), (ofQ a1), (ofQ a2)])), (1, (vl tb 4 encR [(ofQ b0), (ofQ b1), (ofQ b2)]))], []⟩
  refine pwp_seq <| kx [(4, (.ref 0 0))] [(0, some (bx (encR (RRat.mk (RInt.mk false []) (RInt.mk false [])))))] (zN (oAl 0 ze42 zo42) <| zM <| zZ) ?_
  refine pwp_seq <| pwp_seq <| kx [(13, (vb false))] [] (zM <| zE (oLn el52 3) <| zM <| zE (oLn el52 3) <| zE oNe <| zZ) ?_
  refine pwp_cond (b := false) (by kernel_rfl) (fun h => by cases h) (fun _ => ?_)
  refine pwp_skip <| pwp_seq ?_
  have bn1 : QL ((0 : Int) : Rat) 1 := (ql_int (z := 0) (lenZ_one (by decide)) (by decide))
  refine kx [(6, (.ref 1 0))] [(1, some (bx (encR (ofQ ((0 : Int) : Rat)))))] (zE (oCl (f_whole 0 (by decide) (by decide))) <| zN (oAl 1 ze42 zo42) <| zT (oSt sh42) <| zZ) ?_
  refine pwp_seq <| pwp_seq <| kx [(16, (vl ta 4 encR [(ofQ a0), (ofQ a1), (ofQ a2)])), (17, (vin 3)), (18, (vin 0))] [] (zM <| zE (oLn el52 3) <| zM <| zZ) ?_
  refine pwp_block <| pwp_rounds 20 ?_
  refine pwp_round <| pwp_seq <| kx [(19, (vb true))] [] (zE (oBk true oLt) <| zZ) ?_
  refine pwp_seq <| pwp_cond (b := true) (by kernel_rfl) (fun _ => ?_) (fun h => by cases h)
  refine pwp_skip <| pwp_seq <| pwp_block <| pwp_seq <| kx [(7, (vin 0)), (8, (.ref 2 0))] [(2, some (bx (encR (ofQ a0))))] (zM <| zE (oXs el52 0) <| zE (oCa sh42) <| zN (oAl 2 ze42 zo42) <| zM <| zT (oSt sh42) <| zZ) ?_
  have bn2 : QL (((0 : Int) : Rat) + (a0 * b0)) 200000002 := (ql_add (k := 200000002) bn1 (ql_mul (k := 200000000) ha0 hb0 (by decide)) (by decide))
  refine kd [] [(1, some (bx (encR (ofQ (((0 : Int) : Rat) + (a0 * b0))))))] mo (wR (oLa sh42) <| wR (oLa sh42) <| wM <| wM <| wE (oXs el52 0) <| wE (oCa sh42) <| wE (oCl (f_mul (ofQ a0) (ofQ b0) a0 b0 (qok_up (qok_of ha0) (by decide)) (qok_up (qok_of hb0) (by decide)))) <| wE (oCl (f_add (ofQ ((0 : Int) : Rat)) (ofQ (a0 * b0)) ((0 : Int) : Rat) (a0 * b0) (qok_up (qok_of bn1) (by decide)) (qok_up (qok_of (ql_mul (k := 200000000) ha0 hb0 (by decide))) (by decide)))) <| wT (oSt sh42) <| wZ) ?_
  refine kx [(18, (vin 1))] [] (zE (oAd 1 (hr := by decide)) <| zM <| zZ) ?_
  refine pwp_again (SimImp.refl _) ?_
  refine pwp_seq <| kx [(19, (vb true))] [] (zE (oBk true oLt) <| zZ) ?_
  refine pwp_seq <| pwp_cond (b := true) (by kernel_rfl) (fun _ => ?_) (fun h => by cases h)
  refine pwp_skip <| pwp_seq <| pwp_block <| pwp_seq <| kx [(7, (vin 1)), (8, (.ref 3 0))] [(3, some (bx (encR (ofQ a1))))] (zM <| zE (oXs el52 1) <| zE (oCa sh42) <| zN (oAl 3 ze42 zo42) <| zM <| zT (oSt sh42) <| zZ) ?_
  have bn3 : QL ((((0 : Int) : Rat) + (a0 * b0)) + (a1 * b1)) 400000003 := (ql_add (k := 400000003) bn2 (ql_mul (k := 200000000) ha1 hb1 (by decide)) (by decide))
  refine kd [] [(1, some (bx (encR (ofQ ((((0 : Int) : Rat) + (a0 * b0)) + (a1 * b1))))))] mo (wR (oLa sh42) <| wR (oLa sh42) <| wM <| wM <| wE (oXs el52 1) <| wE (oCa sh42) <| wE (oCl (f_mul (ofQ a1) (ofQ b1) a1 b1 (qok_up (qok_of ha1) (by decide)) (qok_up (qok_of hb1) (by decide)))) <| wE (oCl (f_add (ofQ (((0 : Int) : Rat) + (a0 * b0))) (ofQ (a1 * b1)) (((0 : Int) : Rat) + (a0 * b0)) (a1 * b1) (qok_up (qok_of bn2) (by decide)) (qok_up (qok_of (ql_mul (k := 200000000) ha1 hb1 (by decide))) (by decide)))) <| wT (oSt sh42) <| wZ) ?_
  refine kx [(18, (vin 2))] [] (zE (oAd 2 (hr := by decide)) <| zM <| zZ) ?_
  refine pwp_again (SimImp.refl _) ?_
  refine pwp_seq <| kx [(19, (vb true))] [] (zE (oBk true oLt) <| zZ) ?_
  refine pwp_seq <| pwp_cond (b := true) (by kernel_rfl) (fun _ => ?_) (fun h => by cases h)
  refine pwp_skip <| pwp_seq <| pwp_block <| pwp_seq <| kx [(7, (vin 2)), (8, (.ref 4 0))] [(4, some (bx (encR (ofQ a2))))] (zM <| zE (oXs el52 2) <| zE (oCa sh42) <| zN (oAl 4 ze42 zo42) <| zM <| zT (oSt sh42) <| zZ) ?_
  refine pwp_sim (wk (l := [(1, (vl tb 4 encR [(ofQ b0), (ofQ b1), (ofQ b2)])), (4, (.ref 0 0)), (6, (.ref 1 0)), (7, (vin 2)), (8, (.ref 4 0)), (16, (vl ta 4 encR [(ofQ a0), (ofQ a1), (ofQ a2)])), (17, (vin 3)), (18, (vin 2))]) (b := [(0, some (bx (encR (RRat.mk (RInt.mk false []) (RInt.mk false []))))), (1, some (bx (encR (ofQ ((((0 : Int) : Rat) + (a0 * b0)) + (a1 * b1)))))), (4, some (bx (encR (ofQ a2))))])) ?_
  have bn4 : QL (((((0 : Int) : Rat) + (a0 * b0)) + (a1 * b1)) + (a2 * b2)) 600000004 := (ql_add (k := 600000004) bn3 (ql_mul (k := 200000000) ha2 hb2 (by decide)) (by decide))
  refine kd [] [(1, some (bx (encR (ofQ (((((0 : Int) : Rat) + (a0 * b0)) + (a1 * b1)) + (a2 * b2))))))] mo (wR (oLa sh42) <| wR (oLa sh42) <| wM <| wM <| wE (oXs el52 2) <| wE (oCa sh42) <| wE (oCl (f_mul (ofQ a2) (ofQ b2) a2 b2 (qok_up (qok_of ha2) (by decide)) (qok_up (qok_of hb2) (by decide)))) <| wE (oCl (f_add (ofQ ((((0 : Int) : Rat) + (a0 * b0)) + (a1 * b1))) (ofQ (a2 * b2)) ((((0 : Int) : Rat) + (a0 * b0)) + (a1 * b1)) (a2 * b2) (qok_up (qok_of bn3) (by decide)) (qok_up (qok_of (ql_mul (k := 200000000) ha2 hb2 (by decide))) (by decide)))) <| wT (oSt sh42) <| wZ) ?_
  refine kx [(18, (vin 3))] [] (zE (oAd 3 (hr := by decide)) <| zM <| zZ) ?_
  refine pwp_again (SimImp.refl _) ?_
  refine pwp_seq <| kx [(19, (vb false))] [] (zE (oBk false oLt) <| zZ) ?_
  refine pwp_seq <| pwp_cond (b := false) (by kernel_rfl) (fun h => by cases h) (fun _ => ?_)
  refine pwp_exit <| pwp_seq <| kx [(5, (vin 0))] [(0, some (bx (encR (ofQ (((((0 : Int) : Rat) + (a0 * b0)) + (a1 * b1)) + (a2 * b2))))))] (zR (oLa sh42) <| zT (oSt sh42) <| zM <| zZ) ?_
  refine pwp_ret ⟨_, (res_a (cs := (bx (encR (ofQ (((((0 : Int) : Rat) + (a0 * b0)) + (a1 * b1)) + (a2 * b2)))))) (d := (encR (ofQ (((((0 : Int) : Rat) + (a0 * b0)) + (a1 * b1)) + (a2 * b2))))) rfl rfl sh42 rfl rfl (.tmp (d := (.val (.int .i64 (((0 : Nat) : Int))))) rfl .nil)), ?_⟩
  rw [← dot3_eq]; rfl
theorem q_whole (x : Int) (hxl : -9223372036854775808 ≤ x) (hxh : x ≤ 9223372036854775807) (y : Int) (hyl : -9223372036854775808 ≤ y) (hyh : y ≤ 9223372036854775807) (z : Int) (hzl : -9223372036854775808 ≤ z) (hzh : z ≤ 9223372036854775807) : Takes Tryz.prog 96 [(.val (.int .i64 (x))), (.val (.int .i64 (y))), (.val (.int .i64 (z)))] (encA43 (A3.mk (ofQ ((x : Int) : Rat)) (ofQ ((y : Int) : Rat)) (ofQ ((z : Int) : Rat)))) := by
  refine fn_intro Tryz.func96 rfl cb96 rfl ?_
  show PWp _ _ _ _ ⟨[(0, (vi x)), (1, (vi y)), (2, (vi z))], []⟩
  refine pwp_seq <| kx [(6, (.ref 0 0))] [(0, some (bx (encA43 (A3.mk (RRat.mk (RInt.mk false []) (RInt.mk false [])) (RRat.mk (RInt.mk false []) (RInt.mk false [])) (RRat.mk (RInt.mk false []) (RInt.mk false []))))))] (zN (oAl 0 ze129 zo129) <| zZ) ?_
  refine pwp_seq ?_
  have bn1 : QL ((x : Int) : Rat) 3 := (ql_int (z := x) (lenZ_int (by omega) (by omega)) (by decide))
  have bn2 : QL ((y : Int) : Rat) 3 := (ql_int (z := y) (lenZ_int (by omega) (by omega)) (by decide))
  have bn3 : QL ((z : Int) : Rat) 3 := (ql_int (z := z) (lenZ_int (by omega) (by omega)) (by decide))
  refine kx [] [(0, some (bx (encA43 (A3.mk (ofQ ((x : Int) : Rat)) (ofQ ((y : Int) : Rat)) (ofQ ((z : Int) : Rat))))))] (zM <| zE (oCl (f_whole x (by omega) (by omega))) <| zM <| zE (oCl (f_whole y (by omega) (by omega))) <| zM <| zE (oCl (f_whole z (by omega) (by omega))) <| zE (oBf ar129 ze129 zo129) <| zT (oSt sh129) <| zZ) ?_
  refine pwp_ret ⟨_, (res_a (cs := (bx (encA43 (A3.mk (ofQ ((x : Int) : Rat)) (ofQ ((y : Int) : Rat)) (ofQ ((z : Int) : Rat)))))) (d := (encA43 (A3.mk (ofQ ((x : Int) : Rat)) (ofQ ((y : Int) : Rat)) (ofQ ((z : Int) : Rat))))) rfl rfl sh129 rfl rfl .nil), ?_⟩
  rfl
theorem q_dot (a0 a1 a2 : Rat) (ha0 : QL a0 100000000) (ha1 : QL a1 100000000) (ha2 : QL a2 100000000) (b0 b1 b2 : Rat) (hb0 : QL b0 100000000) (hb1 : QL b1 100000000) (hb2 : QL b2 100000000) : Takes Tryz.prog 98 [(encA43 (A3.mk (ofQ a0) (ofQ a1) (ofQ a2))), (encA43 (A3.mk (ofQ b0) (ofQ b1) (ofQ b2)))] (encR (ofQ (dot3 a0 a1 a2 b0 b1 b2))) := by
  refine fn_intro Tryz.func98 rfl cb98 rfl ?_
  show PWp _ _ _ _ ⟨[(0, (.d (encA43 (A3.mk (ofQ a0) (ofQ a1) (ofQ a2))))), (1, (.d (encA43 (A3.mk (ofQ b0) (ofQ b1) (ofQ b2)))))], []⟩
  refine pwp_seq <| kx [(2, (.ref 0 0)), (3, (.ref 1 0)), (4, (.ref 2 0))] [(0, some (bx (encA43 (A3.mk (ofQ a0) (ofQ a1) (ofQ a2))))), (1, some (bx (encA43 (A3.mk (ofQ b0) (ofQ b1) (ofQ b2))))), (2, some (bx (encR (RRat.mk (RInt.mk false []) (RInt.mk false [])))))] (zN (oBx 0) <| zN (oBx 1) <| zN (oAl 2 ze42 zo42) <| zZ) ?_
  refine pwp_seq ?_
  have bn1 : QL (dot3 a0 a1 a2 b0 b1 b2) 600000002 := (ql_dot3 (n := 100000000) (k := 600000002) ha0 ha1 ha2 hb0 hb1 hb2 (by decide))
  refine kd [(5, (.ref 3 0))] [(3, some (bx (encR (ofQ (dot3 a0 a1 a2 b0 b1 b2)))))] mo (wE (e_slv (by exact rfl) ar129 (by exact rfl) (by kernel_rfl) (by kernel_rfl)) <| wE (e_slv (by exact rfl) ar129 (by exact rfl) (by kernel_rfl) (by kernel_rfl)) <| wC (oCg [(0, (Dat.cells (encA43 (A3.mk (ofQ a0) (ofQ a1) (ofQ a2))))), (1, (Dat.cells (encA43 (A3.mk (ofQ b0) (ofQ b1) (ofQ b2)))))] [(.view 0 0 3), (.view 1 0 3)] (q_dotF 1000000 a0 a1 a2 ha0 ha1 ha2 1000000 b0 b1 b2 hb0 hb1 hb2) (.v (es := List.map encR [(ofQ a0), (ofQ a1), (ofQ a2)]) (.head _) (pubs_cells _ _ (fun _ => rfl)) (by kernel_rfl) (by kernel_rfl) (.v (es := List.map encR [(ofQ b0), (ofQ b1), (ofQ b2)]) (.tail _ (.head _)) (pubs_cells _ _ (fun _ => rfl)) (by kernel_rfl) (by kernel_rfl) .nil)) (.tup (avo_cons (avo_encR (by decide) _) (avo_cons (.val _) avo_nil)))) <| wM <| wE oEx <| wE oEx <| wN (oAl 3 ze42 zo42) <| wT (oSt sh42) <| wM <| wZ) ?_
  refine pwp_seq <| kx [] [(2, some (bx (encR (ofQ (dot3 a0 a1 a2 b0 b1 b2)))))] (zR (oLa sh42) <| zT (oSt sh42) <| zZ) ?_
  refine pwp_ret ⟨_, (res_a (cs := (bx (encR (ofQ (dot3 a0 a1 a2 b0 b1 b2))))) (d := (encR (ofQ (dot3 a0 a1 a2 b0 b1 b2)))) rfl rfl sh42 rfl rfl .nil), ?_⟩
  rfl
theorem q_cross (a0 a1 a2 : Rat) (ha0 : QL a0 100000000) (ha1 : QL a1 100000000) (ha2 : QL a2 100000000) (b0 b1 b2 : Rat) (hb0 : QL b0 100000000) (hb1 : QL b1 100000000) (hb2 : QL b2 100000000) : Takes Tryz.prog 73 [(encA43 (A3.mk (ofQ a0) (ofQ a1) (ofQ a2))), (encA43 (A3.mk (ofQ b0) (ofQ b1) (ofQ b2)))] (encA43 (A3.mk (ofQ ((a1 * b2) - (a2 * b1))) (ofQ ((a2 * b0) - (a0 * b2))) (ofQ ((a0 * b1) - (a1 * b0))))) := by
  let y2 := (RRat.mk (RInt.mk false []) (RInt.mk false []))
  let y1 := (bx (encA43 (A3.mk y2 y2 y2)))
  refine fn_intro Tryz.func73 rfl cb73 rfl ?_
  show PWp _ _ _ _ ⟨[(0, (.d (encA43 (A3.mk (ofQ a0) (ofQ a1) (ofQ a2))))), (1, (.d (encA43 (A3.mk (ofQ b0) (ofQ b1) (ofQ b2)))))], []⟩
  refine pwp_seq <| kx [(2, (.ref 0 0)), (3, (.ref 1 0)), (4, (.ref 2 0))] [(0, some (bx (encA43 (A3.mk (ofQ a0) (ofQ a1) (ofQ a2))))), (1, some (bx (encA43 (A3.mk (ofQ b0) (ofQ b1) (ofQ b2))))), (2, some y1)] (zN (oBx 0) <| zN (oBx 1) <| zN (oAl 2 ze129 zo129) <| zZ) ?_
  refine pwp_seq <| kx [(5, (.ref 3 0))] [(3, some y1)] (zN (oAl 3 ze129 zo129) <| zZ) ?_
  refine pwp_seq <| pwp_seq <| kx [(9, (vin 0))] [] (zM <| zZ) ?_
  refine pwp_block <| pwp_rounds 20 ?_
  refine pwp_round <| pwp_seq <| kx [(10, (vb true))] [] (zE (oBk true oLt) <| zZ) ?_
  refine pwp_seq <| pwp_cond (b := true) (by kernel_rfl) (fun _ => ?_) (fun h => by cases h)
  refine pwp_skip <| pwp_seq <| pwp_block <| pwp_seq <| kx [(6, (vin 0))] [] (zM <| zM <| zZ) ?_
  refine pwp_seq <| kx [(7, (vin 1)), (8, (vin 2))] [] (zM <| zE (oAd 1 (hr := by decide)) <| zE (oRe 1 (hr := by decide)) <| zM <| zE (oAd 2 (hr := by decide)) <| zE (oRe 2 (hr := by decide)) <| zM <| zM <| zZ) ?_
  have bn1 : QL ((a1 * b2) - (a2 * b1)) 400000001 := (ql_sub (k := 400000001) (ql_mul (k := 200000000) ha1 hb2 (by decide)) (ql_mul (k := 200000000) ha2 hb1 (by decide)) (by decide))
  refine kd [] [(3, some (bx (encA43 (A3.mk (ofQ ((a1 * b2) - (a2 * b1))) y2 y2))))] mo (wM <| wM <| wE (oXr ar129 1) <| wR (oLa sh42) <| wM <| wE (oXr ar129 2) <| wR (oLa sh42) <| wE (oCl (f_mul (ofQ a1) (ofQ b2) a1 b2 (qok_up (qok_of ha1) (by decide)) (qok_up (qok_of hb2) (by decide)))) <| wM <| wE (oXr ar129 2) <| wR (oLa sh42) <| wM <| wE (oXr ar129 1) <| wR (oLa sh42) <| wE (oCl (f_mul (ofQ a2) (ofQ b1) a2 b1 (qok_up (qok_of ha2) (by decide)) (qok_up (qok_of hb1) (by decide)))) <| wE (oCl (f_sub (ofQ (a1 * b2)) (ofQ (a2 * b1)) (a1 * b2) (a2 * b1) (qok_up (qok_of (ql_mul (k := 200000000) ha1 hb2 (by decide))) (by decide)) (qok_up (qok_of (ql_mul (k := 200000000) ha2 hb1 (by decide))) (by decide)))) <| wE (oXr ar129 0) <| wT (oSt sh42) <| wZ) ?_
  refine kx [(9, (vin 1))] [] (zE (oAd 1 (hr := by decide)) <| zM <| zZ) ?_
  refine pwp_again (SimImp.refl _) ?_
  refine pwp_seq <| kx [(10, (vb true))] [] (zE (oBk true oLt) <| zZ) ?_
  refine pwp_seq <| pwp_cond (b := true) (by kernel_rfl) (fun _ => ?_) (fun h => by cases h)
  refine pwp_skip <| pwp_seq <| pwp_block <| pwp_seq <| kx [(6, (vin 1))] [] (zM <| zM <| zZ) ?_
  refine pwp_seq <| kx [(7, (vin 2)), (8, (vin 0))] [] (zM <| zE (oAd 2 (hr := by decide)) <| zE (oRe 2 (hr := by decide)) <| zM <| zE (oAd 3 (hr := by decide)) <| zE (oRe 0 (hr := by decide)) <| zM <| zM <| zZ) ?_
  have bn2 : QL ((a2 * b0) - (a0 * b2)) 400000001 := (ql_sub (k := 400000001) (ql_mul (k := 200000000) ha2 hb0 (by decide)) (ql_mul (k := 200000000) ha0 hb2 (by decide)) (by decide))
  refine kd [] [(3, some (bx (encA43 (A3.mk (ofQ ((a1 * b2) - (a2 * b1))) (ofQ ((a2 * b0) - (a0 * b2))) y2))))] mo (wM <| wM <| wE (oXr ar129 2) <| wR (oLa sh42) <| wM <| wE (oXr ar129 0) <| wR (oLa sh42) <| wE (oCl (f_mul (ofQ a2) (ofQ b0) a2 b0 (qok_up (qok_of ha2) (by decide)) (qok_up (qok_of hb0) (by decide)))) <| wM <| wE (oXr ar129 0) <| wR (oLa sh42) <| wM <| wE (oXr ar129 2) <| wR (oLa sh42) <| wE (oCl (f_mul (ofQ a0) (ofQ b2) a0 b2 (qok_up (qok_of ha0) (by decide)) (qok_up (qok_of hb2) (by decide)))) <| wE (oCl (f_sub (ofQ (a2 * b0)) (ofQ (a0 * b2)) (a2 * b0) (a0 * b2) (qok_up (qok_of (ql_mul (k := 200000000) ha2 hb0 (by decide))) (by decide)) (qok_up (qok_of (ql_mul (k := 200000000) ha0 hb2 (by decide))) (by decide)))) <| wE (oXr ar129 1) <| wT (oSt sh42) <| wZ) ?_
  refine kx [(9, (vin 2))] [] (zE (oAd 2 (hr := by decide)) <| zM <| zZ) ?_
  refine pwp_again (SimImp.refl _) ?_
  refine pwp_seq <| kx [(10, (vb true))] [] (zE (oBk true oLt) <| zZ) ?_
  refine pwp_seq <| pwp_cond (b := true) (by kernel_rfl) (fun _ => ?_) (fun h => by cases h)
  refine pwp_skip <| pwp_seq <| pwp_block <| pwp_seq <| pwp_sim (wk (l := [(2, (.ref 0 0)), (3, (.ref 1 0)), (4, (.ref 2 0)), (5, (.ref 3 0)), (9, (vin 2)), (10, (vb true))]) (b := [(0, some (bx (encA43 (A3.mk (ofQ a0) (ofQ a1) (ofQ a2))))), (1, some (bx (encA43 (A3.mk (ofQ b0) (ofQ b1) (ofQ b2))))), (2, some y1), (3, some (bx (encA43 (A3.mk (ofQ ((a1 * b2) - (a2 * b1))) (ofQ ((a2 * b0) - (a0 * b2))) y2))))])) ?_
  refine kx [(6, (vin 2))] [] (zM <| zM <| zZ) ?_
  refine pwp_seq <| kx [(7, (vin 0)), (8, (vin 1))] [] (zM <| zE (oAd 3 (hr := by decide)) <| zE (oRe 0 (hr := by decide)) <| zM <| zE (oAd 4 (hr := by decide)) <| zE (oRe 1 (hr := by decide)) <| zM <| zM <| zZ) ?_
  have bn3 : QL ((a0 * b1) - (a1 * b0)) 400000001 := (ql_sub (k := 400000001) (ql_mul (k := 200000000) ha0 hb1 (by decide)) (ql_mul (k := 200000000) ha1 hb0 (by decide)) (by decide))
  refine kd [] [(3, some (bx (encA43 (A3.mk (ofQ ((a1 * b2) - (a2 * b1))) (ofQ ((a2 * b0) - (a0 * b2))) (ofQ ((a0 * b1) - (a1 * b0)))))))] mo (wM <| wM <| wE (oXr ar129 0) <| wR (oLa sh42) <| wM <| wE (oXr ar129 1) <| wR (oLa sh42) <| wE (oCl (f_mul (ofQ a0) (ofQ b1) a0 b1 (qok_up (qok_of ha0) (by decide)) (qok_up (qok_of hb1) (by decide)))) <| wM <| wE (oXr ar129 1) <| wR (oLa sh42) <| wM <| wE (oXr ar129 0) <| wR (oLa sh42) <| wE (oCl (f_mul (ofQ a1) (ofQ b0) a1 b0 (qok_up (qok_of ha1) (by decide)) (qok_up (qok_of hb0) (by decide)))) <| wE (oCl (f_sub (ofQ (a0 * b1)) (ofQ (a1 * b0)) (a0 * b1) (a1 * b0) (qok_up (qok_of (ql_mul (k := 200000000) ha0 hb1 (by decide))) (by decide)) (qok_up (qok_of (ql_mul (k := 200000000) ha1 hb0 (by decide))) (by decide)))) <| wE (oXr ar129 2) <| wT (oSt sh42) <| wZ) ?_
  refine kx [(9, (vin 3))] [] (zE (oAd 3 (hr := by decide)) <| zM <| zZ) ?_
  refine pwp_again (SimImp.refl _) ?_
  refine pwp_seq <| kx [(10, (vb false))] [] (zE (oBk false oLt) <| zZ) ?_
  refine pwp_seq <| pwp_cond (b := false) (by kernel_rfl) (fun h => by cases h) (fun _ => ?_)
  refine pwp_exit <| pwp_seq <| kx [] [(2, some (bx (encA43 (A3.mk (ofQ ((a1 * b2) - (a2 * b1))) (ofQ ((a2 * b0) - (a0 * b2))) (ofQ ((a0 * b1) - (a1 * b0)))))))] (zR (oLa sh129) <| zT (oSt sh129) <| zZ) ?_
  refine pwp_ret ⟨_, (res_a (cs := (bx (encA43 (A3.mk (ofQ ((a1 * b2) - (a2 * b1))) (ofQ ((a2 * b0) - (a0 * b2))) (ofQ ((a0 * b1) - (a1 * b0))))))) (d := (encA43 (A3.mk (ofQ ((a1 * b2) - (a2 * b1))) (ofQ ((a2 * b0) - (a0 * b2))) (ofQ ((a0 * b1) - (a1 * b0)))))) rfl rfl sh129 rfl rfl .nil), ?_⟩
  rfl
theorem q_scaled (a0 a1 a2 : Rat) (ha0 : QL a0 100000000) (ha1 : QL a1 100000000) (ha2 : QL a2 100000000) (k : Rat) (hk : QL k 100000000) : Takes Tryz.prog 107 [(encA43 (A3.mk (ofQ a0) (ofQ a1) (ofQ a2))), (encR (ofQ k))] (encA43 (A3.mk (ofQ (a0 * k)) (ofQ (a1 * k)) (ofQ (a2 * k)))) := by
  let y1 := (RRat.mk (RInt.mk false []) (RInt.mk false []))
  refine fn_intro Tryz.func107 rfl cb107 rfl ?_
  show PWp _ _ _ _ ⟨[(0, (.d (encA43 (A3.mk (ofQ a0) (ofQ a1) (ofQ a2))))), (1, (.d (encR (ofQ k))))], []⟩
  refine pwp_seq <| kx [(2, (.ref 0 0)), (3, (.ref 1 0)), (4, (.ref 2 0))] [(0, some (bx (encA43 (A3.mk (ofQ a0) (ofQ a1) (ofQ a2))))), (1, some (bx (encR (ofQ k)))), (2, some (bx (encA43 (A3.mk y1 y1 y1))))] (zN (oBx 0) <| zN (oBx 1) <| zN (oAl 2 ze129 zo129) <| zZ) ?_
  refine pwp_seq <| pwp_seq <| kx [(6, (vin 0))] [] (zM <| zZ) ?_
  refine pwp_block <| pwp_rounds 20 ?_
  refine pwp_round <| pwp_seq <| kx [(7, (vb true))] [] (zE (oBk true oLt) <| zZ) ?_
  refine pwp_seq <| pwp_cond (b := true) (by kernel_rfl) (fun _ => ?_) (fun h => by cases h)
  refine pwp_skip <| pwp_seq <| pwp_block <| pwp_seq <| kx [(5, (vin 0))] [] (zM <| zM <| zZ) ?_
  refine kd [] [(0, some (bx (encA43 (A3.mk (ofQ (a0 * k)) (ofQ a1) (ofQ a2)))))] mo (wM <| wM <| wE (oXr ar129 0) <| wR (oLa sh42) <| wR (oLa sh42) <| wE (oCl (f_mul (ofQ a0) (ofQ k) a0 k (qok_up (qok_of ha0) (by decide)) (qok_up (qok_of hk) (by decide)))) <| wE (oXr ar129 0) <| wT (oSt sh42) <| wZ) ?_
  refine kx [(6, (vin 1))] [] (zE (oAd 1 (hr := by decide)) <| zM <| zZ) ?_
  refine pwp_again (SimImp.refl _) ?_
  refine pwp_seq <| kx [(7, (vb true))] [] (zE (oBk true oLt) <| zZ) ?_
  refine pwp_seq <| pwp_cond (b := true) (by kernel_rfl) (fun _ => ?_) (fun h => by cases h)
  refine pwp_skip <| pwp_seq <| pwp_block <| pwp_seq <| kx [(5, (vin 1))] [] (zM <| zM <| zZ) ?_
  refine kd [] [(0, some (bx (encA43 (A3.mk (ofQ (a0 * k)) (ofQ (a1 * k)) (ofQ a2)))))] mo (wM <| wM <| wE (oXr ar129 1) <| wR (oLa sh42) <| wR (oLa sh42) <| wE (oCl (f_mul (ofQ a1) (ofQ k) a1 k (qok_up (qok_of ha1) (by decide)) (qok_up (qok_of hk) (by decide)))) <| wE (oXr ar129 1) <| wT (oSt sh42) <| wZ) ?_
  refine kx [(6, (vin 2))] [] (zE (oAd 2 (hr := by decide)) <| zM <| zZ) ?_
  refine pwp_again (SimImp.refl _) ?_
  refine pwp_seq <| kx [(7, (vb true))] [] (zE (oBk true oLt) <| zZ) ?_
  refine pwp_seq <| pwp_cond (b := true) (by kernel_rfl) (fun _ => ?_) (fun h => by cases h)
  refine pwp_skip <| pwp_seq <| pwp_block <| pwp_seq <| kx [(5, (vin 2))] [] (zM <| zM <| zZ) ?_
  refine kd [] [(0, some (bx (encA43 (A3.mk (ofQ (a0 * k)) (ofQ (a1 * k)) (ofQ (a2 * k))))))] mo (wM <| wM <| wE (oXr ar129 2) <| wR (oLa sh42) <| wR (oLa sh42) <| wE (oCl (f_mul (ofQ a2) (ofQ k) a2 k (qok_up (qok_of ha2) (by decide)) (qok_up (qok_of hk) (by decide)))) <| wE (oXr ar129 2) <| wT (oSt sh42) <| wZ) ?_
  refine kx [(6, (vin 3))] [] (zE (oAd 3 (hr := by decide)) <| zM <| zZ) ?_
  refine pwp_again (SimImp.refl _) ?_
  refine pwp_seq <| pwp_sim (wk (l := [(2, (.ref 0 0)), (3, (.ref 1 0)), (4, (.ref 2 0)), (6, (vin 3))]) (b := [(0, some (bx (encA43 (A3.mk (ofQ (a0 * k)) (ofQ (a1 * k)) (ofQ (a2 * k)))))), (1, some (bx (encR (ofQ k)))), (2, some (bx (encA43 (A3.mk y1 y1 y1))))])) ?_
  refine kx [(7, (vb false))] [] (zE (oBk false oLt) <| zZ) ?_
  refine pwp_seq <| pwp_cond (b := false) (by kernel_rfl) (fun h => by cases h) (fun _ => ?_)
  refine pwp_exit <| pwp_seq <| kx [] [(2, some (bx (encA43 (A3.mk (ofQ (a0 * k)) (ofQ (a1 * k)) (ofQ (a2 * k))))))] (zR (oLa sh129) <| zT (oSt sh129) <| zZ) ?_
  refine pwp_ret ⟨_, (res_a (cs := (bx (encA43 (A3.mk (ofQ (a0 * k)) (ofQ (a1 * k)) (ofQ (a2 * k)))))) (d := (encA43 (A3.mk (ofQ (a0 * k)) (ofQ (a1 * k)) (ofQ (a2 * k))))) rfl rfl sh129 rfl rfl .nil), ?_⟩
  rfl
theorem q_sum (a0 a1 a2 : Rat) (ha0 : QL a0 1000000000) (ha1 : QL a1 1000000000) (ha2 : QL a2 1000000000) (b0 b1 b2 : Rat) (hb0 : QL b0 1000000000) (hb1 : QL b1 1000000000) (hb2 : QL b2 1000000000) : Takes Tryz.prog 106 [(encA43 (A3.mk (ofQ a0) (ofQ a1) (ofQ a2))), (encA43 (A3.mk (ofQ b0) (ofQ b1) (ofQ b2)))] (encA43 (A3.mk (ofQ (a0 + b0)) (ofQ (a1 + b1)) (ofQ (a2 + b2)))) := by
  let y1 := (RRat.mk (RInt.mk false []) (RInt.mk false []))
  refine fn_intro Tryz.func106 rfl cb106 rfl ?_
  show PWp _ _ _ _ ⟨[(0, (.d (encA43 (A3.mk (ofQ a0) (ofQ a1) (ofQ a2))))), (1, (.d (encA43 (A3.mk (ofQ b0) (ofQ b1) (ofQ b2)))))], []⟩
  refine pwp_seq <| kx [(2, (.ref 0 0)), (3, (.ref 1 0)), (4, (.ref 2 0))] [(0, some (bx (encA43 (A3.mk (ofQ a0) (ofQ a1) (ofQ a2))))), (1, some (bx (encA43 (A3.mk (ofQ b0) (ofQ b1) (ofQ b2))))), (2, some (bx (encA43 (A3.mk y1 y1 y1))))] (zN (oBx 0) <| zN (oBx 1) <| zN (oAl 2 ze129 zo129) <| zZ) ?_
  refine pwp_seq <| pwp_seq <| kx [(6, (vin 0))] [] (zM <| zZ) ?_
  refine pwp_block <| pwp_rounds 20 ?_
  refine pwp_round <| pwp_seq <| kx [(7, (vb true))] [] (zE (oBk true oLt) <| zZ) ?_
  refine pwp_seq <| pwp_cond (b := true) (by kernel_rfl) (fun _ => ?_) (fun h => by cases h)
  refine pwp_skip <| pwp_seq <| pwp_block <| pwp_seq <| kx [(5, (vin 0))] [] (zM <| zM <| zZ) ?_
  refine kd [] [(0, some (bx (encA43 (A3.mk (ofQ (a0 + b0)) (ofQ a1) (ofQ a2)))))] mo (wM <| wM <| wE (oXr ar129 0) <| wR (oLa sh42) <| wM <| wE (oXr ar129 0) <| wR (oLa sh42) <| wE (oCl (f_add (ofQ a0) (ofQ b0) a0 b0 (qok_up (qok_of ha0) (by decide)) (qok_up (qok_of hb0) (by decide)))) <| wE (oXr ar129 0) <| wT (oSt sh42) <| wZ) ?_
  refine kx [(6, (vin 1))] [] (zE (oAd 1 (hr := by decide)) <| zM <| zZ) ?_
  refine pwp_again (SimImp.refl _) ?_
  refine pwp_seq <| kx [(7, (vb true))] [] (zE (oBk true oLt) <| zZ) ?_
  refine pwp_seq <| pwp_cond (b := true) (by kernel_rfl) (fun _ => ?_) (fun h => by cases h)
  refine pwp_skip <| pwp_seq <| pwp_block <| pwp_seq <| kx [(5, (vin 1))] [] (zM <| zM <| zZ) ?_
  refine kd [] [(0, some (bx (encA43 (A3.mk (ofQ (a0 + b0)) (ofQ (a1 + b1)) (ofQ a2)))))] mo (wM <| wM <| wE (oXr ar129 1) <| wR (oLa sh42) <| wM <| wE (oXr ar129 1) <| wR (oLa sh42) <| wE (oCl (f_add (ofQ a1) (ofQ b1) a1 b1 (qok_up (qok_of ha1) (by decide)) (qok_up (qok_of hb1) (by decide)))) <| wE (oXr ar129 1) <| wT (oSt sh42) <| wZ) ?_
  refine kx [(6, (vin 2))] [] (zE (oAd 2 (hr := by decide)) <| zM <| zZ) ?_
  refine pwp_again (SimImp.refl _) ?_
  refine pwp_seq <| kx [(7, (vb true))] [] (zE (oBk true oLt) <| zZ) ?_
  refine pwp_seq <| pwp_cond (b := true) (by kernel_rfl) (fun _ => ?_) (fun h => by cases h)
  refine pwp_skip <| pwp_seq <| pwp_block <| pwp_seq <| kx [(5, (vin 2))] [] (zM <| zM <| zZ) ?_
  refine kd [] [(0, some (bx (encA43 (A3.mk (ofQ (a0 + b0)) (ofQ (a1 + b1)) (ofQ (a2 + b2))))))] mo (wM <| wM <| wE (oXr ar129 2) <| wR (oLa sh42) <| wM <| wE (oXr ar129 2) <| wR (oLa sh42) <| wE (oCl (f_add (ofQ a2) (ofQ b2) a2 b2 (qok_up (qok_of ha2) (by decide)) (qok_up (qok_of hb2) (by decide)))) <| wE (oXr ar129 2) <| wT (oSt sh42) <| wZ) ?_
  refine kx [(6, (vin 3))] [] (zE (oAd 3 (hr := by decide)) <| zM <| zZ) ?_
  refine pwp_again (SimImp.refl _) ?_
  refine pwp_seq <| pwp_sim (wk (l := [(2, (.ref 0 0)), (3, (.ref 1 0)), (4, (.ref 2 0)), (6, (vin 3))]) (b := [(0, some (bx (encA43 (A3.mk (ofQ (a0 + b0)) (ofQ (a1 + b1)) (ofQ (a2 + b2)))))), (1, some (bx (encA43 (A3.mk (ofQ b0) (ofQ b1) (ofQ b2))))), (2, some (bx (encA43 (A3.mk y1 y1 y1))))])) ?_
  refine kx [(7, (vb false))] [] (zE (oBk false oLt) <| zZ) ?_
  refine pwp_seq <| pwp_cond (b := false) (by kernel_rfl) (fun h => by cases h) (fun _ => ?_)
  refine pwp_exit <| pwp_seq <| kx [] [(2, some (bx (encA43 (A3.mk (ofQ (a0 + b0)) (ofQ (a1 + b1)) (ofQ (a2 + b2))))))] (zR (oLa sh129) <| zT (oSt sh129) <| zZ) ?_
  refine pwp_ret ⟨_, (res_a (cs := (bx (encA43 (A3.mk (ofQ (a0 + b0)) (ofQ (a1 + b1)) (ofQ (a2 + b2)))))) (d := (encA43 (A3.mk (ofQ (a0 + b0)) (ofQ (a1 + b1)) (ofQ (a2 + b2))))) rfl rfl sh129 rfl rfl .nil), ?_⟩
  rfl
theorem q_times (m00 m01 m02 m10 m11 m12 m20 m21 m22 : Rat) (hm00 : QL m00 100000000) (hm01 : QL m01 100000000) (hm02 : QL m02 100000000) (hm10 : QL m10 100000000) (hm11 : QL m11 100000000) (hm12 : QL m12 100000000) (hm20 : QL m20 100000000) (hm21 : QL m21 100000000) (hm22 : QL m22 100000000) (v0 v1 v2 : Rat) (hv0 : QL v0 100000000) (hv1 : QL v1 100000000) (hv2 : QL v2 100000000) : Takes Tryz.prog 101 [(encA130 (A3.mk (A3.mk (ofQ m00) (ofQ m01) (ofQ m02)) (A3.mk (ofQ m10) (ofQ m11) (ofQ m12)) (A3.mk (ofQ m20) (ofQ m21) (ofQ m22)))), (encA43 (A3.mk (ofQ v0) (ofQ v1) (ofQ v2)))] (encA43 (A3.mk (ofQ (dot3 m00 m01 m02 v0 v1 v2)) (ofQ (dot3 m10 m11 m12 v0 v1 v2)) (ofQ (dot3 m20 m21 m22 v0 v1 v2)))) := by
  refine fn_intro Tryz.func101 rfl cb101 rfl ?_
  show PWp _ _ _ _ ⟨[(0, (.d (encA130 (A3.mk (A3.mk (ofQ m00) (ofQ m01) (ofQ m02)) (A3.mk (ofQ m10) (ofQ m11) (ofQ m12)) (A3.mk (ofQ m20) (ofQ m21) (ofQ m22)))))), (1, (.d (encA43 (A3.mk (ofQ v0) (ofQ v1) (ofQ v2)))))], []⟩
  refine pwp_seq <| kx [(2, (.ref 0 0)), (3, (.ref 1 0)), (4, (.ref 2 0))] [(0, some (bx (encA130 (A3.mk (A3.mk (ofQ m00) (ofQ m01) (ofQ m02)) (A3.mk (ofQ m10) (ofQ m11) (ofQ m12)) (A3.mk (ofQ m20) (ofQ m21) (ofQ m22)))))), (1, some (bx (encA43 (A3.mk (ofQ v0) (ofQ v1) (ofQ v2))))), (2, some (bx (encA43 (A3.mk (RRat.mk (RInt.mk false []) (RInt.mk false [])) (RRat.mk (RInt.mk false []) (RInt.mk false [])) (RRat.mk (RInt.mk false []) (RInt.mk false []))))))] (zN (oBx 0) <| zN (oBx 1) <| zN (oAl 2 ze129 zo129) <| zZ) ?_
  refine pwp_seq ?_
  have bn1 : QL (dot3 m00 m01 m02 v0 v1 v2) 600000002 := (ql_dot3 (n := 100000000) (k := 600000002) hm00 hm01 hm02 hv0 hv1 hv2 (by decide))
  have bn2 : QL (dot3 m10 m11 m12 v0 v1 v2) 600000002 := (ql_dot3 (n := 100000000) (k := 600000002) hm10 hm11 hm12 hv0 hv1 hv2 (by decide))
  have bn3 : QL (dot3 m20 m21 m22 v0 v1 v2) 600000002 := (ql_dot3 (n := 100000000) (k := 600000002) hm20 hm21 hm22 hv0 hv1 hv2 (by decide))
  refine kd [] [(2, some (bx (encA43 (A3.mk (ofQ (dot3 m00 m01 m02 v0 v1 v2)) (ofQ (dot3 m10 m11 m12 v0 v1 v2)) (ofQ (dot3 m20 m21 m22 v0 v1 v2))))))] mo (wE (oXr ar131 0) <| wR (oLa sh129) <| wR (oLa sh129) <| wE (oCl (q_dot m00 m01 m02 hm00 hm01 hm02 v0 v1 v2 hv0 hv1 hv2)) <| wE (oXr ar131 1) <| wR (oLa sh129) <| wR (oLa sh129) <| wE (oCl (q_dot m10 m11 m12 hm10 hm11 hm12 v0 v1 v2 hv0 hv1 hv2)) <| wE (oXr ar131 2) <| wR (oLa sh129) <| wR (oLa sh129) <| wE (oCl (q_dot m20 m21 m22 hm20 hm21 hm22 v0 v1 v2 hv0 hv1 hv2)) <| wE (oBf ar129 ze129 zo129) <| wT (oSt sh129) <| wZ) ?_
  refine pwp_ret ⟨_, (res_a (cs := (bx (encA43 (A3.mk (ofQ (dot3 m00 m01 m02 v0 v1 v2)) (ofQ (dot3 m10 m11 m12 v0 v1 v2)) (ofQ (dot3 m20 m21 m22 v0 v1 v2)))))) (d := (encA43 (A3.mk (ofQ (dot3 m00 m01 m02 v0 v1 v2)) (ofQ (dot3 m10 m11 m12 v0 v1 v2)) (ofQ (dot3 m20 m21 m22 v0 v1 v2))))) rfl rfl sh129 rfl rfl .nil), ?_⟩
  rfl
theorem q_transp (m00 m01 m02 m10 m11 m12 m20 m21 m22 : Rat) (hm00 : QL m00 100000000) (hm01 : QL m01 100000000) (hm02 : QL m02 100000000) (hm10 : QL m10 100000000) (hm11 : QL m11 100000000) (hm12 : QL m12 100000000) (hm20 : QL m20 100000000) (hm21 : QL m21 100000000) (hm22 : QL m22 100000000) : Takes Tryz.prog 72 [(encA130 (A3.mk (A3.mk (ofQ m00) (ofQ m01) (ofQ m02)) (A3.mk (ofQ m10) (ofQ m11) (ofQ m12)) (A3.mk (ofQ m20) (ofQ m21) (ofQ m22))))] (encA130 (A3.mk (A3.mk (ofQ m00) (ofQ m10) (ofQ m20)) (A3.mk (ofQ m01) (ofQ m11) (ofQ m21)) (A3.mk (ofQ m02) (ofQ m12) (ofQ m22)))) := by
  let y8 := (A3.mk (ofQ m00) (ofQ m10) (ofQ m20))
  let y7 := (RRat.mk (RInt.mk false []) (RInt.mk false []))
  let y6 := (bx (encA130 (A3.mk (A3.mk (ofQ m00) (ofQ m01) (ofQ m02)) (A3.mk (ofQ m10) (ofQ m11) (ofQ m12)) (A3.mk (ofQ m20) (ofQ m21) (ofQ m22)))))
  let y5 := (A3.mk y7 y7 y7)
  let y4 := (bx (encA130 (A3.mk y8 (A3.mk (ofQ m01) (ofQ m11) (ofQ m21)) y5)))
  let y3 := (bx (encA130 (A3.mk y8 (A3.mk (ofQ m01) y7 y7) y5)))
  let y2 := (bx (encA130 (A3.mk (A3.mk (ofQ m00) (ofQ m10) y7) y5 y5)))
  let y1 := (bx (encA130 (A3.mk y5 y5 y5)))
  refine fn_intro Tryz.func72 rfl cb72 rfl ?_
  show PWp _ _ _ _ ⟨[(0, (.d (encA130 (A3.mk (A3.mk (ofQ m00) (ofQ m01) (ofQ m02)) (A3.mk (ofQ m10) (ofQ m11) (ofQ m12)) (A3.mk (ofQ m20) (ofQ m21) (ofQ m22))))))], []⟩
  refine pwp_seq <| kx [(1, (.ref 0 0)), (2, (.ref 1 0))] [(0, some y6), (1, some y1)] (zN (oBx 0) <| zN (oAl 1 ze131 zo131) <| zZ) ?_
  refine pwp_seq <| kx [(3, (.ref 2 0))] [(2, some y1)] (zN (oAl 2 ze131 zo131) <| zZ) ?_
  refine pwp_seq <| pwp_seq <| kx [(6, (vin 0))] [] (zM <| zZ) ?_
  refine pwp_block <| pwp_rounds 20 ?_
  refine pwp_round <| pwp_seq <| kx [(7, (vb true))] [] (zE (oBk true oLt) <| zZ) ?_
  refine pwp_seq <| pwp_cond (b := true) (by kernel_rfl) (fun _ => ?_) (fun h => by cases h)
  refine pwp_skip <| pwp_seq <| pwp_block <| pwp_seq <| kx [(4, (vin 0))] [] (zM <| zM <| zZ) ?_
  refine pwp_seq <| kx [(9, (vin 0))] [] (zM <| zZ) ?_
  refine pwp_block <| pwp_rounds 20 ?_
  refine pwp_round <| pwp_seq <| kx [(10, (vb true))] [] (zE (oBk true oLt) <| zZ) ?_
  refine pwp_seq <| pwp_cond (b := true) (by kernel_rfl) (fun _ => ?_) (fun h => by cases h)
  refine pwp_skip <| pwp_seq <| pwp_block <| pwp_seq <| kx [(5, (vin 0))] [] (zM <| zM <| zZ) ?_
  refine kd [] [(2, some (bx (encA130 (A3.mk (A3.mk (ofQ m00) y7 y7) y5 y5))))] mo (wM <| wM <| wM <| wM <| wE (oXr ar131 0) <| wE (oXr ar129 0) <| wR (oLa sh42) <| wE (oXr ar131 0) <| wE (oXr ar129 0) <| wT (oSt sh42) <| wZ) ?_
  refine kx [(9, (vin 1))] [] (zE (oAd 1 (hr := by decide)) <| zM <| zZ) ?_
  refine pwp_again (SimImp.refl _) ?_
  refine pwp_seq <| kx [(10, (vb true))] [] (zE (oBk true oLt) <| zZ) ?_
  refine pwp_seq <| pwp_cond (b := true) (by kernel_rfl) (fun _ => ?_) (fun h => by cases h)
  refine pwp_skip <| pwp_seq <| pwp_block <| pwp_seq <| kx [(5, (vin 1))] [] (zM <| zM <| zZ) ?_
  refine kd [] [(2, some y2)] mo (wM <| wM <| wM <| wM <| wE (oXr ar131 1) <| wE (oXr ar129 0) <| wR (oLa sh42) <| wE (oXr ar131 0) <| wE (oXr ar129 1) <| wT (oSt sh42) <| wZ) ?_
  refine kx [(9, (vin 2))] [] (zE (oAd 2 (hr := by decide)) <| zM <| zZ) ?_
  refine pwp_again (SimImp.refl _) ?_
  refine pwp_seq <| pwp_sim (wk (l := [(1, (.ref 0 0)), (2, (.ref 1 0)), (3, (.ref 2 0)), (4, (vin 0)), (6, (vin 0)), (9, (vin 2))]) (b := [(0, some y6), (1, some y1), (2, some y2)])) ?_
  refine kx [(10, (vb true))] [] (zE (oBk true oLt) <| zZ) ?_
  refine pwp_seq <| pwp_cond (b := true) (by kernel_rfl) (fun _ => ?_) (fun h => by cases h)
  refine pwp_skip <| pwp_seq <| pwp_block <| pwp_seq <| kx [(5, (vin 2))] [] (zM <| zM <| zZ) ?_
  refine kd [] [(2, some (bx (encA130 (A3.mk y8 y5 y5))))] mo (wM <| wM <| wM <| wM <| wE (oXr ar131 2) <| wE (oXr ar129 0) <| wR (oLa sh42) <| wE (oXr ar131 0) <| wE (oXr ar129 2) <| wT (oSt sh42) <| wZ) ?_
  refine kx [(9, (vin 3))] [] (zE (oAd 3 (hr := by decide)) <| zM <| zZ) ?_
  refine pwp_again (SimImp.refl _) ?_
  refine pwp_seq <| kx [(10, (vb false))] [] (zE (oBk false oLt) <| zZ) ?_
  refine pwp_seq <| pwp_cond (b := false) (by kernel_rfl) (fun h => by cases h) (fun _ => ?_)
  refine pwp_exit <| kx [(6, (vin 1))] [] (zE (oAd 1 (hr := by decide)) <| zM <| zZ) ?_
  refine pwp_again (SimImp.refl _) ?_
  refine pwp_seq <| kx [(7, (vb true))] [] (zE (oBk true oLt) <| zZ) ?_
  refine pwp_seq <| pwp_cond (b := true) (by kernel_rfl) (fun _ => ?_) (fun h => by cases h)
  refine pwp_skip <| pwp_seq <| pwp_block <| pwp_seq <| kx [(4, (vin 1))] [] (zM <| zM <| zZ) ?_
  refine pwp_seq <| kx [(9, (vin 0))] [] (zM <| zZ) ?_
  refine pwp_block <| pwp_rounds 20 ?_
  refine pwp_round <| pwp_seq <| kx [(10, (vb true))] [] (zE (oBk true oLt) <| zZ) ?_
  refine pwp_seq <| pwp_cond (b := true) (by kernel_rfl) (fun _ => ?_) (fun h => by cases h)
  refine pwp_skip <| pwp_seq <| pwp_block <| pwp_seq <| kx [(5, (vin 0))] [] (zM <| zM <| zZ) ?_
  refine kd [] [(2, some y3)] mo (wM <| wM <| wM <| wM <| wE (oXr ar131 0) <| wE (oXr ar129 1) <| wR (oLa sh42) <| wE (oXr ar131 1) <| wE (oXr ar129 0) <| wT (oSt sh42) <| wZ) ?_
  refine kx [(9, (vin 1))] [] (zE (oAd 1 (hr := by decide)) <| zM <| zZ) ?_
  refine pwp_again (SimImp.refl _) ?_
  refine pwp_seq <| kx [(10, (vb true))] [] (zE (oBk true oLt) <| zZ) ?_
  refine pwp_seq <| pwp_cond (b := true) (by kernel_rfl) (fun _ => ?_) (fun h => by cases h)
  refine pwp_skip <| pwp_seq <| pwp_block <| pwp_seq <| pwp_sim (wk (l := [(1, (.ref 0 0)), (2, (.ref 1 0)), (3, (.ref 2 0)), (4, (vin 1)), (6, (vin 1)), (9, (vin 1)), (10, (vb true))]) (b := [(0, some y6), (1, some y1), (2, some y3)])) ?_
  refine kx [(5, (vin 1))] [] (zM <| zM <| zZ) ?_
  refine kd [] [(2, some (bx (encA130 (A3.mk y8 (A3.mk (ofQ m01) (ofQ m11) y7) y5))))] mo (wM <| wM <| wM <| wM <| wE (oXr ar131 1) <| wE (oXr ar129 1) <| wR (oLa sh42) <| wE (oXr ar131 1) <| wE (oXr ar129 1) <| wT (oSt sh42) <| wZ) ?_
  refine kx [(9, (vin 2))] [] (zE (oAd 2 (hr := by decide)) <| zM <| zZ) ?_
  refine pwp_again (SimImp.refl _) ?_
  refine pwp_seq <| kx [(10, (vb true))] [] (zE (oBk true oLt) <| zZ) ?_
  refine pwp_seq <| pwp_cond (b := true) (by kernel_rfl) (fun _ => ?_) (fun h => by cases h)
  refine pwp_skip <| pwp_seq <| pwp_block <| pwp_seq <| kx [(5, (vin 2))] [] (zM <| zM <| zZ) ?_
  refine kd [] [(2, some y4)] mo (wM <| wM <| wM <| wM <| wE (oXr ar131 2) <| wE (oXr ar129 1) <| wR (oLa sh42) <| wE (oXr ar131 1) <| wE (oXr ar129 2) <| wT (oSt sh42) <| wZ) ?_
  refine kx [(9, (vin 3))] [] (zE (oAd 3 (hr := by decide)) <| zM <| zZ) ?_
  refine pwp_again (SimImp.refl _) ?_
  refine pwp_seq <| kx [(10, (vb false))] [] (zE (oBk false oLt) <| zZ) ?_
  refine pwp_seq <| pwp_cond (b := false) (by kernel_rfl) (fun h => by cases h) (fun _ => ?_)
  refine pwp_exit <| kx [(6, (vin 2))] [] (zE (oAd 2 (hr := by decide)) <| zM <| zZ) ?_
  refine pwp_again (SimImp.refl _) ?_
  refine pwp_seq <| kx [(7, (vb true))] [] (zE (oBk true oLt) <| zZ) ?_
  refine pwp_seq <| pwp_cond (b := true) (by kernel_rfl) (fun _ => ?_) (fun h => by cases h)
  refine pwp_skip <| pwp_seq <| pwp_block <| pwp_seq <| kx [(4, (vin 2))] [] (zM <| zM <| zZ) ?_
  refine pwp_seq <| kx [(9, (vin 0))] [] (zM <| zZ) ?_
  refine pwp_block <| pwp_rounds 20 ?_
  refine pwp_round <| pwp_seq <| kx [(10, (vb true))] [] (zE (oBk true oLt) <| zZ) ?_
  refine pwp_seq <| pwp_cond (b := true) (by kernel_rfl) (fun _ => ?_) (fun h => by cases h)
  refine pwp_skip <| pwp_seq <| pwp_block <| pwp_seq <| kx [(5, (vin 0))] [] (zM <| zM <| zZ) ?_
  refine pwp_sim (wk (l := [(1, (.ref 0 0)), (2, (.ref 1 0)), (3, (.ref 2 0)), (4, (vin 2)), (5, (vin 0)), (6, (vin 2)), (9, (vin 0))]) (b := [(0, some y6), (1, some y1), (2, some y4)])) ?_
  refine kd [] [(2, some (bx (encA130 (A3.mk y8 (A3.mk (ofQ m01) (ofQ m11) (ofQ m21)) (A3.mk (ofQ m02) y7 y7)))))] mo (wM <| wM <| wM <| wM <| wE (oXr ar131 0) <| wE (oXr ar129 2) <| wR (oLa sh42) <| wE (oXr ar131 2) <| wE (oXr ar129 0) <| wT (oSt sh42) <| wZ) ?_
  refine kx [(9, (vin 1))] [] (zE (oAd 1 (hr := by decide)) <| zM <| zZ) ?_
  refine pwp_again (SimImp.refl _) ?_
  refine pwp_seq <| kx [(10, (vb true))] [] (zE (oBk true oLt) <| zZ) ?_
  refine pwp_seq <| pwp_cond (b := true) (by kernel_rfl) (fun _ => ?_) (fun h => by cases h)
  refine pwp_skip <| pwp_seq <| pwp_block <| pwp_seq <| kx [(5, (vin 1))] [] (zM <| zM <| zZ) ?_
  refine kd [] [(2, some (bx (encA130 (A3.mk y8 (A3.mk (ofQ m01) (ofQ m11) (ofQ m21)) (A3.mk (ofQ m02) (ofQ m12) y7)))))] mo (wM <| wM <| wM <| wM <| wE (oXr ar131 1) <| wE (oXr ar129 2) <| wR (oLa sh42) <| wE (oXr ar131 2) <| wE (oXr ar129 1) <| wT (oSt sh42) <| wZ) ?_
  refine kx [(9, (vin 2))] [] (zE (oAd 2 (hr := by decide)) <| zM <| zZ) ?_
  refine pwp_again (SimImp.refl _) ?_
  refine pwp_seq <| kx [(10, (vb true))] [] (zE (oBk true oLt) <| zZ) ?_
  refine pwp_seq <| pwp_cond (b := true) (by kernel_rfl) (fun _ => ?_) (fun h => by cases h)
  refine pwp_skip <| pwp_seq <| pwp_block <| pwp_seq <| kx [(5, (vin 2))] [] (zM <| zM <| zZ) ?_
  refine kd [] [(2, some (bx (encA130 (A3.mk y8 (A3.mk (ofQ m01) (ofQ m11) (ofQ m21)) (A3.mk (ofQ m02) (ofQ m12) (ofQ m22))))))] mo (wM <| wM <| wM <| wM <| wE (oXr ar131 2) <| wE (oXr ar129 2) <| wR (oLa sh42) <| wE (oXr ar131 2) <| wE (oXr ar129 2) <| wT (oSt sh42) <| wZ) ?_
  refine kx [(9, (vin 3))] [] (zE (oAd 3 (hr := by decide)) <| zM <| zZ) ?_
  refine pwp_again (SimImp.refl _) ?_
  refine pwp_seq <| kx [(10, (vb false))] [] (zE (oBk false oLt) <| zZ) ?_
  refine pwp_seq <| pwp_cond (b := false) (by kernel_rfl) (fun h => by cases h) (fun _ => ?_)
  refine pwp_exit <| kx [(6, (vin 3))] [] (zE (oAd 3 (hr := by decide)) <| zM <| zZ) ?_
  refine pwp_again (SimImp.refl _) ?_
  refine pwp_seq <| kx [(7, (vb false))] [] (zE (oBk false oLt) <| zZ) ?_
  refine pwp_seq <| pwp_cond (b := false) (by kernel_rfl) (fun h => by cases h) (fun _ => ?_)
  refine pwp_exit <| pwp_seq <| kx [] [(1, some (bx (encA130 (A3.mk y8 (A3.mk (ofQ m01) (ofQ m11) (ofQ m21)) (A3.mk (ofQ m02) (ofQ m12) (ofQ m22))))))] (zR (oLa sh131) <| zT (oSt sh131) <| zZ) ?_
  refine pwp_ret ⟨_, (res_a (cs := (bx (encA130 (A3.mk (A3.mk (ofQ m00) (ofQ m10) (ofQ m20)) (A3.mk (ofQ m01) (ofQ m11) (ofQ m21)) (A3.mk (ofQ m02) (ofQ m12) (ofQ m22)))))) (d := (encA130 (A3.mk (A3.mk (ofQ m00) (ofQ m10) (ofQ m20)) (A3.mk (ofQ m01) (ofQ m11) (ofQ m21)) (A3.mk (ofQ m02) (ofQ m12) (ofQ m22))))) rfl rfl sh131 rfl rfl .nil), ?_⟩
  rfl
end Go.Proofs.YtbecgnplakngdaaGreat
namespace Go.Proofs.YtbecgnplakngdaaGreat
open Go.Fid
set_option maxRecDepth 4000
set_option linter.unusedVariables false
set_option linter.unusedSimpArgs false
theorem ar228 : arrB Tryz.prog 228 = some (4, 3, 1) := by kernel_rfl
theorem cb168 : callB Tryz.prog 168 = true := by kernel_rfl
theorem cb205 : callB Tryz.prog 205 = true := by kernel_rfl
theorem el74 : elemB Tryz.prog 74 = some (3, 1) := by kernel_rfl
theorem eqs25 : eqsB Tryz.prog 25 = some 4 := by kernel_rfl
theorem fo25_0 : fieldB Tryz.prog 25 0 = some 0 := by kernel_rfl
theorem fo25_1 : fieldB Tryz.prog 25 1 = some 1 := by kernel_rfl
theorem fo25_2 : fieldB Tryz.prog 25 2 = some 2 := by kernel_rfl
theorem fo25_3 : fieldB Tryz.prog 25 3 = some 3 := by kernel_rfl
theorem pl25 : placesB Tryz.prog 25 = some [(0, 1), (1, 1), (2, 1), (3, 1)] := by kernel_rfl
theorem sh25 : shapeB Tryz.prog 25 = some (true, 4) := by kernel_rfl
theorem sh228 : shapeB Tryz.prog 228 = some (true, 4) := by kernel_rfl
theorem ze25 : zeroB Tryz.prog 25 = some [.int .i64 0, .int .i64 0, .int .i64 0, .int .i64 0] := by kernel_rfl
theorem ze228 : zeroB Tryz.prog 228 = some [.int .i64 0, .int .i64 0, .int .i64 0, .int .i64 0] := by kernel_rfl
theorem zo25 : ZOk [.int .i64 0, .int .i64 0, .int .i64 0, .int .i64 0] [.val (.int .i64 0), .val (.int .i64 0), .val (.int .i64 0), .val (.int .i64 0)] := by simp [ZOk, Value.oneCell']
theorem zo228 : ZOk [.int .i64 0, .int .i64 0, .int .i64 0, .int .i64 0] [.val (.int .i64 0), .val (.int .i64 0), .val (.int .i64 0), .val (.int .i64 0)] := by simp [ZOk, Value.oneCell']
theorem q_parts (a b c d : Int) : Takes Tryz.prog 205 [(encQuat (RQuat.mk a b c d))] (encA228 (A4.mk a b c d)) := by
  refine fn_intro Tryz.func205 rfl cb205 rfl ?_
  show PWp _ _ _ _ ⟨[(0, (.d (encQuat (RQuat.mk a b c d))))], []⟩
  refine pwp_seq <| kx [(1, (.ref 0 0)), (2, (.ref 1 0))] [(0, some (bx (encQuat (RQuat.mk a b c d)))), (1, some (bx (encA228 (A4.mk 0 0 0 0))))] (zN (oBx 0) <| zN (oAl 1 ze228 zo228) <| zZ) ?_
  refine pwp_seq <| kx [] [(1, some (bx (encA228 (A4.mk a b c d))))] (zE (oFr fo25_0) <| zR (oL1 sh3) <| zE (oFr fo25_1) <| zR (oL1 sh3) <| zE (oFr fo25_2) <| zR (oL1 sh3) <| zE (oFr fo25_3) <| zR (oL1 sh3) <| zE (oBf ar228 ze228 zo228) <| zT (oSt sh228) <| zZ) ?_
  refine pwp_ret ⟨_, (res_a (cs := (bx (encA228 (A4.mk a b c d)))) (d := (encA228 (A4.mk a b c d))) rfl rfl sh228 rfl rfl .nil), ?_⟩
  rfl
theorem q_chk (a b c d : Int) : Takes Tryz.prog 168 [(encQuat (RQuat.mk a b c d))] (.val (.int .i64 ((((rotC a b c d) : Nat) : Int)))) := by
  refine fn_intro Tryz.func168 rfl cb168 rfl ?_
  show PWp _ _ _ _ ⟨[(0, (.d (encQuat (RQuat.mk a b c d))))], []⟩
  refine pwp_seq <| kx [(1, (.ref 0 0))] [(0, some (bx (encQuat (RQuat.mk a b c d))))] (zN (oBx 0) <| zM <| zZ) ?_
  refine pwp_seq <| pwp_seq <| kx [(7, (vb (decide ([a, b, c, d] = [0, 0, 0, 0]))))] [] (zR (oLa sh25) <| zE (oBd pl25 ze25 zo25) <| zE (oEs eqs25 .i64 [a, b, c, d] [0, 0, 0, 0]) <| zZ) ?_
  refine pwp_cond (b := (decide ([a, b, c, d] = [0, 0, 0, 0]))) rfl (fun h1 => ?_) (fun h1 => ?_)
  · replace h1 := of_decide_eq_true h1
    refine pwp_seq <| kx [(2, (vin 1))] [] (zM <| zZ) ?_
    refine pwp_ret ⟨_, (.tmp (d := (.val (.int .i64 (((1 : Nat) : Int))))) rfl .nil), ?_⟩
    rw [rotC_z (by simp_all)]; rfl
  · replace h1 := of_decide_eq_false h1
    refine pwp_skip <| pwp_seq <| pwp_seq <| kx [(9, (.d (encA228 (A4.mk a b c d)))), (10, (vin 0))] [] (zR (oLa sh25) <| zE (oCl (q_parts a b c d)) <| zM <| zZ) ?_
    refine pwp_block <| pwp_rounds 20 ?_
    refine pwp_round <| pwp_seq <| kx [(11, (vb true))] [] (zE (oBk true oLt) <| zZ) ?_
    refine pwp_seq <| pwp_cond (b := true) (by kernel_rfl) (fun _ => ?_) (fun h => by cases h)
    refine pwp_skip <| pwp_seq <| pwp_block <| pwp_seq <| kx [(4, (vi a))] [] (zE (oXa ar228 sh3 (fun _ => rfl) 0) <| zM <| zZ) ?_
    refine pwp_seq <| kx [(18, (vb (decide (a < -1048576) || decide (((1048576 : Nat) : Int) < a))))] [] ?_ ?_
    · refine zM <| zE oLt <| zE (oV (vb (decide (a < -1048576))) (mv_ok (by kernel_rfl))) <| ?_
      rcases hb2 : (decide (a < -1048576)) with _ | _
      · replace hb2 := of_decide_eq_false hb2
        exact zM <| zE oGt <| zE oPo <| zZ
      · replace hb2 := of_decide_eq_true hb2
        exact zK <| zK <| zE oPt <| zZ
    refine pwp_cond rfl (fun h3 => ?_) (fun h3 => ?_)
    · refine pwp_seq <| kx [(2, (vin 3))] [] (zM <| zZ) ?_
      refine pwp_ret ⟨_, (.tmp (d := (.val (.int .i64 (((3 : Nat) : Int))))) rfl .nil), ?_⟩
      first | (rw [rotC_l (by simp_all) (by first | (simp_all; done) | (simp_all; omega))]; rfl) | (rw [rotC_0 (by simp_all) (by first | (simp_all; done) | (simp_all; omega))]; rfl)
    · refine pwp_skip <| kx [(10, (vin 1))] [] (zE (oAd 1 (hr := by decide)) <| zM <| zZ) ?_
      refine pwp_again (SimImp.refl _) ?_
      refine pwp_seq <| kx [(11, (vb true))] [] (zE (oBk true oLt) <| zZ) ?_
      refine pwp_seq <| pwp_cond (b := true) (by kernel_rfl) (fun _ => ?_) (fun h => by cases h)
      refine pwp_skip <| pwp_seq <| pwp_block <| pwp_seq <| kx [(4, (vi b))] [] (zE (oXa ar228 sh3 (fun _ => rfl) 1) <| zM <| zZ) ?_
      refine pwp_seq <| kx [(18, (vb (decide (b < -1048576) || decide (((1048576 : Nat) : Int) < b))))] [] ?_ ?_
      · refine zM <| zE oLt <| zE (oV (vb (decide (b < -1048576))) (mv_ok (by kernel_rfl))) <| ?_
        rcases hb4 : (decide (b < -1048576)) with _ | _
        · replace hb4 := of_decide_eq_false hb4
          exact zM <| zE oGt <| zE oPo <| zZ
        · replace hb4 := of_decide_eq_true hb4
          exact zK <| zK <| zE oPt <| zZ
      refine pwp_cond rfl (fun h5 => ?_) (fun h5 => ?_)
      · refine pwp_seq <| kx [(2, (vin 3))] [] (zM <| zZ) ?_
        refine pwp_ret ⟨_, (.tmp (d := (.val (.int .i64 (((3 : Nat) : Int))))) rfl .nil), ?_⟩
        first | (rw [rotC_l (by simp_all) (by first | (simp_all; done) | (simp_all; omega))]; rfl) | (rw [rotC_0 (by simp_all) (by first | (simp_all; done) | (simp_all; omega))]; rfl)
      · refine pwp_skip <| kx [(10, (vin 2))] [] (zE (oAd 2 (hr := by decide)) <| zM <| zZ) ?_
        refine pwp_again (SimImp.refl _) ?_
        refine pwp_seq <| kx [(11, (vb true))] [] (zE (oBk true oLt) <| zZ) ?_
        refine pwp_seq <| pwp_cond (b := true) (by kernel_rfl) (fun _ => ?_) (fun h => by cases h)
        refine pwp_skip <| pwp_seq <| pwp_block <| pwp_seq <| kx [(4, (vi c))] [] (zE (oXa ar228 sh3 (fun _ => rfl) 2) <| zM <| zZ) ?_
        refine pwp_seq <| kx [(18, (vb (decide (c < -1048576) || decide (((1048576 : Nat) : Int) < c))))] [] ?_ ?_
        · refine zM <| zE oLt <| zE (oV (vb (decide (c < -1048576))) (mv_ok (by kernel_rfl))) <| ?_
          rcases hb6 : (decide (c < -1048576)) with _ | _
          · replace hb6 := of_decide_eq_false hb6
            exact zM <| zE oGt <| zE oPo <| zZ
          · replace hb6 := of_decide_eq_true hb6
            exact zK <| zK <| zE oPt <| zZ
        refine pwp_cond rfl (fun h7 => ?_) (fun h7 => ?_)
        · refine pwp_seq <| pwp_sim (wk (l := [(9, (.d (encA228 (A4.mk a b c d)))), (10, (vin 2)), (18, (vb (decide (c < -1048576) || decide (((1048576 : Nat) : Int) < c))))]) (b := [])) ?_
          refine kx [(2, (vin 3))] [] (zM <| zZ) ?_
          refine pwp_ret ⟨_, (.tmp (d := (.val (.int .i64 (((3 : Nat) : Int))))) rfl .nil), ?_⟩
          first | (rw [rotC_l (by simp_all) (by first | (simp_all; done) | (simp_all; omega))]; rfl) | (rw [rotC_0 (by simp_all) (by first | (simp_all; done) | (simp_all; omega))]; rfl)
        · refine pwp_skip <| pwp_sim (wk (l := [(9, (.d (encA228 (A4.mk a b c d)))), (10, (vin 2)), (18, (vb (decide (c < -1048576) || decide (((1048576 : Nat) : Int) < c))))]) (b := [])) ?_
          refine kx [(10, (vin 3))] [] (zE (oAd 3 (hr := by decide)) <| zM <| zZ) ?_
          refine pwp_again (SimImp.refl _) ?_
          refine pwp_seq <| kx [(11, (vb true))] [] (zE (oBk true oLt) <| zZ) ?_
          refine pwp_seq <| pwp_cond (b := true) (by kernel_rfl) (fun _ => ?_) (fun h => by cases h)
          refine pwp_skip <| pwp_seq <| pwp_block <| pwp_seq <| kx [(4, (vi d))] [] (zE (oXa ar228 sh3 (fun _ => rfl) 3) <| zM <| zZ) ?_
          refine pwp_seq <| kx [(18, (vb (decide (d < -1048576) || decide (((1048576 : Nat) : Int) < d))))] [] ?_ ?_
          · refine zM <| zE oLt <| zE (oV (vb (decide (d < -1048576))) (mv_ok (by kernel_rfl))) <| ?_
            rcases hb8 : (decide (d < -1048576)) with _ | _
            · replace hb8 := of_decide_eq_false hb8
              exact zM <| zE oGt <| zE oPo <| zZ
            · replace hb8 := of_decide_eq_true hb8
              exact zK <| zK <| zE oPt <| zZ
          refine pwp_cond rfl (fun h9 => ?_) (fun h9 => ?_)
          · refine pwp_seq <| kx [(2, (vin 3))] [] (zM <| zZ) ?_
            refine pwp_ret ⟨_, (.tmp (d := (.val (.int .i64 (((3 : Nat) : Int))))) rfl .nil), ?_⟩
            first | (rw [rotC_l (by simp_all) (by first | (simp_all; done) | (simp_all; omega))]; rfl) | (rw [rotC_0 (by simp_all) (by first | (simp_all; done) | (simp_all; omega))]; rfl)
          · refine pwp_skip <| kx [(10, (vin 4))] [] (zE (oAd 4 (hr := by decide)) <| zM <| zZ) ?_
            refine pwp_again (SimImp.refl _) ?_
            refine pwp_seq <| kx [(11, (vb false))] [] (zE (oBk false oLt) <| zZ) ?_
            refine pwp_seq <| pwp_cond (b := false) (by kernel_rfl) (fun h => by cases h) (fun _ => ?_)
            refine pwp_exit <| pwp_seq <| kx [(2, (vin 0))] [] (zM <| zZ) ?_
            refine pwp_ret ⟨_, (.tmp (d := (.val (.int .i64 (((0 : Nat) : Int))))) rfl .nil), ?_⟩
            first | (rw [rotC_l (by simp_all) (by first | (simp_all; done) | (simp_all; omega))]; rfl) | (rw [rotC_0 (by simp_all) (by first | (simp_all; done) | (simp_all; omega))]; rfl)
end Go.Proofs.YtbecgnplakngdaaGreat
set_option linter.unusedVariables false
set_option linter.unusedSimpArgs false
namespace Go.Fid
inductive LOk (n : Nat) : List RInt → List Int → Prop
  | nil : LOk n [] []
  | cons {x : RInt} {z : Int} {l : List RInt} {zs : List Int} (h : IOk x z n) (t : LOk n l zs) : LOk n (x :: l) (z :: zs)
theorem iok_nilN (n : Nat) : IOk ⟨false, []⟩ 0 n := ⟨by decide, Nat.zero_le _⟩
theorem LOk.len {n : Nat} {l : List RInt} {zs : List Int} (h : LOk n l zs) : l.length = zs.length := by
  induction h with
  | nil => rfl
  | cons h t ih => simp [ih]
theorem LOk.get {n : Nat} {l : List RInt} {zs : List Int} (h : LOk n l zs) (i : Nat) : IOk (l.getD i ⟨false, []⟩) (zs.getD i 0) n := by
  induction h generalizing i with
  | nil => exact iok_nilN n
  | cons h t ih =>
    rcases i with _ | i
    · exact h
    · exact ih i
theorem LOk.all {n : Nat} {l : List RInt} {zs : List Int} (h : LOk n l zs) : ∀ z ∈ zs, lenZ z ≤ n := by
  induction h with
  | nil => simp
  | cons h t ih =>
    intro z hz
    rcases List.mem_cons.1 hz with rfl | hz
    · exact h.ln
    · exact ih z hz
theorem LOk.up {m n : Nat} {l : List RInt} {zs : List Int} (h : LOk m l zs) (hm : m ≤ n) : LOk n l zs := by
  induction h with
  | nil => exact .nil
  | cons h t ih => exact .cons (iok_up h hm) ih
theorem signI_ne {z : Int} (h : z ≠ 0) : signI z ≠ 0 := by
  unfold signI; split <;> (try split) <;> omega
theorem LOk.map {n : Nat} {l : List RInt} {zs : List Int} (h : LOk n l zs) : l.map toZ = zs := by
  induction h with
  | nil => rfl
  | cons h t ih => rw [List.map_cons, ih, h.v]
theorem all_nil {l : List RInt} (h : ∀ x ∈ l, x = RInt.mk false []) (i : Nat) : l.getD i (RInt.mk false []) = RInt.mk false [] := by
  rw [List.getD]
  cases hj : l[i]? with
  | none => rfl
  | some q => exact h q (List.mem_of_getElem? hj)
end Go.Fid
set_option linter.unusedVariables false
set_option linter.unusedSimpArgs false
namespace Go.Fid
def nq (a b c d : Int) : Int := (((a * a) + (b * b)) + (c * c)) + (d * d)
def N4 (a b c d : Int) : Rat := ((nq a b c d : Int) : Rat)
def r00 (a b c d : Int) : Int := (((a * a) + (b * b)) - (c * c)) - (d * d)
def R00 (a b c d : Int) : Rat := ((r00 a b c d : Int) : Rat)
def Q00 (a b c d : Int) : Rat := Rat.divInt (r00 a b c d) (nq a b c d)
def r01 (a b c d : Int) : Int := 2 * ((b * c) - (a * d))
def R01 (a b c d : Int) : Rat := ((r01 a b c d : Int) : Rat)
def Q01 (a b c d : Int) : Rat := Rat.divInt (r01 a b c d) (nq a b c d)
def r02 (a b c d : Int) : Int := 2 * ((b * d) + (a * c))
def R02 (a b c d : Int) : Rat := ((r02 a b c d : Int) : Rat)
def Q02 (a b c d : Int) : Rat := Rat.divInt (r02 a b c d) (nq a b c d)
def r10 (a b c d : Int) : Int := 2 * ((b * c) + (a * d))
def R10 (a b c d : Int) : Rat := ((r10 a b c d : Int) : Rat)
def Q10 (a b c d : Int) : Rat := Rat.divInt (r10 a b c d) (nq a b c d)
def r11 (a b c d : Int) : Int := (((a * a) - (b * b)) + (c * c)) - (d * d)
def R11 (a b c d : Int) : Rat := ((r11 a b c d : Int) : Rat)
def Q11 (a b c d : Int) : Rat := Rat.divInt (r11 a b c d) (nq a b c d)
def r12 (a b c d : Int) : Int := 2 * ((c * d) - (a * b))
def R12 (a b c d : Int) : Rat := ((r12 a b c d : Int) : Rat)
def Q12 (a b c d : Int) : Rat := Rat.divInt (r12 a b c d) (nq a b c d)
def r20 (a b c d : Int) : Int := 2 * ((b * d) - (a * c))
def R20 (a b c d : Int) : Rat := ((r20 a b c d : Int) : Rat)
def Q20 (a b c d : Int) : Rat := Rat.divInt (r20 a b c d) (nq a b c d)
def r21 (a b c d : Int) : Int := 2 * ((c * d) + (a * b))
def R21 (a b c d : Int) : Rat := ((r21 a b c d : Int) : Rat)
def Q21 (a b c d : Int) : Rat := Rat.divInt (r21 a b c d) (nq a b c d)
def r22 (a b c d : Int) : Int := (((a * a) - (b * b)) - (c * c)) + (d * d)
def R22 (a b c d : Int) : Rat := ((r22 a b c d : Int) : Rat)
def Q22 (a b c d : Int) : Rat := Rat.divInt (r22 a b c d) (nq a b c d)
theorem rotC_ok {a b c d : Int} (h : rotC a b c d = 0) : (-1048576 ≤ a ∧ a ≤ 1048576) ∧ (-1048576 ≤ b ∧ b ≤ 1048576) ∧ (-1048576 ≤ c ∧ c ≤ 1048576) ∧ (-1048576 ≤ d ∧ d ≤ 1048576) ∧ ¬ (a = 0 ∧ b = 0 ∧ c = 0 ∧ d = 0) := by
  unfold rotC at h
  split at h
  · cases h
  · rename_i h0
    split at h
    · rename_i h1; exact ⟨h1.1, h1.2.1, h1.2.2.1, h1.2.2.2, h0⟩
    · cases h
theorem stnC_ok {x y z u v f a b c d : Int} (h : stnC x y z u v f a b c d = 0) : (-1048576 ≤ x ∧ x ≤ 1048576) ∧ (-1048576 ≤ y ∧ y ≤ 1048576) ∧ (-1048576 ≤ z ∧ z ≤ 1048576) ∧ (-1048576 ≤ u ∧ u ≤ 1048576) ∧ (-1048576 ≤ v ∧ v ≤ 1048576) ∧ (1 ≤ f ∧ f ≤ 1048576) ∧ rotC a b c d = 0 := by
  unfold stnC at h
  split at h
  · rename_i hp; exact ⟨hp.1, hp.2.1, hp.2.2.1, hp.2.2.2.1, hp.2.2.2.2.1, hp.2.2.2.2.2, h⟩
  · cases h
theorem sq_nn (a : Int) : 0 ≤ a * a := by
  rcases Int.le_total 0 a with h | h
  · exact Int.mul_nonneg h h
  · exact Int.mul_nonneg_of_nonpos_of_nonpos h h
theorem sq_pos {a : Int} (h : a ≠ 0) : 0 < a * a := by
  rcases Int.lt_or_gt_of_ne h with h | h
  · exact Int.mul_pos_of_neg_of_neg h h
  · exact Int.mul_pos h h
theorem nq_pos {a b c d : Int} (h : rotC a b c d = 0) : 0 < nq a b c d := by
  have h0 := (rotC_ok h).2.2.2.2
  have ha := sq_nn a; have hb := sq_nn b; have hc := sq_nn c; have hd := sq_nn d
  unfold nq
  by_cases e1 : a = 0
  · by_cases e2 : b = 0
    · by_cases e3 : c = 0
      · by_cases e4 : d = 0
        · exact absurd ⟨e1, e2, e3, e4⟩ h0
        · have := sq_pos e4; omega
      · have := sq_pos e3; omega
    · have := sq_pos e2; omega
  · have := sq_pos e1; omega
theorem nq_ne {a b c d : Int} (h : rotC a b c d = 0) : nq a b c d ≠ 0 := by have := nq_pos h; omega
theorem nq_b {a b c d : Int} (ha : (-1048576 ≤ a ∧ a ≤ 1048576)) (hb : (-1048576 ≤ b ∧ b ≤ 1048576)) (hc : (-1048576 ≤ c ∧ c ≤ 1048576)) (hd : (-1048576 ≤ d ∧ d ≤ 1048576)) : -9223372036854775808 ≤ nq a b c d ∧ nq a b c d ≤ 9223372036854775807 := by
  have h1 := sq_b ha ha; have h2 := sq_b hb hb; have h3 := sq_b hc hc; have h4 := sq_b hd hd
  unfold nq; omega
theorem divInt_cancel {z n : Int} (hn : n ≠ 0) : Rat.divInt z n * (n : Rat) = (z : Rat) := by
  rw [Rat.divInt_eq_div]
  exact Rat.div_mul_cancel (fun h => hn (Rat.intCast_eq_zero_iff.1 h))
theorem r00_b {a b c d : Int} (ha : (-1048576 ≤ a ∧ a ≤ 1048576)) (hb : (-1048576 ≤ b ∧ b ≤ 1048576)) (hc : (-1048576 ≤ c ∧ c ≤ 1048576)) (hd : (-1048576 ≤ d ∧ d ≤ 1048576)) : -9223372036854775808 ≤ r00 a b c d ∧ r00 a b c d ≤ 9223372036854775807 := by
  have h0 := sq_b ha ha; have h1 := sq_b hb hb; have h2 := sq_b hc hc; have h3 := sq_b hd hd
  unfold r00; omega
theorem ql_R00 {a b c d : Int} (ha : (-1048576 ≤ a ∧ a ≤ 1048576)) (hb : (-1048576 ≤ b ∧ b ≤ 1048576)) (hc : (-1048576 ≤ c ∧ c ≤ 1048576)) (hd : (-1048576 ≤ d ∧ d ≤ 1048576)) : QL (R00 a b c d) 3 := by
  have h := r00_b ha hb hc hd
  exact ql_int (lenZ_int h.1 h.2) (by decide)
theorem ql_Q00 {a b c d : Int} (ha : (-1048576 ≤ a ∧ a ≤ 1048576)) (hb : (-1048576 ≤ b ∧ b ≤ 1048576)) (hc : (-1048576 ≤ c ∧ c ≤ 1048576)) (hd : (-1048576 ≤ d ∧ d ≤ 1048576)) : QL (Q00 a b c d) 3 := by
  have h := r00_b ha hb hc hd; have h2 := nq_b ha hb hc hd
  exact ql_divInt (lenZ_int h.1 h.2) (lenZ_int h2.1 h2.2) (by decide)
theorem Q00_n {a b c d : Int} (h : nq a b c d ≠ 0) : Q00 a b c d * N4 a b c d = R00 a b c d := divInt_cancel h
theorem r01_b {a b c d : Int} (ha : (-1048576 ≤ a ∧ a ≤ 1048576)) (hb : (-1048576 ≤ b ∧ b ≤ 1048576)) (hc : (-1048576 ≤ c ∧ c ≤ 1048576)) (hd : (-1048576 ≤ d ∧ d ≤ 1048576)) : -9223372036854775808 ≤ r01 a b c d ∧ r01 a b c d ≤ 9223372036854775807 := by
  have h0 := sq_b hb hc; have h1 := sq_b ha hd
  unfold r01; omega
theorem ql_R01 {a b c d : Int} (ha : (-1048576 ≤ a ∧ a ≤ 1048576)) (hb : (-1048576 ≤ b ∧ b ≤ 1048576)) (hc : (-1048576 ≤ c ∧ c ≤ 1048576)) (hd : (-1048576 ≤ d ∧ d ≤ 1048576)) : QL (R01 a b c d) 3 := by
  have h := r01_b ha hb hc hd
  exact ql_int (lenZ_int h.1 h.2) (by decide)
theorem ql_Q01 {a b c d : Int} (ha : (-1048576 ≤ a ∧ a ≤ 1048576)) (hb : (-1048576 ≤ b ∧ b ≤ 1048576)) (hc : (-1048576 ≤ c ∧ c ≤ 1048576)) (hd : (-1048576 ≤ d ∧ d ≤ 1048576)) : QL (Q01 a b c d) 3 := by
  have h := r01_b ha hb hc hd; have h2 := nq_b ha hb hc hd
  exact ql_divInt (lenZ_int h.1 h.2) (lenZ_int h2.1 h2.2) (by decide)
theorem Q01_n {a b c d : Int} (h : nq a b c d ≠ 0) : Q01 a b c d * N4 a b c d = R01 a b c d := divInt_cancel h
theorem r02_b {a b c d : Int} (ha : (-1048576 ≤ a ∧ a ≤ 1048576)) (hb : (-1048576 ≤ b ∧ b ≤ 1048576)) (hc : (-1048576 ≤ c ∧ c ≤ 1048576)) (hd : (-1048576 ≤ d ∧ d ≤ 1048576)) : -9223372036854775808 ≤ r02 a b c d ∧ r02 a b c d ≤ 9223372036854775807 := by
  have h0 := sq_b hb hd; have h1 := sq_b ha hc
  unfold r02; omega
theorem ql_R02 {a b c d : Int} (ha : (-1048576 ≤ a ∧ a ≤ 1048576)) (hb : (-1048576 ≤ b ∧ b ≤ 1048576)) (hc : (-1048576 ≤ c ∧ c ≤ 1048576)) (hd : (-1048576 ≤ d ∧ d ≤ 1048576)) : QL (R02 a b c d) 3 := by
  have h := r02_b ha hb hc hd
  exact ql_int (lenZ_int h.1 h.2) (by decide)
theorem ql_Q02 {a b c d : Int} (ha : (-1048576 ≤ a ∧ a ≤ 1048576)) (hb : (-1048576 ≤ b ∧ b ≤ 1048576)) (hc : (-1048576 ≤ c ∧ c ≤ 1048576)) (hd : (-1048576 ≤ d ∧ d ≤ 1048576)) : QL (Q02 a b c d) 3 := by
  have h := r02_b ha hb hc hd; have h2 := nq_b ha hb hc hd
  exact ql_divInt (lenZ_int h.1 h.2) (lenZ_int h2.1 h2.2) (by decide)
theorem Q02_n {a b c d : Int} (h : nq a b c d ≠ 0) : Q02 a b c d * N4 a b c d = R02 a b c d := divInt_cancel h
theorem r10_b {a b c d : Int} (ha : (-1048576 ≤ a ∧ a ≤ 1048576)) (hb : (-1048576 ≤ b ∧ b ≤ 1048576)) (hc : (-1048576 ≤ c ∧ c ≤ 1048576)) (hd : (-1048576 ≤ d ∧ d ≤ 1048576)) : -9223372036854775808 ≤ r10 a b c d ∧ r10 a b c d ≤ 9223372036854775807 := by
  have h0 := sq_b hb hc; have h1 := sq_b ha hd
  unfold r10; omega
theorem ql_R10 {a b c d : Int} (ha : (-1048576 ≤ a ∧ a ≤ 1048576)) (hb : (-1048576 ≤ b ∧ b ≤ 1048576)) (hc : (-1048576 ≤ c ∧ c ≤ 1048576)) (hd : (-1048576 ≤ d ∧ d ≤ 1048576)) : QL (R10 a b c d) 3 := by
  have h := r10_b ha hb hc hd
  exact ql_int (lenZ_int h.1 h.2) (by decide)
theorem ql_Q10 {a b c d : Int} (ha : (-1048576 ≤ a ∧ a ≤ 1048576)) (hb : (-1048576 ≤ b ∧ b ≤ 1048576)) (hc : (-1048576 ≤ c ∧ c ≤ 1048576)) (hd : (-1048576 ≤ d ∧ d ≤ 1048576)) : QL (Q10 a b c d) 3 := by
  have h := r10_b ha hb hc hd; have h2 := nq_b ha hb hc hd
  exact ql_divInt (lenZ_int h.1 h.2) (lenZ_int h2.1 h2.2) (by decide)
theorem Q10_n {a b c d : Int} (h : nq a b c d ≠ 0) : Q10 a b c d * N4 a b c d = R10 a b c d := divInt_cancel h
theorem r11_b {a b c d : Int} (ha : (-1048576 ≤ a ∧ a ≤ 1048576)) (hb : (-1048576 ≤ b ∧ b ≤ 1048576)) (hc : (-1048576 ≤ c ∧ c ≤ 1048576)) (hd : (-1048576 ≤ d ∧ d ≤ 1048576)) : -9223372036854775808 ≤ r11 a b c d ∧ r11 a b c d ≤ 9223372036854775807 := by
  have h0 := sq_b ha ha; have h1 := sq_b hb hb; have h2 := sq_b hc hc; have h3 := sq_b hd hd
  unfold r11; omega
theorem ql_R11 {a b c d : Int} (ha : (-1048576 ≤ a ∧ a ≤ 1048576)) (hb : (-1048576 ≤ b ∧ b ≤ 1048576)) (hc : (-1048576 ≤ c ∧ c ≤ 1048576)) (hd : (-1048576 ≤ d ∧ d ≤ 1048576)) : QL (R11 a b c d) 3 := by
  have h := r11_b ha hb hc hd
  exact ql_int (lenZ_int h.1 h.2) (by decide)
theorem ql_Q11 {a b c d : Int} (ha : (-1048576 ≤ a ∧ a ≤ 1048576)) (hb : (-1048576 ≤ b ∧ b ≤ 1048576)) (hc : (-1048576 ≤ c ∧ c ≤ 1048576)) (hd : (-1048576 ≤ d ∧ d ≤ 1048576)) : QL (Q11 a b c d) 3 := by
  have h := r11_b ha hb hc hd; have h2 := nq_b ha hb hc hd
  exact ql_divInt (lenZ_int h.1 h.2) (lenZ_int h2.1 h2.2) (by decide)
theorem Q11_n {a b c d : Int} (h : nq a b c d ≠ 0) : Q11 a b c d * N4 a b c d = R11 a b c d := divInt_cancel h
theorem r12_b {a b c d : Int} (ha : (-1048576 ≤ a ∧ a ≤ 1048576)) (hb : (-1048576 ≤ b ∧ b ≤ 1048576)) (hc : (-1048576 ≤ c ∧ c ≤ 1048576)) (hd : (-1048576 ≤ d ∧ d ≤ 1048576)) : -9223372036854775808 ≤ r12 a b c d ∧ r12 a b c d ≤ 9223372036854775807 := by
  have h0 := sq_b hc hd; have h1 := sq_b ha hb
  unfold r12; omega
theorem ql_R12 {a b c d : Int} (ha : (-1048576 ≤ a ∧ a ≤ 1048576)) (hb : (-1048576 ≤ b ∧ b ≤ 1048576)) (hc : (-1048576 ≤ c ∧ c ≤ 1048576)) (hd : (-1048576 ≤ d ∧ d ≤ 1048576)) : QL (R12 a b c d) 3 := by
  have h := r12_b ha hb hc hd
  exact ql_int (lenZ_int h.1 h.2) (by decide)
theorem ql_Q12 {a b c d : Int} (ha : (-1048576 ≤ a ∧ a ≤ 1048576)) (hb : (-1048576 ≤ b ∧ b ≤ 1048576)) (hc : (-1048576 ≤ c ∧ c ≤ 1048576)) (hd : (-1048576 ≤ d ∧ d ≤ 1048576)) : QL (Q12 a b c d) 3 := by
  have h := r12_b ha hb hc hd; have h2 := nq_b ha hb hc hd
  exact ql_divInt (lenZ_int h.1 h.2) (lenZ_int h2.1 h2.2) (by decide)
theorem Q12_n {a b c d : Int} (h : nq a b c d ≠ 0) : Q12 a b c d * N4 a b c d = R12 a b c d := divInt_cancel h
theorem r20_b {a b c d : Int} (ha : (-1048576 ≤ a ∧ a ≤ 1048576)) (hb : (-1048576 ≤ b ∧ b ≤ 1048576)) (hc : (-1048576 ≤ c ∧ c ≤ 1048576)) (hd : (-1048576 ≤ d ∧ d ≤ 1048576)) : -9223372036854775808 ≤ r20 a b c d ∧ r20 a b c d ≤ 9223372036854775807 := by
  have h0 := sq_b hb hd; have h1 := sq_b ha hc
  unfold r20; omega
theorem ql_R20 {a b c d : Int} (ha : (-1048576 ≤ a ∧ a ≤ 1048576)) (hb : (-1048576 ≤ b ∧ b ≤ 1048576)) (hc : (-1048576 ≤ c ∧ c ≤ 1048576)) (hd : (-1048576 ≤ d ∧ d ≤ 1048576)) : QL (R20 a b c d) 3 := by
  have h := r20_b ha hb hc hd
  exact ql_int (lenZ_int h.1 h.2) (by decide)
theorem ql_Q20 {a b c d : Int} (ha : (-1048576 ≤ a ∧ a ≤ 1048576)) (hb : (-1048576 ≤ b ∧ b ≤ 1048576)) (hc : (-1048576 ≤ c ∧ c ≤ 1048576)) (hd : (-1048576 ≤ d ∧ d ≤ 1048576)) : QL (Q20 a b c d) 3 := by
  have h := r20_b ha hb hc hd; have h2 := nq_b ha hb hc hd
  exact ql_divInt (lenZ_int h.1 h.2) (lenZ_int h2.1 h2.2) (by decide)
theorem Q20_n {a b c d : Int} (h : nq a b c d ≠ 0) : Q20 a b c d * N4 a b c d = R20 a b c d := divInt_cancel h
theorem r21_b {a b c d : Int} (ha : (-1048576 ≤ a ∧ a ≤ 1048576)) (hb : (-1048576 ≤ b ∧ b ≤ 1048576)) (hc : (-1048576 ≤ c ∧ c ≤ 1048576)) (hd : (-1048576 ≤ d ∧ d ≤ 1048576)) : -9223372036854775808 ≤ r21 a b c d ∧ r21 a b c d ≤ 9223372036854775807 := by
  have h0 := sq_b hc hd; have h1 := sq_b ha hb
  unfold r21; omega
theorem ql_R21 {a b c d : Int} (ha : (-1048576 ≤ a ∧ a ≤ 1048576)) (hb : (-1048576 ≤ b ∧ b ≤ 1048576)) (hc : (-1048576 ≤ c ∧ c ≤ 1048576)) (hd : (-1048576 ≤ d ∧ d ≤ 1048576)) : QL (R21 a b c d) 3 := by
  have h := r21_b ha hb hc hd
  exact ql_int (lenZ_int h.1 h.2) (by decide)
theorem ql_Q21 {a b c d : Int} (ha : (-1048576 ≤ a ∧ a ≤ 1048576)) (hb : (-1048576 ≤ b ∧ b ≤ 1048576)) (hc : (-1048576 ≤ c ∧ c ≤ 1048576)) (hd : (-1048576 ≤ d ∧ d ≤ 1048576)) : QL (Q21 a b c d) 3 := by
  have h := r21_b ha hb hc hd; have h2 := nq_b ha hb hc hd
  exact ql_divInt (lenZ_int h.1 h.2) (lenZ_int h2.1 h2.2) (by decide)
theorem Q21_n {a b c d : Int} (h : nq a b c d ≠ 0) : Q21 a b c d * N4 a b c d = R21 a b c d := divInt_cancel h
theorem r22_b {a b c d : Int} (ha : (-1048576 ≤ a ∧ a ≤ 1048576)) (hb : (-1048576 ≤ b ∧ b ≤ 1048576)) (hc : (-1048576 ≤ c ∧ c ≤ 1048576)) (hd : (-1048576 ≤ d ∧ d ≤ 1048576)) : -9223372036854775808 ≤ r22 a b c d ∧ r22 a b c d ≤ 9223372036854775807 := by
  have h0 := sq_b ha ha; have h1 := sq_b hb hb; have h2 := sq_b hc hc; have h3 := sq_b hd hd
  unfold r22; omega
theorem ql_R22 {a b c d : Int} (ha : (-1048576 ≤ a ∧ a ≤ 1048576)) (hb : (-1048576 ≤ b ∧ b ≤ 1048576)) (hc : (-1048576 ≤ c ∧ c ≤ 1048576)) (hd : (-1048576 ≤ d ∧ d ≤ 1048576)) : QL (R22 a b c d) 3 := by
  have h := r22_b ha hb hc hd
  exact ql_int (lenZ_int h.1 h.2) (by decide)
theorem ql_Q22 {a b c d : Int} (ha : (-1048576 ≤ a ∧ a ≤ 1048576)) (hb : (-1048576 ≤ b ∧ b ≤ 1048576)) (hc : (-1048576 ≤ c ∧ c ≤ 1048576)) (hd : (-1048576 ≤ d ∧ d ≤ 1048576)) : QL (Q22 a b c d) 3 := by
  have h := r22_b ha hb hc hd; have h2 := nq_b ha hb hc hd
  exact ql_divInt (lenZ_int h.1 h.2) (lenZ_int h2.1 h2.2) (by decide)
theorem Q22_n {a b c d : Int} (h : nq a b c d ≠ 0) : Q22 a b c d * N4 a b c d = R22 a b c d := divInt_cancel h
theorem ql_eqz {x y : Rat} {n : Nat} (h : x = y) (hy : QL y n) : QL x n := h ▸ hy
def zeroV (a b c : Rat) : Bool := decide (a = 0) && (decide (b = 0) && decide (c = 0))
theorem zeroV_no {a b c : Rat} (h : zeroV a b c = false) : ¬ (a = 0 ∧ b = 0 ∧ c = 0) := by
  rintro ⟨rfl, rfl, rfl⟩; simp [zeroV] at h
theorem zeroV_yes {a b c : Rat} (h : zeroV a b c = true) : a = 0 ∧ b = 0 ∧ c = 0 := by
  simp [zeroV] at h; exact h
theorem zeroV_of {a b c : Rat} (h : a = 0 ∧ b = 0 ∧ c = 0) : zeroV a b c = true := by
  simp [zeroV, h]
theorem zeroV_not {a b c : Rat} (h : ¬ (a = 0 ∧ b = 0 ∧ c = 0)) : zeroV a b c = false := by
  rcases e : zeroV a b c with _ | _
  · rfl
  · exact absurd (zeroV_yes e) h
theorem rsq_nn (a : Rat) : 0 ≤ a * a := by
  rcases Rat.le_total (a := 0) (b := a) with h | h
  · exact Rat.mul_nonneg h h
  · have : 0 ≤ (-a) * (-a) := Rat.mul_nonneg (by grind) (by grind)
    grind
theorem rsq_zero {a : Rat} (h : a * a = 0) : a = 0 := by
  rcases Rat.mul_eq_zero.1 h with h | h <;> exact h
theorem dot3_self {a b c : Rat} : dot3 a b c a b c = 0 ↔ (a = 0 ∧ b = 0 ∧ c = 0) := by
  unfold dot3
  refine ⟨fun h => ?_, fun ⟨h1, h2, h3⟩ => by rw [h1, h2, h3]; grind⟩
  have ha := rsq_nn a; have hb := rsq_nn b; have hc := rsq_nn c
  exact ⟨rsq_zero (by grind), rsq_zero (by grind), rsq_zero (by grind)⟩
theorem zeroV_dot (a b c : Rat) : (signQ (dot3 a b c a b c) == 0) = zeroV a b c := by
  rcases e : zeroV a b c with _ | _
  · exact beq_eq_false_iff_ne.2 (fun h => zeroV_no e (dot3_self.1 (signQ_zero.1 h)))
  · exact beq_iff_eq.2 (signQ_zero.2 (dot3_self.2 (zeroV_yes e)))
def gcd3 (a b c : Rat) : Int := ((Int.gcd a.num ((Int.gcd b.num c.num : Nat) : Int) : Nat) : Int)
theorem gcd3_ne {a b c : Rat} (h : zeroV a b c = false) : gcd3 a b c ≠ 0 := fun e => by
  unfold gcd3 at e
  have e0 : Int.gcd a.num ((Int.gcd b.num c.num : Nat) : Int) = 0 := by omega
  obtain ⟨e1, e2⟩ := Int.gcd_eq_zero_iff.1 e0
  obtain ⟨e3, e4⟩ := Int.gcd_eq_zero_iff.1 (show Int.gcd b.num c.num = 0 by omega)
  exact zeroV_no h ⟨Rat.num_eq_zero.1 e1, Rat.num_eq_zero.1 e3, Rat.num_eq_zero.1 e4⟩
def redK (a b c : Rat) : Rat := Rat.divInt 1 (gcd3 a b c)
theorem lenZ_gcd0 {a b : Int} {n : Nat} (ha : lenZ a ≤ n) (hb : lenZ b ≤ n) : lenZ ((Int.gcd a b : Nat) : Int) ≤ n := by
  by_cases h : b = 0
  · rw [h, Int.gcd_zero_right]; exact Nat.le_trans (lenZ_of_le (by omega)) ha
  · exact lenZ_gcd h hb
theorem ql_redK {a b c : Rat} {n k : Nat} (ha : QL a n) (hb : QL b n) (hc : QL c n) (h : n ≤ k) (h1 : 1 ≤ n) : QL (redK a b c) k :=
  ql_up (ql_divInt (Nat.le_trans (lenZ_one (by decide)) h1) (lenZ_gcd0 ha.1 (lenZ_gcd0 hb.1 hc.1)) h1) h
theorem redK_ne {a b c : Rat} (h : zeroV a b c = false) : redK a b c ≠ 0 := by
  have h1 := gcd3_ne h
  unfold redK
  rw [Rat.divInt_eq_div]
  intro e
  have h2 : ((gcd3 a b c : Int) : Rat) ≠ 0 := fun q => h1 (Rat.intCast_eq_zero_iff.1 q)
  have h3 := Rat.div_mul_cancel (a := ((1 : Int) : Rat)) h2
  rw [e, Rat.zero_mul] at h3
  exact absurd h3 (by decide)
def dq0 (a b c d p q r s : Int) : Rat := (R02 a b c d * N4 p q r s) + (R02 p q r s * N4 a b c d)
theorem dq0_eq (a b c d p q r s : Int) : (R02 a b c d * N4 p q r s) + (R02 p q r s * N4 a b c d) = dq0 a b c d p q r s := rfl
def dq1 (a b c d p q r s : Int) : Rat := (R12 a b c d * N4 p q r s) + (R12 p q r s * N4 a b c d)
theorem dq1_eq (a b c d p q r s : Int) : (R12 a b c d * N4 p q r s) + (R12 p q r s * N4 a b c d) = dq1 a b c d p q r s := rfl
def dq2 (a b c d p q r s : Int) : Rat := (R22 a b c d * N4 p q r s) + (R22 p q r s * N4 a b c d)
theorem dq2_eq (a b c d p q r s : Int) : (R22 a b c d * N4 p q r s) + (R22 p q r s * N4 a b c d) = dq2 a b c d p q r s := rfl
def RFr (lx ly lz la lb lc ld rx ry rz ra rb rc rd : Int) (b0 b1 b2 e00 e01 e02 e10 e11 e12 e20 e21 e22 : Rat) : Prop :=
  (((rx - lx) : Int) : Rat) = b0 ∧
  (((ry - ly) : Int) : Rat) = b1 ∧
  (((rz - lz) : Int) : Rat) = b2 ∧
  b0 * redK b0 b1 b2 = e00 ∧
  b1 * redK b0 b1 b2 = e01 ∧
  b2 * redK b0 b1 b2 = e02 ∧
  (((dq1 la lb lc ld ra rb rc rd) * e02) - ((dq2 la lb lc ld ra rb rc rd) * e01)) * redK (((dq1 la lb lc ld ra rb rc rd) * e02) - ((dq2 la lb lc ld ra rb rc rd) * e01)) (((dq2 la lb lc ld ra rb rc rd) * e00) - ((dq0 la lb lc ld ra rb rc rd) * e02)) (((dq0 la lb lc ld ra rb rc rd) * e01) - ((dq1 la lb lc ld ra rb rc rd) * e00)) = e10 ∧
  (((dq2 la lb lc ld ra rb rc rd) * e00) - ((dq0 la lb lc ld ra rb rc rd) * e02)) * redK (((dq1 la lb lc ld ra rb rc rd) * e02) - ((dq2 la lb lc ld ra rb rc rd) * e01)) (((dq2 la lb lc ld ra rb rc rd) * e00) - ((dq0 la lb lc ld ra rb rc rd) * e02)) (((dq0 la lb lc ld ra rb rc rd) * e01) - ((dq1 la lb lc ld ra rb rc rd) * e00)) = e11 ∧
  (((dq0 la lb lc ld ra rb rc rd) * e01) - ((dq1 la lb lc ld ra rb rc rd) * e00)) * redK (((dq1 la lb lc ld ra rb rc rd) * e02) - ((dq2 la lb lc ld ra rb rc rd) * e01)) (((dq2 la lb lc ld ra rb rc rd) * e00) - ((dq0 la lb lc ld ra rb rc rd) * e02)) (((dq0 la lb lc ld ra rb rc rd) * e01) - ((dq1 la lb lc ld ra rb rc rd) * e00)) = e12 ∧
  ((e01 * e12) - (e02 * e11)) * redK ((e01 * e12) - (e02 * e11)) ((e02 * e10) - (e00 * e12)) ((e00 * e11) - (e01 * e10)) = e20 ∧
  ((e02 * e10) - (e00 * e12)) * redK ((e01 * e12) - (e02 * e11)) ((e02 * e10) - (e00 * e12)) ((e00 * e11) - (e01 * e10)) = e21 ∧
  ((e00 * e11) - (e01 * e10)) * redK ((e01 * e12) - (e02 * e11)) ((e02 * e10) - (e00 * e12)) ((e00 * e11) - (e01 * e10)) = e22
instance {lx ly lz la lb lc ld rx ry rz ra rb rc rd : Int} {b0 b1 b2 e00 e01 e02 e10 e11 e12 e20 e21 e22 : Rat} : Decidable (RFr lx ly lz la lb lc ld rx ry rz ra rb rc rd b0 b1 b2 e00 e01 e02 e10 e11 e12 e20 e21 e22) := by unfold RFr; infer_instance
def upV (la lb lc ld ra rb rc rd : Int) (b0 b1 b2 : Rat) : Bool := zeroV (((dq1 la lb lc ld ra rb rc rd) * b2) - ((dq2 la lb lc ld ra rb rc rd) * b1)) (((dq2 la lb lc ld ra rb rc rd) * b0) - ((dq0 la lb lc ld ra rb rc rd) * b2)) (((dq0 la lb lc ld ra rb rc rd) * b1) - ((dq1 la lb lc ld ra rb rc rd) * b0))
theorem cross_k (d0 d1 d2 a b c k : Rat) : (d1 * (c * k)) - (d2 * (b * k)) = (d1 * c - d2 * b) * k ∧ (d2 * (a * k)) - (d0 * (c * k)) = (d2 * a - d0 * c) * k ∧ (d0 * (b * k)) - (d1 * (a * k)) = (d0 * b - d1 * a) * k := by
  refine ⟨?_, ?_, ?_⟩ <;> grind
theorem zeroV_k {a b c k : Rat} (hk : k ≠ 0) : zeroV (a * k) (b * k) (c * k) = zeroV a b c := by
  have h : ∀ x : Rat, x * k = 0 ↔ x = 0 := fun x => ⟨fun e => (Rat.mul_eq_zero.1 e).resolve_right hk, fun e => by rw [e, Rat.zero_mul]⟩
  unfold zeroV
  simp only [h]
theorem upV_base {la lb lc ld ra rb rc rd : Int} {b0 b1 b2 : Rat} (h : upV la lb lc ld ra rb rc rd b0 b1 b2 = false) : zeroV b0 b1 b2 = false := by
  refine zeroV_not (fun ⟨h1, h2, h3⟩ => ?_)
  subst h1; subst h2; subst h3
  have h9 := zeroV_no h
  exact h9 ⟨by grind, by grind, by grind⟩
theorem up_zs {la lb lc ld ra rb rc rd : Int} {b0 b1 b2 : Rat} {v : Bool} (hz : zeroV b0 b1 b2 = false) (h : upV la lb lc ld ra rb rc rd b0 b1 b2 = v) : zeroV (((dq1 la lb lc ld ra rb rc rd) * (b2 * (redK b0 b1 b2))) - ((dq2 la lb lc ld ra rb rc rd) * (b1 * (redK b0 b1 b2)))) (((dq2 la lb lc ld ra rb rc rd) * (b0 * (redK b0 b1 b2))) - ((dq0 la lb lc ld ra rb rc rd) * (b2 * (redK b0 b1 b2)))) (((dq0 la lb lc ld ra rb rc rd) * (b1 * (redK b0 b1 b2))) - ((dq1 la lb lc ld ra rb rc rd) * (b0 * (redK b0 b1 b2)))) = v := by
  have hc := cross_k (dq0 la lb lc ld ra rb rc rd) (dq1 la lb lc ld ra rb rc rd) (dq2 la lb lc ld ra rb rc rd) b0 b1 b2 (redK b0 b1 b2)
  rw [hc.1, hc.2.1, hc.2.2, zeroV_k (redK_ne hz)]
  exact h
section
variable {lx ly lz la lb lc ld rx ry rz ra rb rc rd : Int} {b0 b1 b2 e00 e01 e02 e10 e11 e12 e20 e21 e22 : Rat}
theorem fr_zb (hF : RFr lx ly lz la lb lc ld rx ry rz ra rb rc rd b0 b1 b2 e00 e01 e02 e10 e11 e12 e20 e21 e22) (hup : upV la lb lc ld ra rb rc rd b0 b1 b2 = false) : zeroV b0 b1 b2 = false := upV_base hup
theorem fr_zs (hF : RFr lx ly lz la lb lc ld rx ry rz ra rb rc rd b0 b1 b2 e00 e01 e02 e10 e11 e12 e20 e21 e22) (hup : upV la lb lc ld ra rb rc rd b0 b1 b2 = false) : zeroV (((dq1 la lb lc ld ra rb rc rd) * e02) - ((dq2 la lb lc ld ra rb rc rd) * e01)) (((dq2 la lb lc ld ra rb rc rd) * e00) - ((dq0 la lb lc ld ra rb rc rd) * e02)) (((dq0 la lb lc ld ra rb rc rd) * e01) - ((dq1 la lb lc ld ra rb rc rd) * e00)) = false := by
  have h := up_zs (upV_base hup) hup
  obtain ⟨-, -, -, he0, he1, he2, -⟩ := hF
  rw [he0, he1, he2] at h
  exact h
theorem orth_cross (a b c d0 d1 d2 : Rat) : dot3 a b c ((d1 * c) - (d2 * b)) ((d2 * a) - (d0 * c)) ((d0 * b) - (d1 * a)) = 0 := by unfold dot3; grind
theorem dot3_k (a b c x y z k : Rat) : dot3 a b c (x * k) (y * k) (z * k) = dot3 a b c x y z * k := by unfold dot3; grind
theorem fr_01 (hF : RFr lx ly lz la lb lc ld rx ry rz ra rb rc rd b0 b1 b2 e00 e01 e02 e10 e11 e12 e20 e21 e22) : dot3 e00 e01 e02 e10 e11 e12 = 0 := by
  obtain ⟨-, -, -, -, -, -, he0, he1, he2, -⟩ := hF
  rw [← he0, ← he1, ← he2, dot3_k, orth_cross, Rat.zero_mul]
theorem lagr (a b c x y z : Rat) : dot3 (b * z - c * y) (c * x - a * z) (a * y - b * x) (b * z - c * y) (c * x - a * z) (a * y - b * x) = dot3 a b c a b c * dot3 x y z x y z - dot3 a b c x y z * dot3 a b c x y z := by
  unfold dot3; grind
theorem fr_z0 (hF : RFr lx ly lz la lb lc ld rx ry rz ra rb rc rd b0 b1 b2 e00 e01 e02 e10 e11 e12 e20 e21 e22) (hup : upV la lb lc ld ra rb rc rd b0 b1 b2 = false) : zeroV e00 e01 e02 = false := by
  have h := upV_base hup
  obtain ⟨-, -, -, he0, he1, he2, -⟩ := hF
  rw [← zeroV_k (redK_ne h), he0, he1, he2] at h
  exact h
theorem fr_z1 (hF : RFr lx ly lz la lb lc ld rx ry rz ra rb rc rd b0 b1 b2 e00 e01 e02 e10 e11 e12 e20 e21 e22) (hup : upV la lb lc ld ra rb rc rd b0 b1 b2 = false) : zeroV e10 e11 e12 = false := by
  have h := fr_zs hF hup
  obtain ⟨-, -, -, -, -, -, he0, he1, he2, -⟩ := hF
  rw [← zeroV_k (redK_ne h), he0, he1, he2] at h
  exact h
theorem fr_zt (hF : RFr lx ly lz la lb lc ld rx ry rz ra rb rc rd b0 b1 b2 e00 e01 e02 e10 e11 e12 e20 e21 e22) (hup : upV la lb lc ld ra rb rc rd b0 b1 b2 = false) : zeroV ((e01 * e12) - (e02 * e11)) ((e02 * e10) - (e00 * e12)) ((e00 * e11) - (e01 * e10)) = false := by
  refine zeroV_not (fun hz => ?_)
  have h1 := dot3_self.2 hz
  rw [lagr, fr_01 hF, Rat.zero_mul, Rat.sub_eq_add_neg, Rat.neg_zero, Rat.add_zero] at h1
  rcases Rat.mul_eq_zero.1 h1 with h2 | h2
  · exact zeroV_no (fr_z0 hF hup) (dot3_self.1 h2)
  · exact zeroV_no (fr_z1 hF hup) (dot3_self.1 h2)
theorem fr_z2 (hF : RFr lx ly lz la lb lc ld rx ry rz ra rb rc rd b0 b1 b2 e00 e01 e02 e10 e11 e12 e20 e21 e22) (hup : upV la lb lc ld ra rb rc rd b0 b1 b2 = false) : zeroV e20 e21 e22 = false := by
  have h := fr_zt hF hup
  obtain ⟨-, -, -, -, -, -, -, -, -, he0, he1, he2⟩ := hF
  rw [← zeroV_k (redK_ne h), he0, he1, he2] at h
  exact h
end
theorem zb_eq {lx ly lz rx ry rz : Int} {b0 b1 b2 : Rat} (h0 : ((rx - lx : Int) : Rat) = b0) (h1 : ((ry - ly : Int) : Rat) = b1) (h2 : ((rz - lz : Int) : Rat) = b2) (h : [lx, ly, lz] = [rx, ry, rz]) : zeroV b0 b1 b2 = true := by
  simp only [List.cons.injEq, and_true] at h
  refine zeroV_of ⟨?_, ?_, ?_⟩
  · rw [← h0]; exact Rat.intCast_eq_zero_iff.2 (by omega)
  · rw [← h1]; exact Rat.intCast_eq_zero_iff.2 (by omega)
  · rw [← h2]; exact Rat.intCast_eq_zero_iff.2 (by omega)
end Go.Fid
namespace Go.Proofs.YtbecgnplakngdaaGreat
open Go.Fid
set_option maxRecDepth 4000
set_option linter.unusedVariables false
set_option linter.unusedSimpArgs false
theorem cb126 : callB Tryz.prog 126 = true := by kernel_rfl
theorem cb169 : callB Tryz.prog 169 = true := by kernel_rfl
theorem q_norm (a b c d : Int) (ha : -1048576 ≤ a ∧ a ≤ 1048576) (hb : -1048576 ≤ b ∧ b ≤ 1048576) (hc : -1048576 ≤ c ∧ c ≤ 1048576) (hd : -1048576 ≤ d ∧ d ≤ 1048576) : Takes Tryz.prog 126 [(encQuat (RQuat.mk a b c d))] (.val (.int .i64 ((nq a b c d)))) := by
  have saa := sq_b ha ha
  have sab := sq_b ha hb
  have sac := sq_b ha hc
  have sad := sq_b ha hd
  have sbb := sq_b hb hb
  have sbc := sq_b hb hc
  have sbd := sq_b hb hd
  have scc := sq_b hc hc
  have scd := sq_b hc hd
  have sdd := sq_b hd hd
  refine fn_intro Tryz.func126 rfl cb126 rfl ?_
  show PWp _ _ _ _ ⟨[(0, (.d (encQuat (RQuat.mk a b c d))))], []⟩
  refine pwp_seq <| kx [(1, (.ref 0 0))] [(0, some (bx (encQuat (RQuat.mk a b c d))))] (zN (oBx 0) <| zM <| zZ) ?_
  refine pwp_seq <| kx [(2, (vi ((((a * a) + (b * b)) + (c * c)) + (d * d))))] [] (zE (oFr fo25_0) <| zR (oL1 sh3) <| zE (oFr fo25_0) <| zR (oL1 sh3) <| zE (zMl (a * a) (hr := by exact (wAny rfl (by simp only [kLo]; omega) (by simp only [kHi]; omega)))) <| zE (oFr fo25_1) <| zR (oL1 sh3) <| zE (oFr fo25_1) <| zR (oL1 sh3) <| zE (zMl (b * b) (hr := by exact (wAny rfl (by simp only [kLo]; omega) (by simp only [kHi]; omega)))) <| zE (zAd ((a * a) + (b * b)) (hr := by exact (wAny rfl (by simp only [kLo]; omega) (by simp only [kHi]; omega)))) <| zE (oFr fo25_2) <| zR (oL1 sh3) <| zE (oFr fo25_2) <| zR (oL1 sh3) <| zE (zMl (c * c) (hr := by exact (wAny rfl (by simp only [kLo]; omega) (by simp only [kHi]; omega)))) <| zE (zAd (((a * a) + (b * b)) + (c * c)) (hr := by exact (wAny rfl (by simp only [kLo]; omega) (by simp only [kHi]; omega)))) <| zE (oFr fo25_3) <| zR (oL1 sh3) <| zE (oFr fo25_3) <| zR (oL1 sh3) <| zE (zMl (d * d) (hr := by exact (wAny rfl (by simp only [kLo]; omega) (by simp only [kHi]; omega)))) <| zE (zAd ((((a * a) + (b * b)) + (c * c)) + (d * d)) (hr := by exact (wAny rfl (by simp only [kLo]; omega) (by simp only [kHi]; omega)))) <| zM <| zZ) ?_
  refine pwp_ret ⟨_, (.tmp (d := (.val (.int .i64 (((((a * a) + (b * b)) + (c * c)) + (d * d)))))) rfl .nil), ?_⟩
  rfl
theorem qr_norm (a b c d : Int) (ha : -1048576 ≤ a ∧ a ≤ 1048576) (hb : -1048576 ≤ b ∧ b ≤ 1048576) (hc : -1048576 ≤ c ∧ c ≤ 1048576) (hd : -1048576 ≤ d ∧ d ≤ 1048576) : Takes Tryz.prog 169 [(encQuat (RQuat.mk a b c d))] (.val (.int .i64 ((nq a b c d)))) := by
  have saa := sq_b ha ha
  have sab := sq_b ha hb
  have sac := sq_b ha hc
  have sad := sq_b ha hd
  have sbb := sq_b hb hb
  have sbc := sq_b hb hc
  have sbd := sq_b hb hd
  have scc := sq_b hc hc
  have scd := sq_b hc hd
  have sdd := sq_b hd hd
  refine fn_intro Tryz.func169 rfl cb169 rfl ?_
  show PWp _ _ _ _ ⟨[(0, (.d (encQuat (RQuat.mk a b c d))))], []⟩
  refine pwp_seq <| kx [(1, (.ref 0 0))] [(0, some (bx (encQuat (RQuat.mk a b c d))))] (zN (oBx 0) <| zM <| zZ) ?_
  refine pwp_seq <| kx [(2, (vi ((((a * a) + (b * b)) + (c * c)) + (d * d))))] [] (zE (oFr fo25_0) <| zR (oL1 sh3) <| zE (oFr fo25_0) <| zR (oL1 sh3) <| zE (zMl (a * a) (hr := by exact (wAny rfl (by simp only [kLo]; omega) (by simp only [kHi]; omega)))) <| zE (oFr fo25_1) <| zR (oL1 sh3) <| zE (oFr fo25_1) <| zR (oL1 sh3) <| zE (zMl (b * b) (hr := by exact (wAny rfl (by simp only [kLo]; omega) (by simp only [kHi]; omega)))) <| zE (zAd ((a * a) + (b * b)) (hr := by exact (wAny rfl (by simp only [kLo]; omega) (by simp only [kHi]; omega)))) <| zE (oFr fo25_2) <| zR (oL1 sh3) <| zE (oFr fo25_2) <| zR (oL1 sh3) <| zE (zMl (c * c) (hr := by exact (wAny rfl (by simp only [kLo]; omega) (by simp only [kHi]; omega)))) <| zE (zAd (((a * a) + (b * b)) + (c * c)) (hr := by exact (wAny rfl (by simp only [kLo]; omega) (by simp only [kHi]; omega)))) <| zE (oFr fo25_3) <| zR (oL1 sh3) <| zE (oFr fo25_3) <| zR (oL1 sh3) <| zE (zMl (d * d) (hr := by exact (wAny rfl (by simp only [kLo]; omega) (by simp only [kHi]; omega)))) <| zE (zAd ((((a * a) + (b * b)) + (c * c)) + (d * d)) (hr := by exact (wAny rfl (by simp only [kLo]; omega) (by simp only [kHi]; omega)))) <| zM <| zZ) ?_
  refine pwp_ret ⟨_, (.tmp (d := (.val (.int .i64 (((((a * a) + (b * b)) + (c * c)) + (d * d)))))) rfl .nil), ?_⟩
  rfl
end Go.Proofs.YtbecgnplakngdaaGreat
namespace Go.Proofs.YtbecgnplakngdaaGreat
open Go.Fid
set_option maxRecDepth 4000
set_option linter.unusedVariables false
set_option linter.unusedSimpArgs false
end Go.Proofs.YtbecgnplakngdaaGreat
namespace Go.Proofs.YtbecgnplakngdaaGreat
open Go.Fid
set_option maxRecDepth 4000
set_option linter.unusedVariables false
set_option linter.unusedSimpArgs false
end Go.Proofs.YtbecgnplakngdaaGreat
namespace Go.Proofs.YtbecgnplakngdaaGreat
open Go.Fid
set_option maxRecDepth 4000
set_option linter.unusedVariables false
set_option linter.unusedSimpArgs false
end Go.Proofs.YtbecgnplakngdaaGreat
namespace Go.Proofs.YtbecgnplakngdaaGreat
open Go.Fid
set_option maxRecDepth 4000
set_option linter.unusedVariables false
set_option linter.unusedSimpArgs false
end Go.Proofs.YtbecgnplakngdaaGreat
set_option linter.unusedVariables false
set_option linter.unusedSimpArgs false
namespace Go.Fid
end Go.Fid
set_option linter.unusedVariables false
set_option linter.unusedSimpArgs false
namespace Go.Fid
end Go.Fid
set_option linter.unusedVariables false
set_option linter.unusedSimpArgs false
namespace Go.Fid
theorem den_pos (u : Rat) : ((u.den : Nat) : Int) ≠ 0 := by have := u.den_pos; omega
end Go.Fid
namespace Go.Proofs.YtbecgnplakngdaaGreat
open Go.Fid
set_option maxRecDepth 4000
set_option linter.unusedVariables false
set_option linter.unusedSimpArgs false
theorem cb167 : callB Tryz.prog 167 = true := by kernel_rfl
theorem cb204 : callB Tryz.prog 204 = true := by kernel_rfl
theorem fo56_0 : fieldB Tryz.prog 56 0 = some 0 := by kernel_rfl
theorem fo56_1 : fieldB Tryz.prog 56 1 = some 4 := by kernel_rfl
theorem pl56 : placesB Tryz.prog 56 = some [(0, 4), (4, 4)] := by kernel_rfl
theorem sh56 : shapeB Tryz.prog 56 = some (true, 8) := by kernel_rfl
theorem ze56 : zeroB Tryz.prog 56 = some [.bool false, .slice none 0 0, .bool false, .slice none 0 0, .bool false, .slice none 0 0, .bool false, .slice none 0 0] := by kernel_rfl
theorem zo56 : ZOk [.bool false, .slice none 0 0, .bool false, .slice none 0 0, .bool false, .slice none 0 0, .bool false, .slice none 0 0] [.val (.bool false), .sl 152 1 [], .val (.bool false), .sl 152 1 [], .val (.bool false), .sl 152 1 [], .val (.bool false), .sl 152 1 []] := by simp [ZOk, Value.oneCell']
theorem f_counted (x : RInt) (a : Int) (hx : IOk x a 68719476736) : Takes Tryz.prog 204 [(encI x)] (encI (ofZ a)) := by
  refine fn_intro Tryz.func204 rfl cb204 rfl ?_
  show PWp _ _ _ _ ⟨[(0, (.d (encI x)))], []⟩
  refine pwp_seq <| kx [(1, (.ref 0 0)), (2, (.ref 1 0))] [(0, some (bx (encI x))), (1, some (bx (encI (RInt.mk false []))))] (zN (oBx 0) <| zN (oAl 1 ze40 zo40) <| zZ) ?_
  refine pwp_seq <| pwp_seq <| kx [(4, (vb (validI x)))] [] (zR (oLa sh40) <| zE (oCl (t_valid x (Nat.le_trans hx.l (by decide)))) <| zZ) ?_
  refine pwp_cond (b := (validI x)) rfl (fun h1 => ?_) (fun h1 => ?_)
  · refine pwp_seq <| kx [] [(1, some (bx (encI x)))] (zR (oLa sh40) <| zT (oSt sh40) <| zZ) ?_
    refine pwp_ret ⟨_, (res_a (cs := (bx (encI x))) (d := (encI x)) rfl rfl sh40 rfl rfl .nil), ?_⟩
    rw [← hx.v, ofZ_toZ h1]; rfl
  · refine pwp_skip <| pwp_seq <| kx [] [(1, some (bx (encI (ofZ 0))))] (zE (oCl (t_of 0 (by decide) (by decide))) <| zT (oSt sh40) <| zZ) ?_
    refine pwp_ret ⟨_, (res_a (cs := (bx (encI (ofZ 0)))) (d := (encI (ofZ 0))) rfl rfl sh40 rfl rfl .nil), ?_⟩
    rw [← hx.v, toZ_bad h1, ofZ_zero]; rfl
theorem f_newO (num : RInt) (a : Int) (hnum : IOk num a 68719476736) (den : RInt) (b : Int) (hden : IOk den b 68719476736) (hb : b ≠ 0) : Takes Tryz.prog 167 [(encI num), (encI den)] (.tup [(encR (ofQ (Rat.divInt a b))), (.val (.int .i64 (0)))]) := by
  refine fn_intro Tryz.func167 rfl cb167 rfl ?_
  show PWp _ _ _ _ ⟨[(0, (.d (encI num))), (1, (.d (encI den)))], []⟩
  refine pwp_seq <| kx [(2, (.ref 0 0)), (3, (.ref 1 0)), (4, (.ref 2 0))] [(0, some (bx (encI num))), (1, some (bx (encI den))), (2, some (bx (encR (RRat.mk (RInt.mk false []) (RInt.mk false [])))))] (zN (oBx 0) <| zN (oBx 1) <| zN (oAl 2 ze42 zo42) <| zM <| zZ) ?_
  refine pwp_seq <| kd [] [(0, some (bx (encI (ofZ a)))), (1, some (bx (encI (ofZ b))))] mo (wR (oLa sh40) <| wE (oCl (f_counted num a hnum)) <| wR (oLa sh40) <| wE (oCl (f_counted den b hden)) <| wT (oSt sh40) <| wT (oSt sh40) <| wZ) ?_
  refine pwp_seq <| pwp_seq <| kx [(12, (vb false))] [] (zR (oLa sh40) <| zE (oCl (s_sign (iok_of (IOk.ln hden)) (by decide))) <| zE (oBk false oEq (by exact beq_eq_false_iff_ne.2 (signI_ne hb))) <| zZ) ?_
  refine pwp_cond (b := false) (by kernel_rfl) (fun h => by cases h) (fun _ => ?_)
  refine pwp_skip <| pwp_seq <| kx [(5, (vin 0))] [(2, some (bx (encR (ofQ (Rat.divInt a b)))))] (zR (oLa sh40) <| zR (oLa sh40) <| zE (oCl (f_reduced (ofZ a) (ofZ b) a b (iok_of (IOk.ln hnum)) (iok_of (IOk.ln hden)) (by assumption))) <| zT (oSt sh42) <| zM <| zZ) ?_
  refine pwp_ret ⟨_, (res_a (cs := (bx (encR (ofQ (Rat.divInt a b))))) (d := (encR (ofQ (Rat.divInt a b)))) rfl rfl sh42 rfl rfl (.tmp (d := (.val (.int .i64 (0)))) rfl .nil)), ?_⟩
  rfl
theorem g_newO (num : RInt) (a : Int) (hnum : IOk num a 68719476736) (den : RInt) (b : Int) (hden : IOk den b 68719476736) (hb : b ≠ 0) : Takes Tryz.prog 26 [(encI num), (encI den)] (.tup [(encR (ofQ (Rat.divInt a b))), (.val (.int .i64 (0)))]) := by
  refine fn_intro Tryz.func26 rfl cb26 rfl ?_
  show PWp _ _ _ _ ⟨[(0, (.d (encI num))), (1, (.d (encI den)))], []⟩
  refine pwp_seq <| kx [(2, (.ref 0 0)), (3, (.ref 1 0)), (4, (.ref 2 0))] [(0, some (bx (encI num))), (1, some (bx (encI den))), (2, some (bx (encR (RRat.mk (RInt.mk false []) (RInt.mk false [])))))] (zN (oBx 0) <| zN (oBx 1) <| zN (oAl 2 ze42 zo42) <| zM <| zZ) ?_
  refine pwp_seq <| pwp_seq <| kx [(8, (vb false))] [] (zR (oLa sh40) <| zE (oCl (rs_sign hden (by decide))) <| zE (oBk false oEq (by exact beq_eq_false_iff_ne.2 (signI_ne hb))) <| zZ) ?_
  refine pwp_cond (b := false) (by kernel_rfl) (fun h => by cases h) (fun _ => ?_)
  refine pwp_skip <| pwp_seq <| kx [(5, (vin 0))] [(2, some (bx (encR (ofQ (Rat.divInt a b)))))] (zR (oLa sh40) <| zR (oLa sh40) <| zE (oCl (g_reduced num den a b hnum hden (by assumption))) <| zT (oSt sh42) <| zM <| zZ) ?_
  refine pwp_ret ⟨_, (res_a (cs := (bx (encR (ofQ (Rat.divInt a b))))) (d := (encR (ofQ (Rat.divInt a b)))) rfl rfl sh42 rfl rfl (.tmp (d := (.val (.int .i64 (0)))) rfl .nil)), ?_⟩
  rfl
end Go.Proofs.YtbecgnplakngdaaGreat
namespace Go.Fid
end Go.Fid
namespace Go.Proofs.YtbecgnplakngdaaGreat
open Go.Fid
set_option maxRecDepth 4000
set_option linter.unusedVariables false
set_option linter.unusedSimpArgs false
theorem cb63 : callB Tryz.prog 63 = true := by kernel_rfl
end Go.Proofs.YtbecgnplakngdaaGreat
