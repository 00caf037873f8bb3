/- Part 9 of a proof: rules, plain facts, and functions walked. -/
import Derived.Test.YtbecgnplakngdaaGreatM8
import Derived.Test.YtbecgnplakngdaaGreatM4
namespace Go.Proofs.YtbecgnplakngdaaGreat
open Go.Fid
set_option maxRecDepth 4000
set_option linter.unusedVariables false
set_option linter.unusedSimpArgs false
theorem ar44 : arrB Tryz.prog 44 = some (3, 42, 4) := by kernel_rfl
theorem ar45 : arrB Tryz.prog 45 = some (3, 44, 12) := by kernel_rfl
theorem ar129 : arrB Tryz.prog 129 = some (3, 42, 4) := by kernel_rfl
theorem ar131 : arrB Tryz.prog 131 = some (3, 129, 12) := by kernel_rfl
theorem cb22 : callB Tryz.prog 22 = true := by kernel_rfl
theorem cb23 : callB Tryz.prog 23 = true := by kernel_rfl
theorem cb38 : callB Tryz.prog 38 = true := by kernel_rfl
theorem cb44 : callB Tryz.prog 44 = true := by kernel_rfl
theorem cb45 : callB Tryz.prog 45 = true := by kernel_rfl
theorem cb70 : callB Tryz.prog 70 = true := by kernel_rfl
theorem cb72 : callB Tryz.prog 72 = true := by kernel_rfl
theorem cb73 : callB Tryz.prog 73 = true := by kernel_rfl
theorem cb78 : callB Tryz.prog 78 = true := by kernel_rfl
theorem cb92 : callB Tryz.prog 92 = true := by kernel_rfl
theorem cb96 : callB Tryz.prog 96 = true := by kernel_rfl
theorem cb98 : callB Tryz.prog 98 = true := by kernel_rfl
theorem cb101 : callB Tryz.prog 101 = true := by kernel_rfl
theorem cb106 : callB Tryz.prog 106 = true := by kernel_rfl
theorem cb107 : callB Tryz.prog 107 = true := by kernel_rfl
theorem cb141 : callB Tryz.prog 141 = true := by kernel_rfl
theorem el52 : elemB Tryz.prog 52 = some (42, 4) := by kernel_rfl
theorem sh44 : shapeB Tryz.prog 44 = some (true, 12) := by kernel_rfl
theorem sh45 : shapeB Tryz.prog 45 = some (true, 36) := by kernel_rfl
theorem sh129 : shapeB Tryz.prog 129 = some (true, 12) := by kernel_rfl
theorem sh131 : shapeB Tryz.prog 131 = some (true, 36) := by kernel_rfl
theorem ze44 : zeroB Tryz.prog 44 = some [.bool false, .slice none 0 0, .bool false, .slice none 0 0, .bool false, .slice none 0 0, .bool false, .slice none 0 0, .bool false, .slice none 0 0, .bool false, .slice none 0 0] := by kernel_rfl
theorem ze45 : zeroB Tryz.prog 45 = some [.bool false, .slice none 0 0, .bool false, .slice none 0 0, .bool false, .slice none 0 0, .bool false, .slice none 0 0, .bool false, .slice none 0 0, .bool false, .slice none 0 0, .bool false, .slice none 0 0, .bool false, .slice none 0 0, .bool false, .slice none 0 0, .bool false, .slice none 0 0, .bool false, .slice none 0 0, .bool false, .slice none 0 0, .bool false, .slice none 0 0, .bool false, .slice none 0 0, .bool false, .slice none 0 0, .bool false, .slice none 0 0, .bool false, .slice none 0 0, .bool false, .slice none 0 0] := by kernel_rfl
theorem ze129 : zeroB Tryz.prog 129 = some [.bool false, .slice none 0 0, .bool false, .slice none 0 0, .bool false, .slice none 0 0, .bool false, .slice none 0 0, .bool false, .slice none 0 0, .bool false, .slice none 0 0] := by kernel_rfl
theorem ze131 : zeroB Tryz.prog 131 = some [.bool false, .slice none 0 0, .bool false, .slice none 0 0, .bool false, .slice none 0 0, .bool false, .slice none 0 0, .bool false, .slice none 0 0, .bool false, .slice none 0 0, .bool false, .slice none 0 0, .bool false, .slice none 0 0, .bool false, .slice none 0 0, .bool false, .slice none 0 0, .bool false, .slice none 0 0, .bool false, .slice none 0 0, .bool false, .slice none 0 0, .bool false, .slice none 0 0, .bool false, .slice none 0 0, .bool false, .slice none 0 0, .bool false, .slice none 0 0, .bool false, .slice none 0 0] := by kernel_rfl
theorem zo44 : ZOk [.bool false, .slice none 0 0, .bool false, .slice none 0 0, .bool false, .slice none 0 0, .bool false, .slice none 0 0, .bool false, .slice none 0 0, .bool false, .slice none 0 0] [.val (.bool false), .sl 152 1 [], .val (.bool false), .sl 152 1 [], .val (.bool false), .sl 152 1 [], .val (.bool false), .sl 152 1 [], .val (.bool false), .sl 152 1 [], .val (.bool false), .sl 152 1 []] := by simp [ZOk, Value.oneCell']
theorem zo45 : ZOk [.bool false, .slice none 0 0, .bool false, .slice none 0 0, .bool false, .slice none 0 0, .bool false, .slice none 0 0, .bool false, .slice none 0 0, .bool false, .slice none 0 0, .bool false, .slice none 0 0, .bool false, .slice none 0 0, .bool false, .slice none 0 0, .bool false, .slice none 0 0, .bool false, .slice none 0 0, .bool false, .slice none 0 0, .bool false, .slice none 0 0, .bool false, .slice none 0 0, .bool false, .slice none 0 0, .bool false, .slice none 0 0, .bool false, .slice none 0 0, .bool false, .slice none 0 0] [.val (.bool false), .sl 152 1 [], .val (.bool false), .sl 152 1 [], .val (.bool false), .sl 152 1 [], .val (.bool false), .sl 152 1 [], .val (.bool false), .sl 152 1 [], .val (.bool false), .sl 152 1 [], .val (.bool false), .sl 152 1 [], .val (.bool false), .sl 152 1 [], .val (.bool false), .sl 152 1 [], .val (.bool false), .sl 152 1 [], .val (.bool false), .sl 152 1 [], .val (.bool false), .sl 152 1 [], .val (.bool false), .sl 152 1 [], .val (.bool false), .sl 152 1 [], .val (.bool false), .sl 152 1 [], .val (.bool false), .sl 152 1 [], .val (.bool false), .sl 152 1 [], .val (.bool false), .sl 152 1 []] := by simp [ZOk, Value.oneCell']
theorem zo129 : ZOk [.bool false, .slice none 0 0, .bool false, .slice none 0 0, .bool false, .slice none 0 0, .bool false, .slice none 0 0, .bool false, .slice none 0 0, .bool false, .slice none 0 0] [.val (.bool false), .sl 152 1 [], .val (.bool false), .sl 152 1 [], .val (.bool false), .sl 152 1 [], .val (.bool false), .sl 152 1 [], .val (.bool false), .sl 152 1 [], .val (.bool false), .sl 152 1 []] := by simp [ZOk, Value.oneCell']
theorem zo131 : ZOk [.bool false, .slice none 0 0, .bool false, .slice none 0 0, .bool false, .slice none 0 0, .bool false, .slice none 0 0, .bool false, .slice none 0 0, .bool false, .slice none 0 0, .bool false, .slice none 0 0, .bool false, .slice none 0 0, .bool false, .slice none 0 0, .bool false, .slice none 0 0, .bool false, .slice none 0 0, .bool false, .slice none 0 0, .bool false, .slice none 0 0, .bool false, .slice none 0 0, .bool false, .slice none 0 0, .bool false, .slice none 0 0, .bool false, .slice none 0 0, .bool false, .slice none 0 0] [.val (.bool false), .sl 152 1 [], .val (.bool false), .sl 152 1 [], .val (.bool false), .sl 152 1 [], .val (.bool false), .sl 152 1 [], .val (.bool false), .sl 152 1 [], .val (.bool false), .sl 152 1 [], .val (.bool false), .sl 152 1 [], .val (.bool false), .sl 152 1 [], .val (.bool false), .sl 152 1 [], .val (.bool false), .sl 152 1 [], .val (.bool false), .sl 152 1 [], .val (.bool false), .sl 152 1 [], .val (.bool false), .sl 152 1 [], .val (.bool false), .sl 152 1 [], .val (.bool false), .sl 152 1 [], .val (.bool false), .sl 152 1 [], .val (.bool false), .sl 152 1 [], .val (.bool false), .sl 152 1 []] := by simp [ZOk, Value.oneCell']
theorem q_dotF (ta : Nat) (a0 a1 a2 : Rat) (ha0 : QL a0 100000000) (ha1 : QL a1 100000000) (ha2 : QL a2 100000000) (tb : Nat) (b0 b1 b2 : Rat) (hb0 : QL b0 100000000) (hb1 : QL b1 100000000) (hb2 : QL b2 100000000) : Takes Tryz.prog 141 [(.sl ta 4 (List.map encR [(ofQ a0), (ofQ a1), (ofQ a2)])), (.sl tb 4 (List.map encR [(ofQ b0), (ofQ b1), (ofQ b2)]))] (.tup [(encR (ofQ (dot3 a0 a1 a2 b0 b1 b2))), (.val (.int .i64 (0)))]) := by
  refine fn_intro Tryz.func141 rfl cb141 rfl ?_
  show PWp _ _ _ _ ⟨[(0, (vl ta 4 encR [(ofQ a0), (ofQ a1), (ofQ a2)])), (1, (vl tb 4 encR [(ofQ b0), (ofQ b1), (ofQ b2)]))], []⟩
  refine pwp_seq <| kx [(4, (.ref 0 0))] [(0, some (bx (encR (RRat.mk (RInt.mk false []) (RInt.mk false [])))))] (zN (oAl 0 ze42 zo42) <| zM <| zZ) ?_
  refine pwp_seq <| pwp_seq <| kx [(13, (vb false))] [] (zM <| zE (oLn el52 3) <| zM <| zE (oLn el52 3) <| zE oNe <| zZ) ?_
  refine pwp_cond (b := false) (by kernel_rfl) (fun h => by cases h) (fun _ => ?_)
  refine pwp_skip <| pwp_seq ?_
  have bn1 : QL ((0 : Int) : Rat) 1 := (ql_int (z := 0) (lenZ_one (by decide)) (by decide))
  refine kx [(6, (.ref 1 0))] [(1, some (bx (encR (ofQ ((0 : Int) : Rat)))))] (zE (oCl (f_whole 0 (by decide) (by decide))) <| zN (oAl 1 ze42 zo42) <| zT (oSt sh42) <| zZ) ?_
  refine pwp_seq <| pwp_seq <| kx [(16, (vl ta 4 encR [(ofQ a0), (ofQ a1), (ofQ a2)])), (17, (vin 3)), (18, (vin 0))] [] (zM <| zE (oLn el52 3) <| zM <| zZ) ?_
  refine pwp_block <| pwp_rounds 20 ?_
  refine pwp_round <| pwp_seq <| kx [(19, (vb true))] [] (zE (oBk true oLt) <| zZ) ?_
  refine pwp_seq <| pwp_cond (b := true) (by kernel_rfl) (fun _ => ?_) (fun h => by cases h)
  refine pwp_skip <| pwp_seq <| pwp_block <| pwp_seq <| kx [(7, (vin 0)), (8, (.ref 2 0))] [(2, some (bx (encR (ofQ a0))))] (zM <| zE (oXs el52 0) <| zE (oCa sh42) <| zN (oAl 2 ze42 zo42) <| zM <| zT (oSt sh42) <| zZ) ?_
  have bn2 : QL (((0 : Int) : Rat) + (a0 * b0)) 200000002 := (ql_add (k := 200000002) bn1 (ql_mul (k := 200000000) ha0 hb0 (by decide)) (by decide))
  refine kd [] [(1, some (bx (encR (ofQ (((0 : Int) : Rat) + (a0 * b0))))))] mo (wR (oLa sh42) <| wR (oLa sh42) <| wM <| wM <| wE (oXs el52 0) <| wE (oCa sh42) <| wE (oCl (f_mul (ofQ a0) (ofQ b0) a0 b0 (qok_up (qok_of ha0) (by decide)) (qok_up (qok_of hb0) (by decide)))) <| wE (oCl (f_add (ofQ ((0 : Int) : Rat)) (ofQ (a0 * b0)) ((0 : Int) : Rat) (a0 * b0) (qok_up (qok_of bn1) (by decide)) (qok_up (qok_of (ql_mul (k := 200000000) ha0 hb0 (by decide))) (by decide)))) <| wT (oSt sh42) <| wZ) ?_
  refine kx [(18, (vin 1))] [] (zE (oAd 1 (hr := by decide)) <| zM <| zZ) ?_
  refine pwp_again (SimImp.refl _) ?_
  refine pwp_seq <| kx [(19, (vb true))] [] (zE (oBk true oLt) <| zZ) ?_
  refine pwp_seq <| pwp_cond (b := true) (by kernel_rfl) (fun _ => ?_) (fun h => by cases h)
  refine pwp_skip <| pwp_seq <| pwp_block <| pwp_seq <| kx [(7, (vin 1)), (8, (.ref 3 0))] [(3, some (bx (encR (ofQ a1))))] (zM <| zE (oXs el52 1) <| zE (oCa sh42) <| zN (oAl 3 ze42 zo42) <| zM <| zT (oSt sh42) <| zZ) ?_
  have bn3 : QL ((((0 : Int) : Rat) + (a0 * b0)) + (a1 * b1)) 400000003 := (ql_add (k := 400000003) bn2 (ql_mul (k := 200000000) ha1 hb1 (by decide)) (by decide))
  refine kd [] [(1, some (bx (encR (ofQ ((((0 : Int) : Rat) + (a0 * b0)) + (a1 * b1))))))] mo (wR (oLa sh42) <| wR (oLa sh42) <| wM <| wM <| wE (oXs el52 1) <| wE (oCa sh42) <| wE (oCl (f_mul (ofQ a1) (ofQ b1) a1 b1 (qok_up (qok_of ha1) (by decide)) (qok_up (qok_of hb1) (by decide)))) <| wE (oCl (f_add (ofQ (((0 : Int) : Rat) + (a0 * b0))) (ofQ (a1 * b1)) (((0 : Int) : Rat) + (a0 * b0)) (a1 * b1) (qok_up (qok_of bn2) (by decide)) (qok_up (qok_of (ql_mul (k := 200000000) ha1 hb1 (by decide))) (by decide)))) <| wT (oSt sh42) <| wZ) ?_
  refine kx [(18, (vin 2))] [] (zE (oAd 2 (hr := by decide)) <| zM <| zZ) ?_
  refine pwp_again (SimImp.refl _) ?_
  refine pwp_seq <| kx [(19, (vb true))] [] (zE (oBk true oLt) <| zZ) ?_
  refine pwp_seq <| pwp_cond (b := true) (by kernel_rfl) (fun _ => ?_) (fun h => by cases h)
  refine pwp_skip <| pwp_seq <| pwp_block <| pwp_seq <| kx [(7, (vin 2)), (8, (.ref 4 0))] [(4, some (bx (encR (ofQ a2))))] (zM <| zE (oXs el52 2) <| zE (oCa sh42) <| zN (oAl 4 ze42 zo42) <| zM <| zT (oSt sh42) <| zZ) ?_
  refine pwp_sim (wk (l := [(1, (vl tb 4 encR [(ofQ b0), (ofQ b1), (ofQ b2)])), (4, (.ref 0 0)), (6, (.ref 1 0)), (7, (vin 2)), (8, (.ref 4 0)), (16, (vl ta 4 encR [(ofQ a0), (ofQ a1), (ofQ a2)])), (17, (vin 3)), (18, (vin 2))]) (b := [(0, some (bx (encR (RRat.mk (RInt.mk false []) (RInt.mk false []))))), (1, some (bx (encR (ofQ ((((0 : Int) : Rat) + (a0 * b0)) + (a1 * b1)))))), (4, some (bx (encR (ofQ a2))))])) ?_
  have bn4 : QL (((((0 : Int) : Rat) + (a0 * b0)) + (a1 * b1)) + (a2 * b2)) 600000004 := (ql_add (k := 600000004) bn3 (ql_mul (k := 200000000) ha2 hb2 (by decide)) (by decide))
  refine kd [] [(1, some (bx (encR (ofQ (((((0 : Int) : Rat) + (a0 * b0)) + (a1 * b1)) + (a2 * b2))))))] mo (wR (oLa sh42) <| wR (oLa sh42) <| wM <| wM <| wE (oXs el52 2) <| wE (oCa sh42) <| wE (oCl (f_mul (ofQ a2) (ofQ b2) a2 b2 (qok_up (qok_of ha2) (by decide)) (qok_up (qok_of hb2) (by decide)))) <| wE (oCl (f_add (ofQ ((((0 : Int) : Rat) + (a0 * b0)) + (a1 * b1))) (ofQ (a2 * b2)) ((((0 : Int) : Rat) + (a0 * b0)) + (a1 * b1)) (a2 * b2) (qok_up (qok_of bn3) (by decide)) (qok_up (qok_of (ql_mul (k := 200000000) ha2 hb2 (by decide))) (by decide)))) <| wT (oSt sh42) <| wZ) ?_
  refine kx [(18, (vin 3))] [] (zE (oAd 3 (hr := by decide)) <| zM <| zZ) ?_
  refine pwp_again (SimImp.refl _) ?_
  refine pwp_seq <| kx [(19, (vb false))] [] (zE (oBk false oLt) <| zZ) ?_
  refine pwp_seq <| pwp_cond (b := false) (by kernel_rfl) (fun h => by cases h) (fun _ => ?_)
  refine pwp_exit <| pwp_seq <| kx [(5, (vin 0))] [(0, some (bx (encR (ofQ (((((0 : Int) : Rat) + (a0 * b0)) + (a1 * b1)) + (a2 * b2))))))] (zR (oLa sh42) <| zT (oSt sh42) <| zM <| zZ) ?_
  refine pwp_ret ⟨_, (res_a (cs := (bx (encR (ofQ (((((0 : Int) : Rat) + (a0 * b0)) + (a1 * b1)) + (a2 * b2)))))) (d := (encR (ofQ (((((0 : Int) : Rat) + (a0 * b0)) + (a1 * b1)) + (a2 * b2))))) rfl rfl sh42 rfl rfl (.tmp (d := (.val (.int .i64 (((0 : Nat) : Int))))) rfl .nil)), ?_⟩
  rw [← dot3_eq]; rfl
theorem q_dotL (ta : Nat) (a0 a1 a2 : Rat) (ha0 : QL a0 100000000) (ha1 : QL a1 100000000) (ha2 : QL a2 100000000) (tb : Nat) (b0 b1 b2 : Rat) (hb0 : QL b0 100000000) (hb1 : QL b1 100000000) (hb2 : QL b2 100000000) : Takes Tryz.prog 92 [(.sl ta 4 (List.map encR [(ofQ a0), (ofQ a1), (ofQ a2)])), (.sl tb 4 (List.map encR [(ofQ b0), (ofQ b1), (ofQ b2)]))] (.tup [(encR (ofQ (dot3 a0 a1 a2 b0 b1 b2))), (.val (.int .i64 (0)))]) := by
  refine fn_intro Tryz.func92 rfl cb92 rfl ?_
  show PWp _ _ _ _ ⟨[(0, (vl ta 4 encR [(ofQ a0), (ofQ a1), (ofQ a2)])), (1, (vl tb 4 encR [(ofQ b0), (ofQ b1), (ofQ b2)]))], []⟩
  refine pwp_seq <| kx [(4, (.ref 0 0))] [(0, some (bx (encR (RRat.mk (RInt.mk false []) (RInt.mk false [])))))] (zN (oAl 0 ze42 zo42) <| zM <| zZ) ?_
  refine pwp_seq <| pwp_seq <| kx [(12, (vb false))] [] (zM <| zE (oLn el52 3) <| zM <| zE (oLn el52 3) <| zE oNe <| zZ) ?_
  refine pwp_cond (b := false) (by kernel_rfl) (fun h => by cases h) (fun _ => ?_)
  refine pwp_skip <| pwp_seq ?_
  have bn1 : QL ((0 : Int) : Rat) 1 := (ql_int (z := 0) (lenZ_one (by decide)) (by decide))
  refine kx [(6, (.ref 1 0))] [(1, some (bx (encR (ofQ ((0 : Int) : Rat)))))] (zE (oCl (g_whole 0 (by decide) (by decide))) <| zN (oAl 1 ze42 zo42) <| zT (oSt sh42) <| zZ) ?_
  refine pwp_seq <| pwp_seq <| kx [(7, (vin 0))] [] (zM <| zZ) ?_
  refine pwp_block <| pwp_rounds 20 ?_
  refine pwp_round <| pwp_seq <| pwp_seq <| kx [(18, (vb true))] [] (zM <| zM <| zE (oLn el52 3) <| zE (oBk true oLt) <| zZ) ?_
  refine pwp_cond (b := true) (by kernel_rfl) (fun _ => ?_) (fun h => by cases h)
  refine pwp_skip <| pwp_seq <| pwp_block ?_
  have bn2 : QL (((0 : Int) : Rat) + (a0 * b0)) 200000002 := (ql_add (k := 200000002) bn1 (ql_mul (k := 200000000) ha0 hb0 (by decide)) (by decide))
  refine kd [] [(1, some (bx (encR (ofQ (((0 : Int) : Rat) + (a0 * b0))))))] mo (wR (oLa sh42) <| wM <| wM <| wE (oXs el52 0) <| wE (oCa sh42) <| wM <| wM <| wE (oXs el52 0) <| wE (oCa sh42) <| wE (oCl (g_mul (ofQ a0) (ofQ b0) a0 b0 (qok_up (qok_of ha0) (by decide)) (qok_up (qok_of hb0) (by decide)))) <| wE (oCl (g_add (ofQ ((0 : Int) : Rat)) (ofQ (a0 * b0)) ((0 : Int) : Rat) (a0 * b0) (qok_up (qok_of bn1) (by decide)) (qok_up (qok_of (ql_mul (k := 200000000) ha0 hb0 (by decide))) (by decide)))) <| wT (oSt sh42) <| wZ) ?_
  refine kx [(7, (vin 1))] [] (zM <| zE (oAd 1 (hr := by decide)) <| zM <| zZ) ?_
  refine pwp_again (SimImp.refl _) ?_
  refine pwp_seq <| pwp_seq <| kx [(18, (vb true))] [] (zM <| zM <| zE (oLn el52 3) <| zE (oBk true oLt) <| zZ) ?_
  refine pwp_cond (b := true) (by kernel_rfl) (fun _ => ?_) (fun h => by cases h)
  refine pwp_skip <| pwp_seq <| pwp_block ?_
  have bn3 : QL ((((0 : Int) : Rat) + (a0 * b0)) + (a1 * b1)) 400000003 := (ql_add (k := 400000003) bn2 (ql_mul (k := 200000000) ha1 hb1 (by decide)) (by decide))
  refine kd [] [(1, some (bx (encR (ofQ ((((0 : Int) : Rat) + (a0 * b0)) + (a1 * b1))))))] mo (wR (oLa sh42) <| wM <| wM <| wE (oXs el52 1) <| wE (oCa sh42) <| wM <| wM <| wE (oXs el52 1) <| wE (oCa sh42) <| wE (oCl (g_mul (ofQ a1) (ofQ b1) a1 b1 (qok_up (qok_of ha1) (by decide)) (qok_up (qok_of hb1) (by decide)))) <| wE (oCl (g_add (ofQ (((0 : Int) : Rat) + (a0 * b0))) (ofQ (a1 * b1)) (((0 : Int) : Rat) + (a0 * b0)) (a1 * b1) (qok_up (qok_of bn2) (by decide)) (qok_up (qok_of (ql_mul (k := 200000000) ha1 hb1 (by decide))) (by decide)))) <| wT (oSt sh42) <| wZ) ?_
  refine kx [(7, (vin 2))] [] (zM <| zE (oAd 2 (hr := by decide)) <| zM <| zZ) ?_
  refine pwp_again (SimImp.refl _) ?_
  refine pwp_seq <| pwp_seq <| kx [(18, (vb true))] [] (zM <| zM <| zE (oLn el52 3) <| zE (oBk true oLt) <| zZ) ?_
  refine pwp_cond (b := true) (by kernel_rfl) (fun _ => ?_) (fun h => by cases h)
  refine pwp_skip <| pwp_seq <| pwp_block ?_
  have bn4 : QL (((((0 : Int) : Rat) + (a0 * b0)) + (a1 * b1)) + (a2 * b2)) 600000004 := (ql_add (k := 600000004) bn3 (ql_mul (k := 200000000) ha2 hb2 (by decide)) (by decide))
  refine kd [] [(1, some (bx (encR (ofQ (((((0 : Int) : Rat) + (a0 * b0)) + (a1 * b1)) + (a2 * b2))))))] mo (wR (oLa sh42) <| wM <| wM <| wE (oXs el52 2) <| wE (oCa sh42) <| wM <| wM <| wE (oXs el52 2) <| wE (oCa sh42) <| wE (oCl (g_mul (ofQ a2) (ofQ b2) a2 b2 (qok_up (qok_of ha2) (by decide)) (qok_up (qok_of hb2) (by decide)))) <| wE (oCl (g_add (ofQ ((((0 : Int) : Rat) + (a0 * b0)) + (a1 * b1))) (ofQ (a2 * b2)) ((((0 : Int) : Rat) + (a0 * b0)) + (a1 * b1)) (a2 * b2) (qok_up (qok_of bn3) (by decide)) (qok_up (qok_of (ql_mul (k := 200000000) ha2 hb2 (by decide))) (by decide)))) <| wT (oSt sh42) <| wZ) ?_
  refine kx [(7, (vin 3))] [] (zM <| zE (oAd 3 (hr := by decide)) <| zM <| zZ) ?_
  refine pwp_again (SimImp.refl _) ?_
  refine pwp_seq <| pwp_seq <| kx [(18, (vb false))] [] (zM <| zM <| zE (oLn el52 3) <| zE (oBk false oLt) <| zZ) ?_
  refine pwp_cond (b := false) (by kernel_rfl) (fun h => by cases h) (fun _ => ?_)
  refine pwp_exit <| pwp_seq <| pwp_sim (wk (l := [(0, (vl ta 4 encR [(ofQ a0), (ofQ a1), (ofQ a2)])), (1, (vl tb 4 encR [(ofQ b0), (ofQ b1), (ofQ b2)])), (4, (.ref 0 0)), (6, (.ref 1 0)), (7, (vin 3)), (18, (vb false))]) (b := [(0, some (bx (encR (RRat.mk (RInt.mk false []) (RInt.mk false []))))), (1, some (bx (encR (ofQ (((((0 : Int) : Rat) + (a0 * b0)) + (a1 * b1)) + (a2 * b2))))))])) ?_
  refine kx [(5, (vin 0))] [(0, some (bx (encR (ofQ (((((0 : Int) : Rat) + (a0 * b0)) + (a1 * b1)) + (a2 * b2))))))] (zR (oLa sh42) <| zT (oSt sh42) <| zM <| zZ) ?_
  refine pwp_ret ⟨_, (res_a (cs := (bx (encR (ofQ (((((0 : Int) : Rat) + (a0 * b0)) + (a1 * b1)) + (a2 * b2)))))) (d := (encR (ofQ (((((0 : Int) : Rat) + (a0 * b0)) + (a1 * b1)) + (a2 * b2))))) rfl rfl sh42 rfl rfl (.tmp (d := (.val (.int .i64 (((0 : Nat) : Int))))) rfl .nil)), ?_⟩
  rw [← dot3_eq]; rfl
theorem q_whole (x : Int) (hxl : -9223372036854775808 ≤ x) (hxh : x ≤ 9223372036854775807) (y : Int) (hyl : -9223372036854775808 ≤ y) (hyh : y ≤ 9223372036854775807) (z : Int) (hzl : -9223372036854775808 ≤ z) (hzh : z ≤ 9223372036854775807) : Takes Tryz.prog 96 [(.val (.int .i64 (x))), (.val (.int .i64 (y))), (.val (.int .i64 (z)))] (encA43 (A3.mk (ofQ ((x : Int) : Rat)) (ofQ ((y : Int) : Rat)) (ofQ ((z : Int) : Rat)))) := by
  refine fn_intro Tryz.func96 rfl cb96 rfl ?_
  show PWp _ _ _ _ ⟨[(0, (vi x)), (1, (vi y)), (2, (vi z))], []⟩
  refine pwp_seq <| kx [(6, (.ref 0 0))] [(0, some (bx (encA43 (A3.mk (RRat.mk (RInt.mk false []) (RInt.mk false [])) (RRat.mk (RInt.mk false []) (RInt.mk false [])) (RRat.mk (RInt.mk false []) (RInt.mk false []))))))] (zN (oAl 0 ze129 zo129) <| zZ) ?_
  refine pwp_seq ?_
  have bn1 : QL ((x : Int) : Rat) 3 := (ql_int (z := x) (lenZ_int (by omega) (by omega)) (by decide))
  have bn2 : QL ((y : Int) : Rat) 3 := (ql_int (z := y) (lenZ_int (by omega) (by omega)) (by decide))
  have bn3 : QL ((z : Int) : Rat) 3 := (ql_int (z := z) (lenZ_int (by omega) (by omega)) (by decide))
  refine kx [] [(0, some (bx (encA43 (A3.mk (ofQ ((x : Int) : Rat)) (ofQ ((y : Int) : Rat)) (ofQ ((z : Int) : Rat))))))] (zM <| zE (oCl (f_whole x (by omega) (by omega))) <| zM <| zE (oCl (f_whole y (by omega) (by omega))) <| zM <| zE (oCl (f_whole z (by omega) (by omega))) <| zE (oBf ar129 ze129 zo129) <| zT (oSt sh129) <| zZ) ?_
  refine pwp_ret ⟨_, (res_a (cs := (bx (encA43 (A3.mk (ofQ ((x : Int) : Rat)) (ofQ ((y : Int) : Rat)) (ofQ ((z : Int) : Rat)))))) (d := (encA43 (A3.mk (ofQ ((x : Int) : Rat)) (ofQ ((y : Int) : Rat)) (ofQ ((z : Int) : Rat))))) rfl rfl sh129 rfl rfl .nil), ?_⟩
  rfl
theorem q_dot (a0 a1 a2 : Rat) (ha0 : QL a0 100000000) (ha1 : QL a1 100000000) (ha2 : QL a2 100000000) (b0 b1 b2 : Rat) (hb0 : QL b0 100000000) (hb1 : QL b1 100000000) (hb2 : QL b2 100000000) : Takes Tryz.prog 98 [(encA43 (A3.mk (ofQ a0) (ofQ a1) (ofQ a2))), (encA43 (A3.mk (ofQ b0) (ofQ b1) (ofQ b2)))] (encR (ofQ (dot3 a0 a1 a2 b0 b1 b2))) := by
  refine fn_intro Tryz.func98 rfl cb98 rfl ?_
  show PWp _ _ _ _ ⟨[(0, (.d (encA43 (A3.mk (ofQ a0) (ofQ a1) (ofQ a2))))), (1, (.d (encA43 (A3.mk (ofQ b0) (ofQ b1) (ofQ b2)))))], []⟩
  refine pwp_seq <| kx [(2, (.ref 0 0)), (3, (.ref 1 0)), (4, (.ref 2 0))] [(0, some (bx (encA43 (A3.mk (ofQ a0) (ofQ a1) (ofQ a2))))), (1, some (bx (encA43 (A3.mk (ofQ b0) (ofQ b1) (ofQ b2))))), (2, some (bx (encR (RRat.mk (RInt.mk false []) (RInt.mk false [])))))] (zN (oBx 0) <| zN (oBx 1) <| zN (oAl 2 ze42 zo42) <| zZ) ?_
  refine pwp_seq ?_
  have bn1 : QL (dot3 a0 a1 a2 b0 b1 b2) 600000002 := (ql_dot3 (n := 100000000) (k := 600000002) ha0 ha1 ha2 hb0 hb1 hb2 (by decide))
  refine kd [(5, (.ref 3 0))] [(3, some (bx (encR (ofQ (dot3 a0 a1 a2 b0 b1 b2)))))] mo (wE (e_slv (by exact rfl) ar129 (by exact rfl) (by kernel_rfl) (by kernel_rfl)) <| wE (e_slv (by exact rfl) ar129 (by exact rfl) (by kernel_rfl) (by kernel_rfl)) <| wC (oCg [(0, (Dat.cells (encA43 (A3.mk (ofQ a0) (ofQ a1) (ofQ a2))))), (1, (Dat.cells (encA43 (A3.mk (ofQ b0) (ofQ b1) (ofQ b2)))))] [(.view 0 0 3), (.view 1 0 3)] (q_dotF 1000000 a0 a1 a2 ha0 ha1 ha2 1000000 b0 b1 b2 hb0 hb1 hb2) (.v (es := List.map encR [(ofQ a0), (ofQ a1), (ofQ a2)]) (.head _) (pubs_cells _ _ (fun _ => rfl)) (by kernel_rfl) (by kernel_rfl) (.v (es := List.map encR [(ofQ b0), (ofQ b1), (ofQ b2)]) (.tail _ (.head _)) (pubs_cells _ _ (fun _ => rfl)) (by kernel_rfl) (by kernel_rfl) .nil)) (.tup (avo_cons (avo_encR (by decide) _) (avo_cons (.val _) avo_nil)))) <| wM <| wE oEx <| wE oEx <| wN (oAl 3 ze42 zo42) <| wT (oSt sh42) <| wM <| wZ) ?_
  refine pwp_seq <| kx [] [(2, some (bx (encR (ofQ (dot3 a0 a1 a2 b0 b1 b2)))))] (zR (oLa sh42) <| zT (oSt sh42) <| zZ) ?_
  refine pwp_ret ⟨_, (res_a (cs := (bx (encR (ofQ (dot3 a0 a1 a2 b0 b1 b2))))) (d := (encR (ofQ (dot3 a0 a1 a2 b0 b1 b2)))) rfl rfl sh42 rfl rfl .nil), ?_⟩
  rfl
theorem q_cross (a0 a1 a2 : Rat) (ha0 : QL a0 100000000) (ha1 : QL a1 100000000) (ha2 : QL a2 100000000) (b0 b1 b2 : Rat) (hb0 : QL b0 100000000) (hb1 : QL b1 100000000) (hb2 : QL b2 100000000) : Takes Tryz.prog 73 [(encA43 (A3.mk (ofQ a0) (ofQ a1) (ofQ a2))), (encA43 (A3.mk (ofQ b0) (ofQ b1) (ofQ b2)))] (encA43 (A3.mk (ofQ ((a1 * b2) - (a2 * b1))) (ofQ ((a2 * b0) - (a0 * b2))) (ofQ ((a0 * b1) - (a1 * b0))))) := by
  let y2 := (RRat.mk (RInt.mk false []) (RInt.mk false []))
  let y1 := (bx (encA43 (A3.mk y2 y2 y2)))
  refine fn_intro Tryz.func73 rfl cb73 rfl ?_
  show PWp _ _ _ _ ⟨[(0, (.d (encA43 (A3.mk (ofQ a0) (ofQ a1) (ofQ a2))))), (1, (.d (encA43 (A3.mk (ofQ b0) (ofQ b1) (ofQ b2)))))], []⟩
  refine pwp_seq <| kx [(2, (.ref 0 0)), (3, (.ref 1 0)), (4, (.ref 2 0))] [(0, some (bx (encA43 (A3.mk (ofQ a0) (ofQ a1) (ofQ a2))))), (1, some (bx (encA43 (A3.mk (ofQ b0) (ofQ b1) (ofQ b2))))), (2, some y1)] (zN (oBx 0) <| zN (oBx 1) <| zN (oAl 2 ze129 zo129) <| zZ) ?_
  refine pwp_seq <| kx [(5, (.ref 3 0))] [(3, some y1)] (zN (oAl 3 ze129 zo129) <| zZ) ?_
  refine pwp_seq <| pwp_seq <| kx [(9, (vin 0))] [] (zM <| zZ) ?_
  refine pwp_block <| pwp_rounds 20 ?_
  refine pwp_round <| pwp_seq <| kx [(10, (vb true))] [] (zE (oBk true oLt) <| zZ) ?_
  refine pwp_seq <| pwp_cond (b := true) (by kernel_rfl) (fun _ => ?_) (fun h => by cases h)
  refine pwp_skip <| pwp_seq <| pwp_block <| pwp_seq <| kx [(6, (vin 0))] [] (zM <| zM <| zZ) ?_
  refine pwp_seq <| kx [(7, (vin 1)), (8, (vin 2))] [] (zM <| zE (oAd 1 (hr := by decide)) <| zE (oRe 1 (hr := by decide)) <| zM <| zE (oAd 2 (hr := by decide)) <| zE (oRe 2 (hr := by decide)) <| zM <| zM <| zZ) ?_
  have bn1 : QL ((a1 * b2) - (a2 * b1)) 400000001 := (ql_sub (k := 400000001) (ql_mul (k := 200000000) ha1 hb2 (by decide)) (ql_mul (k := 200000000) ha2 hb1 (by decide)) (by decide))
  refine kd [] [(3, some (bx (encA43 (A3.mk (ofQ ((a1 * b2) - (a2 * b1))) y2 y2))))] mo (wM <| wM <| wE (oXr ar129 1) <| wR (oLa sh42) <| wM <| wE (oXr ar129 2) <| wR (oLa sh42) <| wE (oCl (f_mul (ofQ a1) (ofQ b2) a1 b2 (qok_up (qok_of ha1) (by decide)) (qok_up (qok_of hb2) (by decide)))) <| wM <| wE (oXr ar129 2) <| wR (oLa sh42) <| wM <| wE (oXr ar129 1) <| wR (oLa sh42) <| wE (oCl (f_mul (ofQ a2) (ofQ b1) a2 b1 (qok_up (qok_of ha2) (by decide)) (qok_up (qok_of hb1) (by decide)))) <| wE (oCl (f_sub (ofQ (a1 * b2)) (ofQ (a2 * b1)) (a1 * b2) (a2 * b1) (qok_up (qok_of (ql_mul (k := 200000000) ha1 hb2 (by decide))) (by decide)) (qok_up (qok_of (ql_mul (k := 200000000) ha2 hb1 (by decide))) (by decide)))) <| wE (oXr ar129 0) <| wT (oSt sh42) <| wZ) ?_
  refine kx [(9, (vin 1))] [] (zE (oAd 1 (hr := by decide)) <| zM <| zZ) ?_
  refine pwp_again (SimImp.refl _) ?_
  refine pwp_seq <| kx [(10, (vb true))] [] (zE (oBk true oLt) <| zZ) ?_
  refine pwp_seq <| pwp_cond (b := true) (by kernel_rfl) (fun _ => ?_) (fun h => by cases h)
  refine pwp_skip <| pwp_seq <| pwp_block <| pwp_seq <| kx [(6, (vin 1))] [] (zM <| zM <| zZ) ?_
  refine pwp_seq <| kx [(7, (vin 2)), (8, (vin 0))] [] (zM <| zE (oAd 2 (hr := by decide)) <| zE (oRe 2 (hr := by decide)) <| zM <| zE (oAd 3 (hr := by decide)) <| zE (oRe 0 (hr := by decide)) <| zM <| zM <| zZ) ?_
  have bn2 : QL ((a2 * b0) - (a0 * b2)) 400000001 := (ql_sub (k := 400000001) (ql_mul (k := 200000000) ha2 hb0 (by decide)) (ql_mul (k := 200000000) ha0 hb2 (by decide)) (by decide))
  refine kd [] [(3, some (bx (encA43 (A3.mk (ofQ ((a1 * b2) - (a2 * b1))) (ofQ ((a2 * b0) - (a0 * b2))) y2))))] mo (wM <| wM <| wE (oXr ar129 2) <| wR (oLa sh42) <| wM <| wE (oXr ar129 0) <| wR (oLa sh42) <| wE (oCl (f_mul (ofQ a2) (ofQ b0) a2 b0 (qok_up (qok_of ha2) (by decide)) (qok_up (qok_of hb0) (by decide)))) <| wM <| wE (oXr ar129 0) <| wR (oLa sh42) <| wM <| wE (oXr ar129 2) <| wR (oLa sh42) <| wE (oCl (f_mul (ofQ a0) (ofQ b2) a0 b2 (qok_up (qok_of ha0) (by decide)) (qok_up (qok_of hb2) (by decide)))) <| wE (oCl (f_sub (ofQ (a2 * b0)) (ofQ (a0 * b2)) (a2 * b0) (a0 * b2) (qok_up (qok_of (ql_mul (k := 200000000) ha2 hb0 (by decide))) (by decide)) (qok_up (qok_of (ql_mul (k := 200000000) ha0 hb2 (by decide))) (by decide)))) <| wE (oXr ar129 1) <| wT (oSt sh42) <| wZ) ?_
  refine kx [(9, (vin 2))] [] (zE (oAd 2 (hr := by decide)) <| zM <| zZ) ?_
  refine pwp_again (SimImp.refl _) ?_
  refine pwp_seq <| kx [(10, (vb true))] [] (zE (oBk true oLt) <| zZ) ?_
  refine pwp_seq <| pwp_cond (b := true) (by kernel_rfl) (fun _ => ?_) (fun h => by cases h)
  refine pwp_skip <| pwp_seq <| pwp_block <| pwp_seq <| pwp_sim (wk (l := [(2, (.ref 0 0)), (3, (.ref 1 0)), (4, (.ref 2 0)), (5, (.ref 3 0)), (9, (vin 2)), (10, (vb true))]) (b := [(0, some (bx (encA43 (A3.mk (ofQ a0) (ofQ a1) (ofQ a2))))), (1, some (bx (encA43 (A3.mk (ofQ b0) (ofQ b1) (ofQ b2))))), (2, some y1), (3, some (bx (encA43 (A3.mk (ofQ ((a1 * b2) - (a2 * b1))) (ofQ ((a2 * b0) - (a0 * b2))) y2))))])) ?_
  refine kx [(6, (vin 2))] [] (zM <| zM <| zZ) ?_
  refine pwp_seq <| kx [(7, (vin 0)), (8, (vin 1))] [] (zM <| zE (oAd 3 (hr := by decide)) <| zE (oRe 0 (hr := by decide)) <| zM <| zE (oAd 4 (hr := by decide)) <| zE (oRe 1 (hr := by decide)) <| zM <| zM <| zZ) ?_
  have bn3 : QL ((a0 * b1) - (a1 * b0)) 400000001 := (ql_sub (k := 400000001) (ql_mul (k := 200000000) ha0 hb1 (by decide)) (ql_mul (k := 200000000) ha1 hb0 (by decide)) (by decide))
  refine kd [] [(3, some (bx (encA43 (A3.mk (ofQ ((a1 * b2) - (a2 * b1))) (ofQ ((a2 * b0) - (a0 * b2))) (ofQ ((a0 * b1) - (a1 * b0)))))))] mo (wM <| wM <| wE (oXr ar129 0) <| wR (oLa sh42) <| wM <| wE (oXr ar129 1) <| wR (oLa sh42) <| wE (oCl (f_mul (ofQ a0) (ofQ b1) a0 b1 (qok_up (qok_of ha0) (by decide)) (qok_up (qok_of hb1) (by decide)))) <| wM <| wE (oXr ar129 1) <| wR (oLa sh42) <| wM <| wE (oXr ar129 0) <| wR (oLa sh42) <| wE (oCl (f_mul (ofQ a1) (ofQ b0) a1 b0 (qok_up (qok_of ha1) (by decide)) (qok_up (qok_of hb0) (by decide)))) <| wE (oCl (f_sub (ofQ (a0 * b1)) (ofQ (a1 * b0)) (a0 * b1) (a1 * b0) (qok_up (qok_of (ql_mul (k := 200000000) ha0 hb1 (by decide))) (by decide)) (qok_up (qok_of (ql_mul (k := 200000000) ha1 hb0 (by decide))) (by decide)))) <| wE (oXr ar129 2) <| wT (oSt sh42) <| wZ) ?_
  refine kx [(9, (vin 3))] [] (zE (oAd 3 (hr := by decide)) <| zM <| zZ) ?_
  refine pwp_again (SimImp.refl _) ?_
  refine pwp_seq <| kx [(10, (vb false))] [] (zE (oBk false oLt) <| zZ) ?_
  refine pwp_seq <| pwp_cond (b := false) (by kernel_rfl) (fun h => by cases h) (fun _ => ?_)
  refine pwp_exit <| pwp_seq <| kx [] [(2, some (bx (encA43 (A3.mk (ofQ ((a1 * b2) - (a2 * b1))) (ofQ ((a2 * b0) - (a0 * b2))) (ofQ ((a0 * b1) - (a1 * b0)))))))] (zR (oLa sh129) <| zT (oSt sh129) <| zZ) ?_
  refine pwp_ret ⟨_, (res_a (cs := (bx (encA43 (A3.mk (ofQ ((a1 * b2) - (a2 * b1))) (ofQ ((a2 * b0) - (a0 * b2))) (ofQ ((a0 * b1) - (a1 * b0))))))) (d := (encA43 (A3.mk (ofQ ((a1 * b2) - (a2 * b1))) (ofQ ((a2 * b0) - (a0 * b2))) (ofQ ((a0 * b1) - (a1 * b0)))))) rfl rfl sh129 rfl rfl .nil), ?_⟩
  rfl
theorem q_scaled (a0 a1 a2 : Rat) (ha0 : QL a0 100000000) (ha1 : QL a1 100000000) (ha2 : QL a2 100000000) (k : Rat) (hk : QL k 100000000) : Takes Tryz.prog 107 [(encA43 (A3.mk (ofQ a0) (ofQ a1) (ofQ a2))), (encR (ofQ k))] (encA43 (A3.mk (ofQ (a0 * k)) (ofQ (a1 * k)) (ofQ (a2 * k)))) := by
  let y1 := (RRat.mk (RInt.mk false []) (RInt.mk false []))
  refine fn_intro Tryz.func107 rfl cb107 rfl ?_
  show PWp _ _ _ _ ⟨[(0, (.d (encA43 (A3.mk (ofQ a0) (ofQ a1) (ofQ a2))))), (1, (.d (encR (ofQ k))))], []⟩
  refine pwp_seq <| kx [(2, (.ref 0 0)), (3, (.ref 1 0)), (4, (.ref 2 0))] [(0, some (bx (encA43 (A3.mk (ofQ a0) (ofQ a1) (ofQ a2))))), (1, some (bx (encR (ofQ k)))), (2, some (bx (encA43 (A3.mk y1 y1 y1))))] (zN (oBx 0) <| zN (oBx 1) <| zN (oAl 2 ze129 zo129) <| zZ) ?_
  refine pwp_seq <| pwp_seq <| kx [(6, (vin 0))] [] (zM <| zZ) ?_
  refine pwp_block <| pwp_rounds 20 ?_
  refine pwp_round <| pwp_seq <| kx [(7, (vb true))] [] (zE (oBk true oLt) <| zZ) ?_
  refine pwp_seq <| pwp_cond (b := true) (by kernel_rfl) (fun _ => ?_) (fun h => by cases h)
  refine pwp_skip <| pwp_seq <| pwp_block <| pwp_seq <| kx [(5, (vin 0))] [] (zM <| zM <| zZ) ?_
  refine kd [] [(0, some (bx (encA43 (A3.mk (ofQ (a0 * k)) (ofQ a1) (ofQ a2)))))] mo (wM <| wM <| wE (oXr ar129 0) <| wR (oLa sh42) <| wR (oLa sh42) <| wE (oCl (f_mul (ofQ a0) (ofQ k) a0 k (qok_up (qok_of ha0) (by decide)) (qok_up (qok_of hk) (by decide)))) <| wE (oXr ar129 0) <| wT (oSt sh42) <| wZ) ?_
  refine kx [(6, (vin 1))] [] (zE (oAd 1 (hr := by decide)) <| zM <| zZ) ?_
  refine pwp_again (SimImp.refl _) ?_
  refine pwp_seq <| kx [(7, (vb true))] [] (zE (oBk true oLt) <| zZ) ?_
  refine pwp_seq <| pwp_cond (b := true) (by kernel_rfl) (fun _ => ?_) (fun h => by cases h)
  refine pwp_skip <| pwp_seq <| pwp_block <| pwp_seq <| kx [(5, (vin 1))] [] (zM <| zM <| zZ) ?_
  refine kd [] [(0, some (bx (encA43 (A3.mk (ofQ (a0 * k)) (ofQ (a1 * k)) (ofQ a2)))))] mo (wM <| wM <| wE (oXr ar129 1) <| wR (oLa sh42) <| wR (oLa sh42) <| wE (oCl (f_mul (ofQ a1) (ofQ k) a1 k (qok_up (qok_of ha1) (by decide)) (qok_up (qok_of hk) (by decide)))) <| wE (oXr ar129 1) <| wT (oSt sh42) <| wZ) ?_
  refine kx [(6, (vin 2))] [] (zE (oAd 2 (hr := by decide)) <| zM <| zZ) ?_
  refine pwp_again (SimImp.refl _) ?_
  refine pwp_seq <| kx [(7, (vb true))] [] (zE (oBk true oLt) <| zZ) ?_
  refine pwp_seq <| pwp_cond (b := true) (by kernel_rfl) (fun _ => ?_) (fun h => by cases h)
  refine pwp_skip <| pwp_seq <| pwp_block <| pwp_seq <| kx [(5, (vin 2))] [] (zM <| zM <| zZ) ?_
  refine kd [] [(0, some (bx (encA43 (A3.mk (ofQ (a0 * k)) (ofQ (a1 * k)) (ofQ (a2 * k))))))] mo (wM <| wM <| wE (oXr ar129 2) <| wR (oLa sh42) <| wR (oLa sh42) <| wE (oCl (f_mul (ofQ a2) (ofQ k) a2 k (qok_up (qok_of ha2) (by decide)) (qok_up (qok_of hk) (by decide)))) <| wE (oXr ar129 2) <| wT (oSt sh42) <| wZ) ?_
  refine kx [(6, (vin 3))] [] (zE (oAd 3 (hr := by decide)) <| zM <| zZ) ?_
  refine pwp_again (SimImp.refl _) ?_
  refine pwp_seq <| pwp_sim (wk (l := [(2, (.ref 0 0)), (3, (.ref 1 0)), (4, (.ref 2 0)), (6, (vin 3))]) (b := [(0, some (bx (encA43 (A3.mk (ofQ (a0 * k)) (ofQ (a1 * k)) (ofQ (a2 * k)))))), (1, some (bx (encR (ofQ k)))), (2, some (bx (encA43 (A3.mk y1 y1 y1))))])) ?_
  refine kx [(7, (vb false))] [] (zE (oBk false oLt) <| zZ) ?_
  refine pwp_seq <| pwp_cond (b := false) (by kernel_rfl) (fun h => by cases h) (fun _ => ?_)
  refine pwp_exit <| pwp_seq <| kx [] [(2, some (bx (encA43 (A3.mk (ofQ (a0 * k)) (ofQ (a1 * k)) (ofQ (a2 * k))))))] (zR (oLa sh129) <| zT (oSt sh129) <| zZ) ?_
  refine pwp_ret ⟨_, (res_a (cs := (bx (encA43 (A3.mk (ofQ (a0 * k)) (ofQ (a1 * k)) (ofQ (a2 * k)))))) (d := (encA43 (A3.mk (ofQ (a0 * k)) (ofQ (a1 * k)) (ofQ (a2 * k))))) rfl rfl sh129 rfl rfl .nil), ?_⟩
  rfl
theorem q_sum (a0 a1 a2 : Rat) (ha0 : QL a0 1000000000) (ha1 : QL a1 1000000000) (ha2 : QL a2 1000000000) (b0 b1 b2 : Rat) (hb0 : QL b0 1000000000) (hb1 : QL b1 1000000000) (hb2 : QL b2 1000000000) : Takes Tryz.prog 106 [(encA43 (A3.mk (ofQ a0) (ofQ a1) (ofQ a2))), (encA43 (A3.mk (ofQ b0) (ofQ b1) (ofQ b2)))] (encA43 (A3.mk (ofQ (a0 + b0)) (ofQ (a1 + b1)) (ofQ (a2 + b2)))) := by
  let y1 := (RRat.mk (RInt.mk false []) (RInt.mk false []))
  refine fn_intro Tryz.func106 rfl cb106 rfl ?_
  show PWp _ _ _ _ ⟨[(0, (.d (encA43 (A3.mk (ofQ a0) (ofQ a1) (ofQ a2))))), (1, (.d (encA43 (A3.mk (ofQ b0) (ofQ b1) (ofQ b2)))))], []⟩
  refine pwp_seq <| kx [(2, (.ref 0 0)), (3, (.ref 1 0)), (4, (.ref 2 0))] [(0, some (bx (encA43 (A3.mk (ofQ a0) (ofQ a1) (ofQ a2))))), (1, some (bx (encA43 (A3.mk (ofQ b0) (ofQ b1) (ofQ b2))))), (2, some (bx (encA43 (A3.mk y1 y1 y1))))] (zN (oBx 0) <| zN (oBx 1) <| zN (oAl 2 ze129 zo129) <| zZ) ?_
  refine pwp_seq <| pwp_seq <| kx [(6, (vin 0))] [] (zM <| zZ) ?_
  refine pwp_block <| pwp_rounds 20 ?_
  refine pwp_round <| pwp_seq <| kx [(7, (vb true))] [] (zE (oBk true oLt) <| zZ) ?_
  refine pwp_seq <| pwp_cond (b := true) (by kernel_rfl) (fun _ => ?_) (fun h => by cases h)
  refine pwp_skip <| pwp_seq <| pwp_block <| pwp_seq <| kx [(5, (vin 0))] [] (zM <| zM <| zZ) ?_
  refine kd [] [(0, some (bx (encA43 (A3.mk (ofQ (a0 + b0)) (ofQ a1) (ofQ a2)))))] mo (wM <| wM <| wE (oXr ar129 0) <| wR (oLa sh42) <| wM <| wE (oXr ar129 0) <| wR (oLa sh42) <| wE (oCl (f_add (ofQ a0) (ofQ b0) a0 b0 (qok_up (qok_of ha0) (by decide)) (qok_up (qok_of hb0) (by decide)))) <| wE (oXr ar129 0) <| wT (oSt sh42) <| wZ) ?_
  refine kx [(6, (vin 1))] [] (zE (oAd 1 (hr := by decide)) <| zM <| zZ) ?_
  refine pwp_again (SimImp.refl _) ?_
  refine pwp_seq <| kx [(7, (vb true))] [] (zE (oBk true oLt) <| zZ) ?_
  refine pwp_seq <| pwp_cond (b := true) (by kernel_rfl) (fun _ => ?_) (fun h => by cases h)
  refine pwp_skip <| pwp_seq <| pwp_block <| pwp_seq <| kx [(5, (vin 1))] [] (zM <| zM <| zZ) ?_
  refine kd [] [(0, some (bx (encA43 (A3.mk (ofQ (a0 + b0)) (ofQ (a1 + b1)) (ofQ a2)))))] mo (wM <| wM <| wE (oXr ar129 1) <| wR (oLa sh42) <| wM <| wE (oXr ar129 1) <| wR (oLa sh42) <| wE (oCl (f_add (ofQ a1) (ofQ b1) a1 b1 (qok_up (qok_of ha1) (by decide)) (qok_up (qok_of hb1) (by decide)))) <| wE (oXr ar129 1) <| wT (oSt sh42) <| wZ) ?_
  refine kx [(6, (vin 2))] [] (zE (oAd 2 (hr := by decide)) <| zM <| zZ) ?_
  refine pwp_again (SimImp.refl _) ?_
  refine pwp_seq <| kx [(7, (vb true))] [] (zE (oBk true oLt) <| zZ) ?_
  refine pwp_seq <| pwp_cond (b := true) (by kernel_rfl) (fun _ => ?_) (fun h => by cases h)
  refine pwp_skip <| pwp_seq <| pwp_block <| pwp_seq <| kx [(5, (vin 2))] [] (zM <| zM <| zZ) ?_
  refine kd [] [(0, some (bx (encA43 (A3.mk (ofQ (a0 + b0)) (ofQ (a1 + b1)) (ofQ (a2 + b2))))))] mo (wM <| wM <| wE (oXr ar129 2) <| wR (oLa sh42) <| wM <| wE (oXr ar129 2) <| wR (oLa sh42) <| wE (oCl (f_add (ofQ a2) (ofQ b2) a2 b2 (qok_up (qok_of ha2) (by decide)) (qok_up (qok_of hb2) (by decide)))) <| wE (oXr ar129 2) <| wT (oSt sh42) <| wZ) ?_
  refine kx [(6, (vin 3))] [] (zE (oAd 3 (hr := by decide)) <| zM <| zZ) ?_
  refine pwp_again (SimImp.refl _) ?_
  refine pwp_seq <| pwp_sim (wk (l := [(2, (.ref 0 0)), (3, (.ref 1 0)), (4, (.ref 2 0)), (6, (vin 3))]) (b := [(0, some (bx (encA43 (A3.mk (ofQ (a0 + b0)) (ofQ (a1 + b1)) (ofQ (a2 + b2)))))), (1, some (bx (encA43 (A3.mk (ofQ b0) (ofQ b1) (ofQ b2))))), (2, some (bx (encA43 (A3.mk y1 y1 y1))))])) ?_
  refine kx [(7, (vb false))] [] (zE (oBk false oLt) <| zZ) ?_
  refine pwp_seq <| pwp_cond (b := false) (by kernel_rfl) (fun h => by cases h) (fun _ => ?_)
  refine pwp_exit <| pwp_seq <| kx [] [(2, some (bx (encA43 (A3.mk (ofQ (a0 + b0)) (ofQ (a1 + b1)) (ofQ (a2 + b2))))))] (zR (oLa sh129) <| zT (oSt sh129) <| zZ) ?_
  refine pwp_ret ⟨_, (res_a (cs := (bx (encA43 (A3.mk (ofQ (a0 + b0)) (ofQ (a1 + b1)) (ofQ (a2 + b2)))))) (d := (encA43 (A3.mk (ofQ (a0 + b0)) (ofQ (a1 + b1)) (ofQ (a2 + b2))))) rfl rfl sh129 rfl rfl .nil), ?_⟩
  rfl
theorem qs_whole (x : Int) (hxl : -9223372036854775808 ≤ x) (hxh : x ≤ 9223372036854775807) (y : Int) (hyl : -9223372036854775808 ≤ y) (hyh : y ≤ 9223372036854775807) (z : Int) (hzl : -9223372036854775808 ≤ z) (hzh : z ≤ 9223372036854775807) : Takes Tryz.prog 38 [(.val (.int .i64 (x))), (.val (.int .i64 (y))), (.val (.int .i64 (z)))] (encA43 (A3.mk (ofQ ((x : Int) : Rat)) (ofQ ((y : Int) : Rat)) (ofQ ((z : Int) : Rat)))) := by
  refine fn_intro Tryz.func38 rfl cb38 rfl ?_
  show PWp _ _ _ _ ⟨[(0, (vi x)), (1, (vi y)), (2, (vi z))], []⟩
  refine pwp_seq <| kx [(6, (.ref 0 0))] [(0, some (bx (encA43 (A3.mk (RRat.mk (RInt.mk false []) (RInt.mk false [])) (RRat.mk (RInt.mk false []) (RInt.mk false [])) (RRat.mk (RInt.mk false []) (RInt.mk false []))))))] (zN (oAl 0 ze44 zo44) <| zZ) ?_
  refine pwp_seq ?_
  have bn1 : QL ((x : Int) : Rat) 3 := (ql_int (z := x) (lenZ_int (by omega) (by omega)) (by decide))
  have bn2 : QL ((y : Int) : Rat) 3 := (ql_int (z := y) (lenZ_int (by omega) (by omega)) (by decide))
  have bn3 : QL ((z : Int) : Rat) 3 := (ql_int (z := z) (lenZ_int (by omega) (by omega)) (by decide))
  refine kx [] [(0, some (bx (encA43 (A3.mk (ofQ ((x : Int) : Rat)) (ofQ ((y : Int) : Rat)) (ofQ ((z : Int) : Rat))))))] (zM <| zE (oCl (g_whole x (by omega) (by omega))) <| zM <| zE (oCl (g_whole y (by omega) (by omega))) <| zM <| zE (oCl (g_whole z (by omega) (by omega))) <| zE (oBf ar44 ze44 zo44) <| zT (oSt sh44) <| zZ) ?_
  refine pwp_ret ⟨_, (res_a (cs := (bx (encA43 (A3.mk (ofQ ((x : Int) : Rat)) (ofQ ((y : Int) : Rat)) (ofQ ((z : Int) : Rat)))))) (d := (encA43 (A3.mk (ofQ ((x : Int) : Rat)) (ofQ ((y : Int) : Rat)) (ofQ ((z : Int) : Rat))))) rfl rfl sh44 rfl rfl .nil), ?_⟩
  rfl
theorem qs_dot (a0 a1 a2 : Rat) (ha0 : QL a0 100000000) (ha1 : QL a1 100000000) (ha2 : QL a2 100000000) (b0 b1 b2 : Rat) (hb0 : QL b0 100000000) (hb1 : QL b1 100000000) (hb2 : QL b2 100000000) : Takes Tryz.prog 22 [(encA43 (A3.mk (ofQ a0) (ofQ a1) (ofQ a2))), (encA43 (A3.mk (ofQ b0) (ofQ b1) (ofQ b2)))] (encR (ofQ (dot3 a0 a1 a2 b0 b1 b2))) := by
  refine fn_intro Tryz.func22 rfl cb22 rfl ?_
  show PWp _ _ _ _ ⟨[(0, (.d (encA43 (A3.mk (ofQ a0) (ofQ a1) (ofQ a2))))), (1, (.d (encA43 (A3.mk (ofQ b0) (ofQ b1) (ofQ b2)))))], []⟩
  refine pwp_seq <| kx [(2, (.ref 0 0)), (3, (.ref 1 0)), (4, (.ref 2 0))] [(0, some (bx (encA43 (A3.mk (ofQ a0) (ofQ a1) (ofQ a2))))), (1, some (bx (encA43 (A3.mk (ofQ b0) (ofQ b1) (ofQ b2))))), (2, some (bx (encR (RRat.mk (RInt.mk false []) (RInt.mk false [])))))] (zN (oBx 0) <| zN (oBx 1) <| zN (oAl 2 ze42 zo42) <| zZ) ?_
  refine pwp_seq ?_
  have bn1 : QL (dot3 a0 a1 a2 b0 b1 b2) 600000002 := (ql_dot3 (n := 100000000) (k := 600000002) ha0 ha1 ha2 hb0 hb1 hb2 (by decide))
  refine kd [(5, (.ref 3 0))] [(3, some (bx (encR (ofQ (dot3 a0 a1 a2 b0 b1 b2)))))] mo (wE (e_slv (by exact rfl) ar44 (by exact rfl) (by kernel_rfl) (by kernel_rfl)) <| wE (e_slv (by exact rfl) ar44 (by exact rfl) (by kernel_rfl) (by kernel_rfl)) <| wC (oCg [(0, (Dat.cells (encA43 (A3.mk (ofQ a0) (ofQ a1) (ofQ a2))))), (1, (Dat.cells (encA43 (A3.mk (ofQ b0) (ofQ b1) (ofQ b2)))))] [(.view 0 0 3), (.view 1 0 3)] (q_dotL 1000000 a0 a1 a2 ha0 ha1 ha2 1000000 b0 b1 b2 hb0 hb1 hb2) (.v (es := List.map encR [(ofQ a0), (ofQ a1), (ofQ a2)]) (.head _) (pubs_cells _ _ (fun _ => rfl)) (by kernel_rfl) (by kernel_rfl) (.v (es := List.map encR [(ofQ b0), (ofQ b1), (ofQ b2)]) (.tail _ (.head _)) (pubs_cells _ _ (fun _ => rfl)) (by kernel_rfl) (by kernel_rfl) .nil)) (.tup (avo_cons (avo_encR (by decide) _) (avo_cons (.val _) avo_nil)))) <| wM <| wE oEx <| wE oEx <| wN (oAl 3 ze42 zo42) <| wT (oSt sh42) <| wM <| wZ) ?_
  refine pwp_seq <| kx [] [(2, some (bx (encR (ofQ (dot3 a0 a1 a2 b0 b1 b2)))))] (zR (oLa sh42) <| zT (oSt sh42) <| zZ) ?_
  refine pwp_ret ⟨_, (res_a (cs := (bx (encR (ofQ (dot3 a0 a1 a2 b0 b1 b2))))) (d := (encR (ofQ (dot3 a0 a1 a2 b0 b1 b2)))) rfl rfl sh42 rfl rfl .nil), ?_⟩
  rfl
theorem qs_cross (a0 a1 a2 : Rat) (ha0 : QL a0 100000000) (ha1 : QL a1 100000000) (ha2 : QL a2 100000000) (b0 b1 b2 : Rat) (hb0 : QL b0 100000000) (hb1 : QL b1 100000000) (hb2 : QL b2 100000000) : Takes Tryz.prog 78 [(encA43 (A3.mk (ofQ a0) (ofQ a1) (ofQ a2))), (encA43 (A3.mk (ofQ b0) (ofQ b1) (ofQ b2)))] (encA43 (A3.mk (ofQ ((a1 * b2) - (a2 * b1))) (ofQ ((a2 * b0) - (a0 * b2))) (ofQ ((a0 * b1) - (a1 * b0))))) := by
  let y2 := (RRat.mk (RInt.mk false []) (RInt.mk false []))
  let y1 := (bx (encA43 (A3.mk y2 y2 y2)))
  refine fn_intro Tryz.func78 rfl cb78 rfl ?_
  show PWp _ _ _ _ ⟨[(0, (.d (encA43 (A3.mk (ofQ a0) (ofQ a1) (ofQ a2))))), (1, (.d (encA43 (A3.mk (ofQ b0) (ofQ b1) (ofQ b2)))))], []⟩
  refine pwp_seq <| kx [(2, (.ref 0 0)), (3, (.ref 1 0)), (4, (.ref 2 0))] [(0, some (bx (encA43 (A3.mk (ofQ a0) (ofQ a1) (ofQ a2))))), (1, some (bx (encA43 (A3.mk (ofQ b0) (ofQ b1) (ofQ b2))))), (2, some y1)] (zN (oBx 0) <| zN (oBx 1) <| zN (oAl 2 ze44 zo44) <| zZ) ?_
  refine pwp_seq <| kx [(5, (.ref 3 0))] [(3, some y1)] (zE (oBa ar44 ze44 zo44) <| zN (oAl 3 ze44 zo44) <| zT (oSt sh44) <| zZ) ?_
  refine pwp_seq <| pwp_seq <| kx [(10, (vin 0))] [] (zM <| zZ) ?_
  refine pwp_block <| pwp_rounds 20 ?_
  refine pwp_round <| pwp_seq <| kx [(11, (vb true))] [] (zE (oBk true oLt) <| zZ) ?_
  refine pwp_seq <| pwp_cond (b := true) (by kernel_rfl) (fun _ => ?_) (fun h => by cases h)
  refine pwp_skip <| pwp_seq <| pwp_block <| pwp_seq <| kx [(6, (vin 0))] [] (zM <| zM <| zZ) ?_
  refine pwp_seq <| kx [(7, (vin 1)), (8, (vin 2))] [] (zM <| zE (oAd 1 (hr := by decide)) <| zE (oRe 1 (hr := by decide)) <| zM <| zE (oAd 2 (hr := by decide)) <| zE (oRe 2 (hr := by decide)) <| zM <| zM <| zZ) ?_
  have bn1 : QL ((a1 * b2) - (a2 * b1)) 400000001 := (ql_sub (k := 400000001) (ql_mul (k := 200000000) ha1 hb2 (by decide)) (ql_mul (k := 200000000) ha2 hb1 (by decide)) (by decide))
  refine kd [] [(3, some (bx (encA43 (A3.mk (ofQ ((a1 * b2) - (a2 * b1))) y2 y2))))] mo (wM <| wM <| wE (oXr ar44 1) <| wR (oLa sh42) <| wM <| wE (oXr ar44 2) <| wR (oLa sh42) <| wE (oCl (g_mul (ofQ a1) (ofQ b2) a1 b2 (qok_up (qok_of ha1) (by decide)) (qok_up (qok_of hb2) (by decide)))) <| wM <| wE (oXr ar44 2) <| wR (oLa sh42) <| wM <| wE (oXr ar44 1) <| wR (oLa sh42) <| wE (oCl (g_mul (ofQ a2) (ofQ b1) a2 b1 (qok_up (qok_of ha2) (by decide)) (qok_up (qok_of hb1) (by decide)))) <| wE (oCl (g_sub (ofQ (a1 * b2)) (ofQ (a2 * b1)) (a1 * b2) (a2 * b1) (qok_up (qok_of (ql_mul (k := 200000000) ha1 hb2 (by decide))) (by decide)) (qok_up (qok_of (ql_mul (k := 200000000) ha2 hb1 (by decide))) (by decide)))) <| wE (oXr ar44 0) <| wT (oSt sh42) <| wZ) ?_
  refine kx [(10, (vin 1))] [] (zE (oAd 1 (hr := by decide)) <| zM <| zZ) ?_
  refine pwp_again (SimImp.refl _) ?_
  refine pwp_seq <| kx [(11, (vb true))] [] (zE (oBk true oLt) <| zZ) ?_
  refine pwp_seq <| pwp_cond (b := true) (by kernel_rfl) (fun _ => ?_) (fun h => by cases h)
  refine pwp_skip <| pwp_seq <| pwp_block <| pwp_seq <| kx [(6, (vin 1))] [] (zM <| zM <| zZ) ?_
  refine pwp_seq <| kx [(7, (vin 2)), (8, (vin 0))] [] (zM <| zE (oAd 2 (hr := by decide)) <| zE (oRe 2 (hr := by decide)) <| zM <| zE (oAd 3 (hr := by decide)) <| zE (oRe 0 (hr := by decide)) <| zM <| zM <| zZ) ?_
  have bn2 : QL ((a2 * b0) - (a0 * b2)) 400000001 := (ql_sub (k := 400000001) (ql_mul (k := 200000000) ha2 hb0 (by decide)) (ql_mul (k := 200000000) ha0 hb2 (by decide)) (by decide))
  refine kd [] [(3, some (bx (encA43 (A3.mk (ofQ ((a1 * b2) - (a2 * b1))) (ofQ ((a2 * b0) - (a0 * b2))) y2))))] mo (wM <| wM <| wE (oXr ar44 2) <| wR (oLa sh42) <| wM <| wE (oXr ar44 0) <| wR (oLa sh42) <| wE (oCl (g_mul (ofQ a2) (ofQ b0) a2 b0 (qok_up (qok_of ha2) (by decide)) (qok_up (qok_of hb0) (by decide)))) <| wM <| wE (oXr ar44 0) <| wR (oLa sh42) <| wM <| wE (oXr ar44 2) <| wR (oLa sh42) <| wE (oCl (g_mul (ofQ a0) (ofQ b2) a0 b2 (qok_up (qok_of ha0) (by decide)) (qok_up (qok_of hb2) (by decide)))) <| wE (oCl (g_sub (ofQ (a2 * b0)) (ofQ (a0 * b2)) (a2 * b0) (a0 * b2) (qok_up (qok_of (ql_mul (k := 200000000) ha2 hb0 (by decide))) (by decide)) (qok_up (qok_of (ql_mul (k := 200000000) ha0 hb2 (by decide))) (by decide)))) <| wE (oXr ar44 1) <| wT (oSt sh42) <| wZ) ?_
  refine kx [(10, (vin 2))] [] (zE (oAd 2 (hr := by decide)) <| zM <| zZ) ?_
  refine pwp_again (SimImp.refl _) ?_
  refine pwp_seq <| kx [(11, (vb true))] [] (zE (oBk true oLt) <| zZ) ?_
  refine pwp_seq <| pwp_cond (b := true) (by kernel_rfl) (fun _ => ?_) (fun h => by cases h)
  refine pwp_skip <| pwp_seq <| pwp_block <| pwp_seq <| pwp_sim (wk (l := [(2, (.ref 0 0)), (3, (.ref 1 0)), (4, (.ref 2 0)), (5, (.ref 3 0)), (10, (vin 2)), (11, (vb true))]) (b := [(0, some (bx (encA43 (A3.mk (ofQ a0) (ofQ a1) (ofQ a2))))), (1, some (bx (encA43 (A3.mk (ofQ b0) (ofQ b1) (ofQ b2))))), (2, some y1), (3, some (bx (encA43 (A3.mk (ofQ ((a1 * b2) - (a2 * b1))) (ofQ ((a2 * b0) - (a0 * b2))) y2))))])) ?_
  refine kx [(6, (vin 2))] [] (zM <| zM <| zZ) ?_
  refine pwp_seq <| kx [(7, (vin 0)), (8, (vin 1))] [] (zM <| zE (oAd 3 (hr := by decide)) <| zE (oRe 0 (hr := by decide)) <| zM <| zE (oAd 4 (hr := by decide)) <| zE (oRe 1 (hr := by decide)) <| zM <| zM <| zZ) ?_
  have bn3 : QL ((a0 * b1) - (a1 * b0)) 400000001 := (ql_sub (k := 400000001) (ql_mul (k := 200000000) ha0 hb1 (by decide)) (ql_mul (k := 200000000) ha1 hb0 (by decide)) (by decide))
  refine kd [] [(3, some (bx (encA43 (A3.mk (ofQ ((a1 * b2) - (a2 * b1))) (ofQ ((a2 * b0) - (a0 * b2))) (ofQ ((a0 * b1) - (a1 * b0)))))))] mo (wM <| wM <| wE (oXr ar44 0) <| wR (oLa sh42) <| wM <| wE (oXr ar44 1) <| wR (oLa sh42) <| wE (oCl (g_mul (ofQ a0) (ofQ b1) a0 b1 (qok_up (qok_of ha0) (by decide)) (qok_up (qok_of hb1) (by decide)))) <| wM <| wE (oXr ar44 1) <| wR (oLa sh42) <| wM <| wE (oXr ar44 0) <| wR (oLa sh42) <| wE (oCl (g_mul (ofQ a1) (ofQ b0) a1 b0 (qok_up (qok_of ha1) (by decide)) (qok_up (qok_of hb0) (by decide)))) <| wE (oCl (g_sub (ofQ (a0 * b1)) (ofQ (a1 * b0)) (a0 * b1) (a1 * b0) (qok_up (qok_of (ql_mul (k := 200000000) ha0 hb1 (by decide))) (by decide)) (qok_up (qok_of (ql_mul (k := 200000000) ha1 hb0 (by decide))) (by decide)))) <| wE (oXr ar44 2) <| wT (oSt sh42) <| wZ) ?_
  refine kx [(10, (vin 3))] [] (zE (oAd 3 (hr := by decide)) <| zM <| zZ) ?_
  refine pwp_again (SimImp.refl _) ?_
  refine pwp_seq <| kx [(11, (vb false))] [] (zE (oBk false oLt) <| zZ) ?_
  refine pwp_seq <| pwp_cond (b := false) (by kernel_rfl) (fun h => by cases h) (fun _ => ?_)
  refine pwp_exit <| pwp_seq <| kx [] [(2, some (bx (encA43 (A3.mk (ofQ ((a1 * b2) - (a2 * b1))) (ofQ ((a2 * b0) - (a0 * b2))) (ofQ ((a0 * b1) - (a1 * b0)))))))] (zR (oLa sh44) <| zT (oSt sh44) <| zZ) ?_
  refine pwp_ret ⟨_, (res_a (cs := (bx (encA43 (A3.mk (ofQ ((a1 * b2) - (a2 * b1))) (ofQ ((a2 * b0) - (a0 * b2))) (ofQ ((a0 * b1) - (a1 * b0))))))) (d := (encA43 (A3.mk (ofQ ((a1 * b2) - (a2 * b1))) (ofQ ((a2 * b0) - (a0 * b2))) (ofQ ((a0 * b1) - (a1 * b0)))))) rfl rfl sh44 rfl rfl .nil), ?_⟩
  rfl
theorem qs_scaled (a0 a1 a2 : Rat) (ha0 : QL a0 100000000) (ha1 : QL a1 100000000) (ha2 : QL a2 100000000) (k : Rat) (hk : QL k 100000000) : Takes Tryz.prog 45 [(encA43 (A3.mk (ofQ a0) (ofQ a1) (ofQ a2))), (encR (ofQ k))] (encA43 (A3.mk (ofQ (a0 * k)) (ofQ (a1 * k)) (ofQ (a2 * k)))) := by
  let y1 := (RRat.mk (RInt.mk false []) (RInt.mk false []))
  refine fn_intro Tryz.func45 rfl cb45 rfl ?_
  show PWp _ _ _ _ ⟨[(0, (.d (encA43 (A3.mk (ofQ a0) (ofQ a1) (ofQ a2))))), (1, (.d (encR (ofQ k))))], []⟩
  refine pwp_seq <| kx [(2, (.ref 0 0)), (3, (.ref 1 0)), (4, (.ref 2 0))] [(0, some (bx (encA43 (A3.mk (ofQ a0) (ofQ a1) (ofQ a2))))), (1, some (bx (encR (ofQ k)))), (2, some (bx (encA43 (A3.mk y1 y1 y1))))] (zN (oBx 0) <| zN (oBx 1) <| zN (oAl 2 ze44 zo44) <| zZ) ?_
  refine pwp_seq <| pwp_seq <| kx [(6, (vin 0))] [] (zM <| zZ) ?_
  refine pwp_block <| pwp_rounds 20 ?_
  refine pwp_round <| pwp_seq <| kx [(7, (vb true))] [] (zE (oBk true oLt) <| zZ) ?_
  refine pwp_seq <| pwp_cond (b := true) (by kernel_rfl) (fun _ => ?_) (fun h => by cases h)
  refine pwp_skip <| pwp_seq <| pwp_block <| pwp_seq <| kx [(5, (vin 0))] [] (zM <| zM <| zZ) ?_
  refine kd [] [(0, some (bx (encA43 (A3.mk (ofQ (a0 * k)) (ofQ a1) (ofQ a2)))))] mo (wM <| wM <| wE (oXr ar44 0) <| wR (oLa sh42) <| wR (oLa sh42) <| wE (oCl (g_mul (ofQ a0) (ofQ k) a0 k (qok_up (qok_of ha0) (by decide)) (qok_up (qok_of hk) (by decide)))) <| wE (oXr ar44 0) <| wT (oSt sh42) <| wZ) ?_
  refine kx [(6, (vin 1))] [] (zE (oAd 1 (hr := by decide)) <| zM <| zZ) ?_
  refine pwp_again (SimImp.refl _) ?_
  refine pwp_seq <| kx [(7, (vb true))] [] (zE (oBk true oLt) <| zZ) ?_
  refine pwp_seq <| pwp_cond (b := true) (by kernel_rfl) (fun _ => ?_) (fun h => by cases h)
  refine pwp_skip <| pwp_seq <| pwp_block <| pwp_seq <| kx [(5, (vin 1))] [] (zM <| zM <| zZ) ?_
  refine kd [] [(0, some (bx (encA43 (A3.mk (ofQ (a0 * k)) (ofQ (a1 * k)) (ofQ a2)))))] mo (wM <| wM <| wE (oXr ar44 1) <| wR (oLa sh42) <| wR (oLa sh42) <| wE (oCl (g_mul (ofQ a1) (ofQ k) a1 k (qok_up (qok_of ha1) (by decide)) (qok_up (qok_of hk) (by decide)))) <| wE (oXr ar44 1) <| wT (oSt sh42) <| wZ) ?_
  refine kx [(6, (vin 2))] [] (zE (oAd 2 (hr := by decide)) <| zM <| zZ) ?_
  refine pwp_again (SimImp.refl _) ?_
  refine pwp_seq <| kx [(7, (vb true))] [] (zE (oBk true oLt) <| zZ) ?_
  refine pwp_seq <| pwp_cond (b := true) (by kernel_rfl) (fun _ => ?_) (fun h => by cases h)
  refine pwp_skip <| pwp_seq <| pwp_block <| pwp_seq <| kx [(5, (vin 2))] [] (zM <| zM <| zZ) ?_
  refine kd [] [(0, some (bx (encA43 (A3.mk (ofQ (a0 * k)) (ofQ (a1 * k)) (ofQ (a2 * k))))))] mo (wM <| wM <| wE (oXr ar44 2) <| wR (oLa sh42) <| wR (oLa sh42) <| wE (oCl (g_mul (ofQ a2) (ofQ k) a2 k (qok_up (qok_of ha2) (by decide)) (qok_up (qok_of hk) (by decide)))) <| wE (oXr ar44 2) <| wT (oSt sh42) <| wZ) ?_
  refine kx [(6, (vin 3))] [] (zE (oAd 3 (hr := by decide)) <| zM <| zZ) ?_
  refine pwp_again (SimImp.refl _) ?_
  refine pwp_seq <| pwp_sim (wk (l := [(2, (.ref 0 0)), (3, (.ref 1 0)), (4, (.ref 2 0)), (6, (vin 3))]) (b := [(0, some (bx (encA43 (A3.mk (ofQ (a0 * k)) (ofQ (a1 * k)) (ofQ (a2 * k)))))), (1, some (bx (encR (ofQ k)))), (2, some (bx (encA43 (A3.mk y1 y1 y1))))])) ?_
  refine kx [(7, (vb false))] [] (zE (oBk false oLt) <| zZ) ?_
  refine pwp_seq <| pwp_cond (b := false) (by kernel_rfl) (fun h => by cases h) (fun _ => ?_)
  refine pwp_exit <| pwp_seq <| kx [] [(2, some (bx (encA43 (A3.mk (ofQ (a0 * k)) (ofQ (a1 * k)) (ofQ (a2 * k))))))] (zR (oLa sh44) <| zT (oSt sh44) <| zZ) ?_
  refine pwp_ret ⟨_, (res_a (cs := (bx (encA43 (A3.mk (ofQ (a0 * k)) (ofQ (a1 * k)) (ofQ (a2 * k)))))) (d := (encA43 (A3.mk (ofQ (a0 * k)) (ofQ (a1 * k)) (ofQ (a2 * k))))) rfl rfl sh44 rfl rfl .nil), ?_⟩
  rfl
theorem qs_sum (a0 a1 a2 : Rat) (ha0 : QL a0 1000000000) (ha1 : QL a1 1000000000) (ha2 : QL a2 1000000000) (b0 b1 b2 : Rat) (hb0 : QL b0 1000000000) (hb1 : QL b1 1000000000) (hb2 : QL b2 1000000000) : Takes Tryz.prog 44 [(encA43 (A3.mk (ofQ a0) (ofQ a1) (ofQ a2))), (encA43 (A3.mk (ofQ b0) (ofQ b1) (ofQ b2)))] (encA43 (A3.mk (ofQ (a0 + b0)) (ofQ (a1 + b1)) (ofQ (a2 + b2)))) := by
  let y1 := (RRat.mk (RInt.mk false []) (RInt.mk false []))
  refine fn_intro Tryz.func44 rfl cb44 rfl ?_
  show PWp _ _ _ _ ⟨[(0, (.d (encA43 (A3.mk (ofQ a0) (ofQ a1) (ofQ a2))))), (1, (.d (encA43 (A3.mk (ofQ b0) (ofQ b1) (ofQ b2)))))], []⟩
  refine pwp_seq <| kx [(2, (.ref 0 0)), (3, (.ref 1 0)), (4, (.ref 2 0))] [(0, some (bx (encA43 (A3.mk (ofQ a0) (ofQ a1) (ofQ a2))))), (1, some (bx (encA43 (A3.mk (ofQ b0) (ofQ b1) (ofQ b2))))), (2, some (bx (encA43 (A3.mk y1 y1 y1))))] (zN (oBx 0) <| zN (oBx 1) <| zN (oAl 2 ze44 zo44) <| zZ) ?_
  refine pwp_seq <| pwp_seq <| kx [(6, (vin 0))] [] (zM <| zZ) ?_
  refine pwp_block <| pwp_rounds 20 ?_
  refine pwp_round <| pwp_seq <| kx [(7, (vb true))] [] (zE (oBk true oLt) <| zZ) ?_
  refine pwp_seq <| pwp_cond (b := true) (by kernel_rfl) (fun _ => ?_) (fun h => by cases h)
  refine pwp_skip <| pwp_seq <| pwp_block <| pwp_seq <| kx [(5, (vin 0))] [] (zM <| zM <| zZ) ?_
  refine kd [] [(0, some (bx (encA43 (A3.mk (ofQ (a0 + b0)) (ofQ a1) (ofQ a2)))))] mo (wM <| wM <| wE (oXr ar44 0) <| wR (oLa sh42) <| wM <| wE (oXr ar44 0) <| wR (oLa sh42) <| wE (oCl (g_add (ofQ a0) (ofQ b0) a0 b0 (qok_up (qok_of ha0) (by decide)) (qok_up (qok_of hb0) (by decide)))) <| wE (oXr ar44 0) <| wT (oSt sh42) <| wZ) ?_
  refine kx [(6, (vin 1))] [] (zE (oAd 1 (hr := by decide)) <| zM <| zZ) ?_
  refine pwp_again (SimImp.refl _) ?_
  refine pwp_seq <| kx [(7, (vb true))] [] (zE (oBk true oLt) <| zZ) ?_
  refine pwp_seq <| pwp_cond (b := true) (by kernel_rfl) (fun _ => ?_) (fun h => by cases h)
  refine pwp_skip <| pwp_seq <| pwp_block <| pwp_seq <| kx [(5, (vin 1))] [] (zM <| zM <| zZ) ?_
  refine kd [] [(0, some (bx (encA43 (A3.mk (ofQ (a0 + b0)) (ofQ (a1 + b1)) (ofQ a2)))))] mo (wM <| wM <| wE (oXr ar44 1) <| wR (oLa sh42) <| wM <| wE (oXr ar44 1) <| wR (oLa sh42) <| wE (oCl (g_add (ofQ a1) (ofQ b1) a1 b1 (qok_up (qok_of ha1) (by decide)) (qok_up (qok_of hb1) (by decide)))) <| wE (oXr ar44 1) <| wT (oSt sh42) <| wZ) ?_
  refine kx [(6, (vin 2))] [] (zE (oAd 2 (hr := by decide)) <| zM <| zZ) ?_
  refine pwp_again (SimImp.refl _) ?_
  refine pwp_seq <| kx [(7, (vb true))] [] (zE (oBk true oLt) <| zZ) ?_
  refine pwp_seq <| pwp_cond (b := true) (by kernel_rfl) (fun _ => ?_) (fun h => by cases h)
  refine pwp_skip <| pwp_seq <| pwp_block <| pwp_seq <| kx [(5, (vin 2))] [] (zM <| zM <| zZ) ?_
  refine kd [] [(0, some (bx (encA43 (A3.mk (ofQ (a0 + b0)) (ofQ (a1 + b1)) (ofQ (a2 + b2))))))] mo (wM <| wM <| wE (oXr ar44 2) <| wR (oLa sh42) <| wM <| wE (oXr ar44 2) <| wR (oLa sh42) <| wE (oCl (g_add (ofQ a2) (ofQ b2) a2 b2 (qok_up (qok_of ha2) (by decide)) (qok_up (qok_of hb2) (by decide)))) <| wE (oXr ar44 2) <| wT (oSt sh42) <| wZ) ?_
  refine kx [(6, (vin 3))] [] (zE (oAd 3 (hr := by decide)) <| zM <| zZ) ?_
  refine pwp_again (SimImp.refl _) ?_
  refine pwp_seq <| pwp_sim (wk (l := [(2, (.ref 0 0)), (3, (.ref 1 0)), (4, (.ref 2 0)), (6, (vin 3))]) (b := [(0, some (bx (encA43 (A3.mk (ofQ (a0 + b0)) (ofQ (a1 + b1)) (ofQ (a2 + b2)))))), (1, some (bx (encA43 (A3.mk (ofQ b0) (ofQ b1) (ofQ b2))))), (2, some (bx (encA43 (A3.mk y1 y1 y1))))])) ?_
  refine kx [(7, (vb false))] [] (zE (oBk false oLt) <| zZ) ?_
  refine pwp_seq <| pwp_cond (b := false) (by kernel_rfl) (fun h => by cases h) (fun _ => ?_)
  refine pwp_exit <| pwp_seq <| kx [] [(2, some (bx (encA43 (A3.mk (ofQ (a0 + b0)) (ofQ (a1 + b1)) (ofQ (a2 + b2))))))] (zR (oLa sh44) <| zT (oSt sh44) <| zZ) ?_
  refine pwp_ret ⟨_, (res_a (cs := (bx (encA43 (A3.mk (ofQ (a0 + b0)) (ofQ (a1 + b1)) (ofQ (a2 + b2)))))) (d := (encA43 (A3.mk (ofQ (a0 + b0)) (ofQ (a1 + b1)) (ofQ (a2 + b2))))) rfl rfl sh44 rfl rfl .nil), ?_⟩
  rfl
theorem q_times (m00 m01 m02 m10 m11 m12 m20 m21 m22 : Rat) (hm00 : QL m00 100000000) (hm01 : QL m01 100000000) (hm02 : QL m02 100000000) (hm10 : QL m10 100000000) (hm11 : QL m11 100000000) (hm12 : QL m12 100000000) (hm20 : QL m20 100000000) (hm21 : QL m21 100000000) (hm22 : QL m22 100000000) (v0 v1 v2 : Rat) (hv0 : QL v0 100000000) (hv1 : QL v1 100000000) (hv2 : QL v2 100000000) : Takes Tryz.prog 101 [(encA130 (A3.mk (A3.mk (ofQ m00) (ofQ m01) (ofQ m02)) (A3.mk (ofQ m10) (ofQ m11) (ofQ m12)) (A3.mk (ofQ m20) (ofQ m21) (ofQ m22)))), (encA43 (A3.mk (ofQ v0) (ofQ v1) (ofQ v2)))] (encA43 (A3.mk (ofQ (dot3 m00 m01 m02 v0 v1 v2)) (ofQ (dot3 m10 m11 m12 v0 v1 v2)) (ofQ (dot3 m20 m21 m22 v0 v1 v2)))) := by
  refine fn_intro Tryz.func101 rfl cb101 rfl ?_
  show PWp _ _ _ _ ⟨[(0, (.d (encA130 (A3.mk (A3.mk (ofQ m00) (ofQ m01) (ofQ m02)) (A3.mk (ofQ m10) (ofQ m11) (ofQ m12)) (A3.mk (ofQ m20) (ofQ m21) (ofQ m22)))))), (1, (.d (encA43 (A3.mk (ofQ v0) (ofQ v1) (ofQ v2)))))], []⟩
  refine pwp_seq <| kx [(2, (.ref 0 0)), (3, (.ref 1 0)), (4, (.ref 2 0))] [(0, some (bx (encA130 (A3.mk (A3.mk (ofQ m00) (ofQ m01) (ofQ m02)) (A3.mk (ofQ m10) (ofQ m11) (ofQ m12)) (A3.mk (ofQ m20) (ofQ m21) (ofQ m22)))))), (1, some (bx (encA43 (A3.mk (ofQ v0) (ofQ v1) (ofQ v2))))), (2, some (bx (encA43 (A3.mk (RRat.mk (RInt.mk false []) (RInt.mk false [])) (RRat.mk (RInt.mk false []) (RInt.mk false [])) (RRat.mk (RInt.mk false []) (RInt.mk false []))))))] (zN (oBx 0) <| zN (oBx 1) <| zN (oAl 2 ze129 zo129) <| zZ) ?_
  refine pwp_seq ?_
  have bn1 : QL (dot3 m00 m01 m02 v0 v1 v2) 600000002 := (ql_dot3 (n := 100000000) (k := 600000002) hm00 hm01 hm02 hv0 hv1 hv2 (by decide))
  have bn2 : QL (dot3 m10 m11 m12 v0 v1 v2) 600000002 := (ql_dot3 (n := 100000000) (k := 600000002) hm10 hm11 hm12 hv0 hv1 hv2 (by decide))
  have bn3 : QL (dot3 m20 m21 m22 v0 v1 v2) 600000002 := (ql_dot3 (n := 100000000) (k := 600000002) hm20 hm21 hm22 hv0 hv1 hv2 (by decide))
  refine kd [] [(2, some (bx (encA43 (A3.mk (ofQ (dot3 m00 m01 m02 v0 v1 v2)) (ofQ (dot3 m10 m11 m12 v0 v1 v2)) (ofQ (dot3 m20 m21 m22 v0 v1 v2))))))] mo (wE (oXr ar131 0) <| wR (oLa sh129) <| wR (oLa sh129) <| wE (oCl (q_dot m00 m01 m02 hm00 hm01 hm02 v0 v1 v2 hv0 hv1 hv2)) <| wE (oXr ar131 1) <| wR (oLa sh129) <| wR (oLa sh129) <| wE (oCl (q_dot m10 m11 m12 hm10 hm11 hm12 v0 v1 v2 hv0 hv1 hv2)) <| wE (oXr ar131 2) <| wR (oLa sh129) <| wR (oLa sh129) <| wE (oCl (q_dot m20 m21 m22 hm20 hm21 hm22 v0 v1 v2 hv0 hv1 hv2)) <| wE (oBf ar129 ze129 zo129) <| wT (oSt sh129) <| wZ) ?_
  refine pwp_ret ⟨_, (res_a (cs := (bx (encA43 (A3.mk (ofQ (dot3 m00 m01 m02 v0 v1 v2)) (ofQ (dot3 m10 m11 m12 v0 v1 v2)) (ofQ (dot3 m20 m21 m22 v0 v1 v2)))))) (d := (encA43 (A3.mk (ofQ (dot3 m00 m01 m02 v0 v1 v2)) (ofQ (dot3 m10 m11 m12 v0 v1 v2)) (ofQ (dot3 m20 m21 m22 v0 v1 v2))))) rfl rfl sh129 rfl rfl .nil), ?_⟩
  rfl
theorem qs_turned (m00 m01 m02 m10 m11 m12 m20 m21 m22 : Rat) (hm00 : QL m00 100000000) (hm01 : QL m01 100000000) (hm02 : QL m02 100000000) (hm10 : QL m10 100000000) (hm11 : QL m11 100000000) (hm12 : QL m12 100000000) (hm20 : QL m20 100000000) (hm21 : QL m21 100000000) (hm22 : QL m22 100000000) (v0 v1 v2 : Rat) (hv0 : QL v0 100000000) (hv1 : QL v1 100000000) (hv2 : QL v2 100000000) : Takes Tryz.prog 23 [(encA45 (A3.mk (A3.mk (ofQ m00) (ofQ m01) (ofQ m02)) (A3.mk (ofQ m10) (ofQ m11) (ofQ m12)) (A3.mk (ofQ m20) (ofQ m21) (ofQ m22)))), (encA43 (A3.mk (ofQ v0) (ofQ v1) (ofQ v2)))] (encA43 (A3.mk (ofQ (dot3 m00 m01 m02 v0 v1 v2)) (ofQ (dot3 m10 m11 m12 v0 v1 v2)) (ofQ (dot3 m20 m21 m22 v0 v1 v2)))) := by
  refine fn_intro Tryz.func23 rfl cb23 rfl ?_
  show PWp _ _ _ _ ⟨[(0, (.d (encA45 (A3.mk (A3.mk (ofQ m00) (ofQ m01) (ofQ m02)) (A3.mk (ofQ m10) (ofQ m11) (ofQ m12)) (A3.mk (ofQ m20) (ofQ m21) (ofQ m22)))))), (1, (.d (encA43 (A3.mk (ofQ v0) (ofQ v1) (ofQ v2)))))], []⟩
  refine pwp_seq <| kx [(2, (.ref 0 0)), (3, (.ref 1 0)), (4, (.ref 2 0))] [(0, some (bx (encA45 (A3.mk (A3.mk (ofQ m00) (ofQ m01) (ofQ m02)) (A3.mk (ofQ m10) (ofQ m11) (ofQ m12)) (A3.mk (ofQ m20) (ofQ m21) (ofQ m22)))))), (1, some (bx (encA43 (A3.mk (ofQ v0) (ofQ v1) (ofQ v2))))), (2, some (bx (encA43 (A3.mk (RRat.mk (RInt.mk false []) (RInt.mk false [])) (RRat.mk (RInt.mk false []) (RInt.mk false [])) (RRat.mk (RInt.mk false []) (RInt.mk false []))))))] (zN (oBx 0) <| zN (oBx 1) <| zN (oAl 2 ze44 zo44) <| zZ) ?_
  refine pwp_seq ?_
  have bn1 : QL (dot3 m00 m01 m02 v0 v1 v2) 600000002 := (ql_dot3 (n := 100000000) (k := 600000002) hm00 hm01 hm02 hv0 hv1 hv2 (by decide))
  have bn2 : QL (dot3 m10 m11 m12 v0 v1 v2) 600000002 := (ql_dot3 (n := 100000000) (k := 600000002) hm10 hm11 hm12 hv0 hv1 hv2 (by decide))
  have bn3 : QL (dot3 m20 m21 m22 v0 v1 v2) 600000002 := (ql_dot3 (n := 100000000) (k := 600000002) hm20 hm21 hm22 hv0 hv1 hv2 (by decide))
  refine kd [] [(2, some (bx (encA43 (A3.mk (ofQ (dot3 m00 m01 m02 v0 v1 v2)) (ofQ (dot3 m10 m11 m12 v0 v1 v2)) (ofQ (dot3 m20 m21 m22 v0 v1 v2))))))] mo (wE (oXr ar45 0) <| wR (oLa sh44) <| wR (oLa sh44) <| wE (oCl (qs_dot m00 m01 m02 hm00 hm01 hm02 v0 v1 v2 hv0 hv1 hv2)) <| wE (oXr ar45 1) <| wR (oLa sh44) <| wR (oLa sh44) <| wE (oCl (qs_dot m10 m11 m12 hm10 hm11 hm12 v0 v1 v2 hv0 hv1 hv2)) <| wE (oXr ar45 2) <| wR (oLa sh44) <| wR (oLa sh44) <| wE (oCl (qs_dot m20 m21 m22 hm20 hm21 hm22 v0 v1 v2 hv0 hv1 hv2)) <| wE (oBf ar44 ze44 zo44) <| wT (oSt sh44) <| wZ) ?_
  refine pwp_ret ⟨_, (res_a (cs := (bx (encA43 (A3.mk (ofQ (dot3 m00 m01 m02 v0 v1 v2)) (ofQ (dot3 m10 m11 m12 v0 v1 v2)) (ofQ (dot3 m20 m21 m22 v0 v1 v2)))))) (d := (encA43 (A3.mk (ofQ (dot3 m00 m01 m02 v0 v1 v2)) (ofQ (dot3 m10 m11 m12 v0 v1 v2)) (ofQ (dot3 m20 m21 m22 v0 v1 v2))))) rfl rfl sh44 rfl rfl .nil), ?_⟩
  rfl
theorem q_transp (m00 m01 m02 m10 m11 m12 m20 m21 m22 : Rat) (hm00 : QL m00 100000000) (hm01 : QL m01 100000000) (hm02 : QL m02 100000000) (hm10 : QL m10 100000000) (hm11 : QL m11 100000000) (hm12 : QL m12 100000000) (hm20 : QL m20 100000000) (hm21 : QL m21 100000000) (hm22 : QL m22 100000000) : Takes Tryz.prog 72 [(encA130 (A3.mk (A3.mk (ofQ m00) (ofQ m01) (ofQ m02)) (A3.mk (ofQ m10) (ofQ m11) (ofQ m12)) (A3.mk (ofQ m20) (ofQ m21) (ofQ m22))))] (encA130 (A3.mk (A3.mk (ofQ m00) (ofQ m10) (ofQ m20)) (A3.mk (ofQ m01) (ofQ m11) (ofQ m21)) (A3.mk (ofQ m02) (ofQ m12) (ofQ m22)))) := by
  let y8 := (A3.mk (ofQ m00) (ofQ m10) (ofQ m20))
  let y7 := (RRat.mk (RInt.mk false []) (RInt.mk false []))
  let y6 := (bx (encA130 (A3.mk (A3.mk (ofQ m00) (ofQ m01) (ofQ m02)) (A3.mk (ofQ m10) (ofQ m11) (ofQ m12)) (A3.mk (ofQ m20) (ofQ m21) (ofQ m22)))))
  let y5 := (A3.mk y7 y7 y7)
  let y4 := (bx (encA130 (A3.mk y8 (A3.mk (ofQ m01) (ofQ m11) (ofQ m21)) y5)))
  let y3 := (bx (encA130 (A3.mk y8 (A3.mk (ofQ m01) y7 y7) y5)))
  let y2 := (bx (encA130 (A3.mk (A3.mk (ofQ m00) (ofQ m10) y7) y5 y5)))
  let y1 := (bx (encA130 (A3.mk y5 y5 y5)))
  refine fn_intro Tryz.func72 rfl cb72 rfl ?_
  show PWp _ _ _ _ ⟨[(0, (.d (encA130 (A3.mk (A3.mk (ofQ m00) (ofQ m01) (ofQ m02)) (A3.mk (ofQ m10) (ofQ m11) (ofQ m12)) (A3.mk (ofQ m20) (ofQ m21) (ofQ m22))))))], []⟩
  refine pwp_seq <| kx [(1, (.ref 0 0)), (2, (.ref 1 0))] [(0, some y6), (1, some y1)] (zN (oBx 0) <| zN (oAl 1 ze131 zo131) <| zZ) ?_
  refine pwp_seq <| kx [(3, (.ref 2 0))] [(2, some y1)] (zN (oAl 2 ze131 zo131) <| zZ) ?_
  refine pwp_seq <| pwp_seq <| kx [(6, (vin 0))] [] (zM <| zZ) ?_
  refine pwp_block <| pwp_rounds 20 ?_
  refine pwp_round <| pwp_seq <| kx [(7, (vb true))] [] (zE (oBk true oLt) <| zZ) ?_
  refine pwp_seq <| pwp_cond (b := true) (by kernel_rfl) (fun _ => ?_) (fun h => by cases h)
  refine pwp_skip <| pwp_seq <| pwp_block <| pwp_seq <| kx [(4, (vin 0))] [] (zM <| zM <| zZ) ?_
  refine pwp_seq <| kx [(9, (vin 0))] [] (zM <| zZ) ?_
  refine pwp_block <| pwp_rounds 20 ?_
  refine pwp_round <| pwp_seq <| kx [(10, (vb true))] [] (zE (oBk true oLt) <| zZ) ?_
  refine pwp_seq <| pwp_cond (b := true) (by kernel_rfl) (fun _ => ?_) (fun h => by cases h)
  refine pwp_skip <| pwp_seq <| pwp_block <| pwp_seq <| kx [(5, (vin 0))] [] (zM <| zM <| zZ) ?_
  refine kd [] [(2, some (bx (encA130 (A3.mk (A3.mk (ofQ m00) y7 y7) y5 y5))))] mo (wM <| wM <| wM <| wM <| wE (oXr ar131 0) <| wE (oXr ar129 0) <| wR (oLa sh42) <| wE (oXr ar131 0) <| wE (oXr ar129 0) <| wT (oSt sh42) <| wZ) ?_
  refine kx [(9, (vin 1))] [] (zE (oAd 1 (hr := by decide)) <| zM <| zZ) ?_
  refine pwp_again (SimImp.refl _) ?_
  refine pwp_seq <| kx [(10, (vb true))] [] (zE (oBk true oLt) <| zZ) ?_
  refine pwp_seq <| pwp_cond (b := true) (by kernel_rfl) (fun _ => ?_) (fun h => by cases h)
  refine pwp_skip <| pwp_seq <| pwp_block <| pwp_seq <| kx [(5, (vin 1))] [] (zM <| zM <| zZ) ?_
  refine kd [] [(2, some y2)] mo (wM <| wM <| wM <| wM <| wE (oXr ar131 1) <| wE (oXr ar129 0) <| wR (oLa sh42) <| wE (oXr ar131 0) <| wE (oXr ar129 1) <| wT (oSt sh42) <| wZ) ?_
  refine kx [(9, (vin 2))] [] (zE (oAd 2 (hr := by decide)) <| zM <| zZ) ?_
  refine pwp_again (SimImp.refl _) ?_
  refine pwp_seq <| pwp_sim (wk (l := [(1, (.ref 0 0)), (2, (.ref 1 0)), (3, (.ref 2 0)), (4, (vin 0)), (6, (vin 0)), (9, (vin 2))]) (b := [(0, some y6), (1, some y1), (2, some y2)])) ?_
  refine kx [(10, (vb true))] [] (zE (oBk true oLt) <| zZ) ?_
  refine pwp_seq <| pwp_cond (b := true) (by kernel_rfl) (fun _ => ?_) (fun h => by cases h)
  refine pwp_skip <| pwp_seq <| pwp_block <| pwp_seq <| kx [(5, (vin 2))] [] (zM <| zM <| zZ) ?_
  refine kd [] [(2, some (bx (encA130 (A3.mk y8 y5 y5))))] mo (wM <| wM <| wM <| wM <| wE (oXr ar131 2) <| wE (oXr ar129 0) <| wR (oLa sh42) <| wE (oXr ar131 0) <| wE (oXr ar129 2) <| wT (oSt sh42) <| wZ) ?_
  refine kx [(9, (vin 3))] [] (zE (oAd 3 (hr := by decide)) <| zM <| zZ) ?_
  refine pwp_again (SimImp.refl _) ?_
  refine pwp_seq <| kx [(10, (vb false))] [] (zE (oBk false oLt) <| zZ) ?_
  refine pwp_seq <| pwp_cond (b := false) (by kernel_rfl) (fun h => by cases h) (fun _ => ?_)
  refine pwp_exit <| kx [(6, (vin 1))] [] (zE (oAd 1 (hr := by decide)) <| zM <| zZ) ?_
  refine pwp_again (SimImp.refl _) ?_
  refine pwp_seq <| kx [(7, (vb true))] [] (zE (oBk true oLt) <| zZ) ?_
  refine pwp_seq <| pwp_cond (b := true) (by kernel_rfl) (fun _ => ?_) (fun h => by cases h)
  refine pwp_skip <| pwp_seq <| pwp_block <| pwp_seq <| kx [(4, (vin 1))] [] (zM <| zM <| zZ) ?_
  refine pwp_seq <| kx [(9, (vin 0))] [] (zM <| zZ) ?_
  refine pwp_block <| pwp_rounds 20 ?_
  refine pwp_round <| pwp_seq <| kx [(10, (vb true))] [] (zE (oBk true oLt) <| zZ) ?_
  refine pwp_seq <| pwp_cond (b := true) (by kernel_rfl) (fun _ => ?_) (fun h => by cases h)
  refine pwp_skip <| pwp_seq <| pwp_block <| pwp_seq <| kx [(5, (vin 0))] [] (zM <| zM <| zZ) ?_
  refine kd [] [(2, some y3)] mo (wM <| wM <| wM <| wM <| wE (oXr ar131 0) <| wE (oXr ar129 1) <| wR (oLa sh42) <| wE (oXr ar131 1) <| wE (oXr ar129 0) <| wT (oSt sh42) <| wZ) ?_
  refine kx [(9, (vin 1))] [] (zE (oAd 1 (hr := by decide)) <| zM <| zZ) ?_
  refine pwp_again (SimImp.refl _) ?_
  refine pwp_seq <| kx [(10, (vb true))] [] (zE (oBk true oLt) <| zZ) ?_
  refine pwp_seq <| pwp_cond (b := true) (by kernel_rfl) (fun _ => ?_) (fun h => by cases h)
  refine pwp_skip <| pwp_seq <| pwp_block <| pwp_seq <| pwp_sim (wk (l := [(1, (.ref 0 0)), (2, (.ref 1 0)), (3, (.ref 2 0)), (4, (vin 1)), (6, (vin 1)), (9, (vin 1)), (10, (vb true))]) (b := [(0, some y6), (1, some y1), (2, some y3)])) ?_
  refine kx [(5, (vin 1))] [] (zM <| zM <| zZ) ?_
  refine kd [] [(2, some (bx (encA130 (A3.mk y8 (A3.mk (ofQ m01) (ofQ m11) y7) y5))))] mo (wM <| wM <| wM <| wM <| wE (oXr ar131 1) <| wE (oXr ar129 1) <| wR (oLa sh42) <| wE (oXr ar131 1) <| wE (oXr ar129 1) <| wT (oSt sh42) <| wZ) ?_
  refine kx [(9, (vin 2))] [] (zE (oAd 2 (hr := by decide)) <| zM <| zZ) ?_
  refine pwp_again (SimImp.refl _) ?_
  refine pwp_seq <| kx [(10, (vb true))] [] (zE (oBk true oLt) <| zZ) ?_
  refine pwp_seq <| pwp_cond (b := true) (by kernel_rfl) (fun _ => ?_) (fun h => by cases h)
  refine pwp_skip <| pwp_seq <| pwp_block <| pwp_seq <| kx [(5, (vin 2))] [] (zM <| zM <| zZ) ?_
  refine kd [] [(2, some y4)] mo (wM <| wM <| wM <| wM <| wE (oXr ar131 2) <| wE (oXr ar129 1) <| wR (oLa sh42) <| wE (oXr ar131 1) <| wE (oXr ar129 2) <| wT (oSt sh42) <| wZ) ?_
  refine kx [(9, (vin 3))] [] (zE (oAd 3 (hr := by decide)) <| zM <| zZ) ?_
  refine pwp_again (SimImp.refl _) ?_
  refine pwp_seq <| kx [(10, (vb false))] [] (zE (oBk false oLt) <| zZ) ?_
  refine pwp_seq <| pwp_cond (b := false) (by kernel_rfl) (fun h => by cases h) (fun _ => ?_)
  refine pwp_exit <| kx [(6, (vin 2))] [] (zE (oAd 2 (hr := by decide)) <| zM <| zZ) ?_
  refine pwp_again (SimImp.refl _) ?_
  refine pwp_seq <| kx [(7, (vb true))] [] (zE (oBk true oLt) <| zZ) ?_
  refine pwp_seq <| pwp_cond (b := true) (by kernel_rfl) (fun _ => ?_) (fun h => by cases h)
  refine pwp_skip <| pwp_seq <| pwp_block <| pwp_seq <| kx [(4, (vin 2))] [] (zM <| zM <| zZ) ?_
  refine pwp_seq <| kx [(9, (vin 0))] [] (zM <| zZ) ?_
  refine pwp_block <| pwp_rounds 20 ?_
  refine pwp_round <| pwp_seq <| kx [(10, (vb true))] [] (zE (oBk true oLt) <| zZ) ?_
  refine pwp_seq <| pwp_cond (b := true) (by kernel_rfl) (fun _ => ?_) (fun h => by cases h)
  refine pwp_skip <| pwp_seq <| pwp_block <| pwp_seq <| kx [(5, (vin 0))] [] (zM <| zM <| zZ) ?_
  refine pwp_sim (wk (l := [(1, (.ref 0 0)), (2, (.ref 1 0)), (3, (.ref 2 0)), (4, (vin 2)), (5, (vin 0)), (6, (vin 2)), (9, (vin 0))]) (b := [(0, some y6), (1, some y1), (2, some y4)])) ?_
  refine kd [] [(2, some (bx (encA130 (A3.mk y8 (A3.mk (ofQ m01) (ofQ m11) (ofQ m21)) (A3.mk (ofQ m02) y7 y7)))))] mo (wM <| wM <| wM <| wM <| wE (oXr ar131 0) <| wE (oXr ar129 2) <| wR (oLa sh42) <| wE (oXr ar131 2) <| wE (oXr ar129 0) <| wT (oSt sh42) <| wZ) ?_
  refine kx [(9, (vin 1))] [] (zE (oAd 1 (hr := by decide)) <| zM <| zZ) ?_
  refine pwp_again (SimImp.refl _) ?_
  refine pwp_seq <| kx [(10, (vb true))] [] (zE (oBk true oLt) <| zZ) ?_
  refine pwp_seq <| pwp_cond (b := true) (by kernel_rfl) (fun _ => ?_) (fun h => by cases h)
  refine pwp_skip <| pwp_seq <| pwp_block <| pwp_seq <| kx [(5, (vin 1))] [] (zM <| zM <| zZ) ?_
  refine kd [] [(2, some (bx (encA130 (A3.mk y8 (A3.mk (ofQ m01) (ofQ m11) (ofQ m21)) (A3.mk (ofQ m02) (ofQ m12) y7)))))] mo (wM <| wM <| wM <| wM <| wE (oXr ar131 1) <| wE (oXr ar129 2) <| wR (oLa sh42) <| wE (oXr ar131 2) <| wE (oXr ar129 1) <| wT (oSt sh42) <| wZ) ?_
  refine kx [(9, (vin 2))] [] (zE (oAd 2 (hr := by decide)) <| zM <| zZ) ?_
  refine pwp_again (SimImp.refl _) ?_
  refine pwp_seq <| kx [(10, (vb true))] [] (zE (oBk true oLt) <| zZ) ?_
  refine pwp_seq <| pwp_cond (b := true) (by kernel_rfl) (fun _ => ?_) (fun h => by cases h)
  refine pwp_skip <| pwp_seq <| pwp_block <| pwp_seq <| kx [(5, (vin 2))] [] (zM <| zM <| zZ) ?_
  refine kd [] [(2, some (bx (encA130 (A3.mk y8 (A3.mk (ofQ m01) (ofQ m11) (ofQ m21)) (A3.mk (ofQ m02) (ofQ m12) (ofQ m22))))))] mo (wM <| wM <| wM <| wM <| wE (oXr ar131 2) <| wE (oXr ar129 2) <| wR (oLa sh42) <| wE (oXr ar131 2) <| wE (oXr ar129 2) <| wT (oSt sh42) <| wZ) ?_
  refine kx [(9, (vin 3))] [] (zE (oAd 3 (hr := by decide)) <| zM <| zZ) ?_
  refine pwp_again (SimImp.refl _) ?_
  refine pwp_seq <| kx [(10, (vb false))] [] (zE (oBk false oLt) <| zZ) ?_
  refine pwp_seq <| pwp_cond (b := false) (by kernel_rfl) (fun h => by cases h) (fun _ => ?_)
  refine pwp_exit <| kx [(6, (vin 3))] [] (zE (oAd 3 (hr := by decide)) <| zM <| zZ) ?_
  refine pwp_again (SimImp.refl _) ?_
  refine pwp_seq <| kx [(7, (vb false))] [] (zE (oBk false oLt) <| zZ) ?_
  refine pwp_seq <| pwp_cond (b := false) (by kernel_rfl) (fun h => by cases h) (fun _ => ?_)
  refine pwp_exit <| pwp_seq <| kx [] [(1, some (bx (encA130 (A3.mk y8 (A3.mk (ofQ m01) (ofQ m11) (ofQ m21)) (A3.mk (ofQ m02) (ofQ m12) (ofQ m22))))))] (zR (oLa sh131) <| zT (oSt sh131) <| zZ) ?_
  refine pwp_ret ⟨_, (res_a (cs := (bx (encA130 (A3.mk (A3.mk (ofQ m00) (ofQ m10) (ofQ m20)) (A3.mk (ofQ m01) (ofQ m11) (ofQ m21)) (A3.mk (ofQ m02) (ofQ m12) (ofQ m22)))))) (d := (encA130 (A3.mk (A3.mk (ofQ m00) (ofQ m10) (ofQ m20)) (A3.mk (ofQ m01) (ofQ m11) (ofQ m21)) (A3.mk (ofQ m02) (ofQ m12) (ofQ m22))))) rfl rfl sh131 rfl rfl .nil), ?_⟩
  rfl
theorem q_mul (m00 m01 m02 m10 m11 m12 m20 m21 m22 : Rat) (hm00 : QL m00 10000000) (hm01 : QL m01 10000000) (hm02 : QL m02 10000000) (hm10 : QL m10 10000000) (hm11 : QL m11 10000000) (hm12 : QL m12 10000000) (hm20 : QL m20 10000000) (hm21 : QL m21 10000000) (hm22 : QL m22 10000000) (u00 u01 u02 u10 u11 u12 u20 u21 u22 : Rat) (hu00 : QL u00 10000000) (hu01 : QL u01 10000000) (hu02 : QL u02 10000000) (hu10 : QL u10 10000000) (hu11 : QL u11 10000000) (hu12 : QL u12 10000000) (hu20 : QL u20 10000000) (hu21 : QL u21 10000000) (hu22 : QL u22 10000000) : Takes Tryz.prog 70 [(encA130 (A3.mk (A3.mk (ofQ m00) (ofQ m01) (ofQ m02)) (A3.mk (ofQ m10) (ofQ m11) (ofQ m12)) (A3.mk (ofQ m20) (ofQ m21) (ofQ m22)))), (encA130 (A3.mk (A3.mk (ofQ u00) (ofQ u01) (ofQ u02)) (A3.mk (ofQ u10) (ofQ u11) (ofQ u12)) (A3.mk (ofQ u20) (ofQ u21) (ofQ u22))))] (encA130 (A3.mk (A3.mk (ofQ (dot3 u00 u10 u20 m00 m01 m02)) (ofQ (dot3 u01 u11 u21 m00 m01 m02)) (ofQ (dot3 u02 u12 u22 m00 m01 m02))) (A3.mk (ofQ (dot3 u00 u10 u20 m10 m11 m12)) (ofQ (dot3 u01 u11 u21 m10 m11 m12)) (ofQ (dot3 u02 u12 u22 m10 m11 m12))) (A3.mk (ofQ (dot3 u00 u10 u20 m20 m21 m22)) (ofQ (dot3 u01 u11 u21 m20 m21 m22)) (ofQ (dot3 u02 u12 u22 m20 m21 m22))))) := by
  let y6 := (A3.mk (ofQ (dot3 u00 u10 u20 m00 m01 m02)) (ofQ (dot3 u01 u11 u21 m00 m01 m02)) (ofQ (dot3 u02 u12 u22 m00 m01 m02)))
  let y5 := (encA130 (A3.mk (A3.mk (ofQ m00) (ofQ m01) (ofQ m02)) (A3.mk (ofQ m10) (ofQ m11) (ofQ m12)) (A3.mk (ofQ m20) (ofQ m21) (ofQ m22))))
  let y4 := (A3.mk (RRat.mk (RInt.mk false []) (RInt.mk false [])) (RRat.mk (RInt.mk false []) (RInt.mk false [])) (RRat.mk (RInt.mk false []) (RInt.mk false [])))
  let y3 := (bx (encA130 (A3.mk y6 (A3.mk (ofQ (dot3 u00 u10 u20 m10 m11 m12)) (ofQ (dot3 u01 u11 u21 m10 m11 m12)) (ofQ (dot3 u02 u12 u22 m10 m11 m12))) (A3.mk (ofQ (dot3 u00 u10 u20 m20 m21 m22)) (ofQ (dot3 u01 u11 u21 m20 m21 m22)) (ofQ (dot3 u02 u12 u22 m20 m21 m22))))))
  let y2 := (bx (encA130 (A3.mk y6 (A3.mk (ofQ (dot3 u00 u10 u20 m10 m11 m12)) (ofQ (dot3 u01 u11 u21 m10 m11 m12)) (ofQ (dot3 u02 u12 u22 m10 m11 m12))) y4)))
  let y1 := (bx (encA130 (A3.mk y4 y4 y4)))
  refine fn_intro Tryz.func70 rfl cb70 rfl ?_
  show PWp _ _ _ _ ⟨[(0, (.d y5)), (1, (.d (encA130 (A3.mk (A3.mk (ofQ u00) (ofQ u01) (ofQ u02)) (A3.mk (ofQ u10) (ofQ u11) (ofQ u12)) (A3.mk (ofQ u20) (ofQ u21) (ofQ u22))))))], []⟩
  refine pwp_seq <| kx [(2, (.ref 0 0)), (3, (.ref 1 0)), (4, (.ref 2 0))] [(0, some (bx y5)), (1, some (bx (encA130 (A3.mk (A3.mk (ofQ u00) (ofQ u01) (ofQ u02)) (A3.mk (ofQ u10) (ofQ u11) (ofQ u12)) (A3.mk (ofQ u20) (ofQ u21) (ofQ u22)))))), (2, some y1)] (zN (oBx 0) <| zN (oBx 1) <| zN (oAl 2 ze131 zo131) <| zZ) ?_
  refine pwp_seq <| kx [(5, (.ref 3 0))] [(3, some (bx (encA130 (A3.mk (A3.mk (ofQ u00) (ofQ u10) (ofQ u20)) (A3.mk (ofQ u01) (ofQ u11) (ofQ u21)) (A3.mk (ofQ u02) (ofQ u12) (ofQ u22))))))] (zR (oLa sh131) <| zE (oCl (q_transp u00 u01 u02 u10 u11 u12 u20 u21 u22 (ql_up hu00 (by decide)) (ql_up hu01 (by decide)) (ql_up hu02 (by decide)) (ql_up hu10 (by decide)) (ql_up hu11 (by decide)) (ql_up hu12 (by decide)) (ql_up hu20 (by decide)) (ql_up hu21 (by decide)) (ql_up hu22 (by decide)))) <| zN (oAl 3 ze131 zo131) <| zT (oSt sh131) <| zZ) ?_
  refine pwp_seq <| kx [(6, (.ref 4 0))] [(4, some y1)] (zN (oAl 4 ze131 zo131) <| zZ) ?_
  refine pwp_seq <| pwp_seq <| kx [(10, (vin 0))] [] (zM <| zZ) ?_
  refine pwp_block <| pwp_rounds 20 ?_
  refine pwp_round <| pwp_seq <| kx [(11, (vb true))] [] (zE (oBk true oLt) <| zZ) ?_
  refine pwp_seq <| pwp_cond (b := true) (by kernel_rfl) (fun _ => ?_) (fun h => by cases h)
  refine pwp_skip <| pwp_seq <| pwp_block <| pwp_seq <| kx [(7, (vin 0))] [] (zM <| zM <| zZ) ?_
  have bn1 : QL (dot3 u00 u10 u20 m00 m01 m02) 60000002 := (ql_dot3 (n := 10000000) (k := 60000002) hu00 hu10 hu20 hm00 hm01 hm02 (by decide))
  have bn2 : QL (dot3 u01 u11 u21 m00 m01 m02) 60000002 := (ql_dot3 (n := 10000000) (k := 60000002) hu01 hu11 hu21 hm00 hm01 hm02 (by decide))
  have bn3 : QL (dot3 u02 u12 u22 m00 m01 m02) 60000002 := (ql_dot3 (n := 10000000) (k := 60000002) hu02 hu12 hu22 hm00 hm01 hm02 (by decide))
  refine kd [] [(4, some (bx (encA130 (A3.mk y6 y4 y4))))] mo (wM <| wR (oLa sh131) <| wM <| wE (oXr ar131 0) <| wR (oLa sh129) <| wE (oCl (q_times u00 u10 u20 u01 u11 u21 u02 u12 u22 (ql_up hu00 (by decide)) (ql_up hu10 (by decide)) (ql_up hu20 (by decide)) (ql_up hu01 (by decide)) (ql_up hu11 (by decide)) (ql_up hu21 (by decide)) (ql_up hu02 (by decide)) (ql_up hu12 (by decide)) (ql_up hu22 (by decide)) m00 m01 m02 (ql_up hm00 (by decide)) (ql_up hm01 (by decide)) (ql_up hm02 (by decide)))) <| wE (oXr ar131 0) <| wT (oSt sh129) <| wZ) ?_
  refine kx [(10, (vin 1))] [] (zE (oAd 1 (hr := by decide)) <| zM <| zZ) ?_
  refine pwp_again (SimImp.refl _) ?_
  refine pwp_seq <| kx [(11, (vb true))] [] (zE (oBk true oLt) <| zZ) ?_
  refine pwp_seq <| pwp_cond (b := true) (by kernel_rfl) (fun _ => ?_) (fun h => by cases h)
  refine pwp_skip <| pwp_seq <| pwp_block <| pwp_seq <| kx [(7, (vin 1))] [] (zM <| zM <| zZ) ?_
  have bn4 : QL (dot3 u00 u10 u20 m10 m11 m12) 60000002 := (ql_dot3 (n := 10000000) (k := 60000002) hu00 hu10 hu20 hm10 hm11 hm12 (by decide))
  have bn5 : QL (dot3 u01 u11 u21 m10 m11 m12) 60000002 := (ql_dot3 (n := 10000000) (k := 60000002) hu01 hu11 hu21 hm10 hm11 hm12 (by decide))
  have bn6 : QL (dot3 u02 u12 u22 m10 m11 m12) 60000002 := (ql_dot3 (n := 10000000) (k := 60000002) hu02 hu12 hu22 hm10 hm11 hm12 (by decide))
  refine kd [] [(4, some y2)] mo (wM <| wR (oLa sh131) <| wM <| wE (oXr ar131 1) <| wR (oLa sh129) <| wE (oCl (q_times u00 u10 u20 u01 u11 u21 u02 u12 u22 (ql_up hu00 (by decide)) (ql_up hu10 (by decide)) (ql_up hu20 (by decide)) (ql_up hu01 (by decide)) (ql_up hu11 (by decide)) (ql_up hu21 (by decide)) (ql_up hu02 (by decide)) (ql_up hu12 (by decide)) (ql_up hu22 (by decide)) m10 m11 m12 (ql_up hm10 (by decide)) (ql_up hm11 (by decide)) (ql_up hm12 (by decide)))) <| wE (oXr ar131 1) <| wT (oSt sh129) <| wZ) ?_
  refine kx [(10, (vin 2))] [] (zE (oAd 2 (hr := by decide)) <| zM <| zZ) ?_
  refine pwp_again (SimImp.refl _) ?_
  refine pwp_seq <| kx [(11, (vb true))] [] (zE (oBk true oLt) <| zZ) ?_
  refine pwp_seq <| pwp_cond (b := true) (by kernel_rfl) (fun _ => ?_) (fun h => by cases h)
  refine pwp_skip <| pwp_seq <| pwp_block <| pwp_seq <| kx [(7, (vin 2))] [] (zM <| zM <| zZ) ?_
  refine pwp_sim (wk (l := [(2, (.ref 0 0)), (4, (.ref 2 0)), (5, (.ref 3 0)), (6, (.ref 4 0)), (7, (vin 2)), (10, (vin 2))]) (b := [(0, some (bx y5)), (2, some y1), (3, some (bx (encA130 (A3.mk (A3.mk (ofQ u00) (ofQ u10) (ofQ u20)) (A3.mk (ofQ u01) (ofQ u11) (ofQ u21)) (A3.mk (ofQ u02) (ofQ u12) (ofQ u22)))))), (4, some y2)])) ?_
  have bn7 : QL (dot3 u00 u10 u20 m20 m21 m22) 60000002 := (ql_dot3 (n := 10000000) (k := 60000002) hu00 hu10 hu20 hm20 hm21 hm22 (by decide))
  have bn8 : QL (dot3 u01 u11 u21 m20 m21 m22) 60000002 := (ql_dot3 (n := 10000000) (k := 60000002) hu01 hu11 hu21 hm20 hm21 hm22 (by decide))
  have bn9 : QL (dot3 u02 u12 u22 m20 m21 m22) 60000002 := (ql_dot3 (n := 10000000) (k := 60000002) hu02 hu12 hu22 hm20 hm21 hm22 (by decide))
  refine kd [] [(4, some y3)] mo (wM <| wR (oLa sh131) <| wM <| wE (oXr ar131 2) <| wR (oLa sh129) <| wE (oCl (q_times u00 u10 u20 u01 u11 u21 u02 u12 u22 (ql_up hu00 (by decide)) (ql_up hu10 (by decide)) (ql_up hu20 (by decide)) (ql_up hu01 (by decide)) (ql_up hu11 (by decide)) (ql_up hu21 (by decide)) (ql_up hu02 (by decide)) (ql_up hu12 (by decide)) (ql_up hu22 (by decide)) m20 m21 m22 (ql_up hm20 (by decide)) (ql_up hm21 (by decide)) (ql_up hm22 (by decide)))) <| wE (oXr ar131 2) <| wT (oSt sh129) <| wZ) ?_
  refine kx [(10, (vin 3))] [] (zE (oAd 3 (hr := by decide)) <| zM <| zZ) ?_
  refine pwp_again (SimImp.refl _) ?_
  refine pwp_seq <| kx [(11, (vb false))] [] (zE (oBk false oLt) <| zZ) ?_
  refine pwp_seq <| pwp_cond (b := false) (by kernel_rfl) (fun h => by cases h) (fun _ => ?_)
  refine pwp_exit <| pwp_seq <| kx [] [(2, some y3)] (zR (oLa sh131) <| zT (oSt sh131) <| zZ) ?_
  refine pwp_ret ⟨_, (res_a (cs := (bx (encA130 (A3.mk (A3.mk (ofQ (dot3 u00 u10 u20 m00 m01 m02)) (ofQ (dot3 u01 u11 u21 m00 m01 m02)) (ofQ (dot3 u02 u12 u22 m00 m01 m02))) (A3.mk (ofQ (dot3 u00 u10 u20 m10 m11 m12)) (ofQ (dot3 u01 u11 u21 m10 m11 m12)) (ofQ (dot3 u02 u12 u22 m10 m11 m12))) (A3.mk (ofQ (dot3 u00 u10 u20 m20 m21 m22)) (ofQ (dot3 u01 u11 u21 m20 m21 m22)) (ofQ (dot3 u02 u12 u22 m20 m21 m22))))))) (d := (encA130 (A3.mk (A3.mk (ofQ (dot3 u00 u10 u20 m00 m01 m02)) (ofQ (dot3 u01 u11 u21 m00 m01 m02)) (ofQ (dot3 u02 u12 u22 m00 m01 m02))) (A3.mk (ofQ (dot3 u00 u10 u20 m10 m11 m12)) (ofQ (dot3 u01 u11 u21 m10 m11 m12)) (ofQ (dot3 u02 u12 u22 m10 m11 m12))) (A3.mk (ofQ (dot3 u00 u10 u20 m20 m21 m22)) (ofQ (dot3 u01 u11 u21 m20 m21 m22)) (ofQ (dot3 u02 u12 u22 m20 m21 m22)))))) rfl rfl sh131 rfl rfl .nil), ?_⟩
  rfl
end Go.Proofs.YtbecgnplakngdaaGreat
namespace Go.Proofs.YtbecgnplakngdaaGreat
open Go.Fid
set_option maxRecDepth 4000
set_option linter.unusedVariables false
set_option linter.unusedSimpArgs false
theorem ar228 : arrB Tryz.prog 228 = some (4, 3, 1) := by kernel_rfl
theorem cb131 : callB Tryz.prog 131 = true := by kernel_rfl
theorem cb168 : callB Tryz.prog 168 = true := by kernel_rfl
theorem cb171 : callB Tryz.prog 171 = true := by kernel_rfl
theorem cb205 : callB Tryz.prog 205 = true := by kernel_rfl
theorem el74 : elemB Tryz.prog 74 = some (3, 1) := by kernel_rfl
theorem eqs25 : eqsB Tryz.prog 25 = some 4 := by kernel_rfl
theorem fo25_0 : fieldB Tryz.prog 25 0 = some 0 := by kernel_rfl
theorem fo25_1 : fieldB Tryz.prog 25 1 = some 1 := by kernel_rfl
theorem fo25_2 : fieldB Tryz.prog 25 2 = some 2 := by kernel_rfl
theorem fo25_3 : fieldB Tryz.prog 25 3 = some 3 := by kernel_rfl
theorem pl25 : placesB Tryz.prog 25 = some [(0, 1), (1, 1), (2, 1), (3, 1)] := by kernel_rfl
theorem sh25 : shapeB Tryz.prog 25 = some (true, 4) := by kernel_rfl
theorem sh228 : shapeB Tryz.prog 228 = some (true, 4) := by kernel_rfl
theorem ze25 : zeroB Tryz.prog 25 = some [.int .i64 0, .int .i64 0, .int .i64 0, .int .i64 0] := by kernel_rfl
theorem ze228 : zeroB Tryz.prog 228 = some [.int .i64 0, .int .i64 0, .int .i64 0, .int .i64 0] := by kernel_rfl
theorem zo25 : ZOk [.int .i64 0, .int .i64 0, .int .i64 0, .int .i64 0] [.val (.int .i64 0), .val (.int .i64 0), .val (.int .i64 0), .val (.int .i64 0)] := by simp [ZOk, Value.oneCell']
theorem zo228 : ZOk [.int .i64 0, .int .i64 0, .int .i64 0, .int .i64 0] [.val (.int .i64 0), .val (.int .i64 0), .val (.int .i64 0), .val (.int .i64 0)] := by simp [ZOk, Value.oneCell']
theorem q_parts (a b c d : Int) : Takes Tryz.prog 205 [(encQuat (RQuat.mk a b c d))] (encA228 (A4.mk a b c d)) := by
  refine fn_intro Tryz.func205 rfl cb205 rfl ?_
  show PWp _ _ _ _ ⟨[(0, (.d (encQuat (RQuat.mk a b c d))))], []⟩
  refine pwp_seq <| kx [(1, (.ref 0 0)), (2, (.ref 1 0))] [(0, some (bx (encQuat (RQuat.mk a b c d)))), (1, some (bx (encA228 (A4.mk 0 0 0 0))))] (zN (oBx 0) <| zN (oAl 1 ze228 zo228) <| zZ) ?_
  refine pwp_seq <| kx [] [(1, some (bx (encA228 (A4.mk a b c d))))] (zE (oFr fo25_0) <| zR (oL1 sh3) <| zE (oFr fo25_1) <| zR (oL1 sh3) <| zE (oFr fo25_2) <| zR (oL1 sh3) <| zE (oFr fo25_3) <| zR (oL1 sh3) <| zE (oBf ar228 ze228 zo228) <| zT (oSt sh228) <| zZ) ?_
  refine pwp_ret ⟨_, (res_a (cs := (bx (encA228 (A4.mk a b c d)))) (d := (encA228 (A4.mk a b c d))) rfl rfl sh228 rfl rfl .nil), ?_⟩
  rfl
theorem qs_list (a b c d : Int) : Takes Tryz.prog 171 [(encQuat (RQuat.mk a b c d))] (.sl 3 1 (List.map enc_i64 [a, b, c, d])) := by
  refine fn_intro Tryz.func171 rfl cb171 rfl ?_
  show PWp _ _ _ _ ⟨[(0, (.d (encQuat (RQuat.mk a b c d))))], []⟩
  refine pwp_seq <| kx [(1, (.ref 0 0))] [(0, some (bx (encQuat (RQuat.mk a b c d))))] (zN (oBx 0) <| zE (oNl 3 1) <| zZ) ?_
  refine pwp_seq <| kx [(2, (vl 3 1 enc_i64 [a, b, c, d]))] [] (zE (oFr fo25_0) <| zR (oL1 sh3) <| zE (oFr fo25_1) <| zR (oL1 sh3) <| zE (oFr fo25_2) <| zR (oL1 sh3) <| zE (oFr fo25_3) <| zR (oL1 sh3) <| zE (oBs el74 ze3 zo3) <| zM <| zZ) ?_
  refine pwp_ret ⟨_, (.tmp (d := (.sl 3 1 (List.map enc_i64 [a, b, c, d]))) rfl .nil), ?_⟩
  rfl
theorem q_chk (a b c d : Int) : Takes Tryz.prog 168 [(encQuat (RQuat.mk a b c d))] (.val (.int .i64 ((((rotC a b c d) : Nat) : Int)))) := by
  refine fn_intro Tryz.func168 rfl cb168 rfl ?_
  show PWp _ _ _ _ ⟨[(0, (.d (encQuat (RQuat.mk a b c d))))], []⟩
  refine pwp_seq <| kx [(1, (.ref 0 0))] [(0, some (bx (encQuat (RQuat.mk a b c d))))] (zN (oBx 0) <| zM <| zZ) ?_
  refine pwp_seq <| pwp_seq <| kx [(7, (vb (decide ([a, b, c, d] = [0, 0, 0, 0]))))] [] (zR (oLa sh25) <| zE (oBd pl25 ze25 zo25) <| zE (oEs eqs25 .i64 [a, b, c, d] [0, 0, 0, 0]) <| zZ) ?_
  refine pwp_cond (b := (decide ([a, b, c, d] = [0, 0, 0, 0]))) rfl (fun h1 => ?_) (fun h1 => ?_)
  · replace h1 := of_decide_eq_true h1
    refine pwp_seq <| kx [(2, (vin 1))] [] (zM <| zZ) ?_
    refine pwp_ret ⟨_, (.tmp (d := (.val (.int .i64 (((1 : Nat) : Int))))) rfl .nil), ?_⟩
    rw [rotC_z (by simp_all)]; rfl
  · replace h1 := of_decide_eq_false h1
    refine pwp_skip <| pwp_seq <| pwp_seq <| kx [(9, (.d (encA228 (A4.mk a b c d)))), (10, (vin 0))] [] (zR (oLa sh25) <| zE (oCl (q_parts a b c d)) <| zM <| zZ) ?_
    refine pwp_block <| pwp_rounds 20 ?_
    refine pwp_round <| pwp_seq <| kx [(11, (vb true))] [] (zE (oBk true oLt) <| zZ) ?_
    refine pwp_seq <| pwp_cond (b := true) (by kernel_rfl) (fun _ => ?_) (fun h => by cases h)
    refine pwp_skip <| pwp_seq <| pwp_block <| pwp_seq <| kx [(4, (vi a))] [] (zE (oXa ar228 sh3 (fun _ => rfl) 0) <| zM <| zZ) ?_
    refine pwp_seq <| kx [(18, (vb (decide (a < -1048576) || decide (((1048576 : Nat) : Int) < a))))] [] ?_ ?_
    · refine zM <| zE oLt <| zE (oV (vb (decide (a < -1048576))) (mv_ok (by kernel_rfl))) <| ?_
      rcases hb2 : (decide (a < -1048576)) with _ | _
      · replace hb2 := of_decide_eq_false hb2
        exact zM <| zE oGt <| zE oPo <| zZ
      · replace hb2 := of_decide_eq_true hb2
        exact zK <| zK <| zE oPt <| zZ
    refine pwp_cond rfl (fun h3 => ?_) (fun h3 => ?_)
    · refine pwp_seq <| kx [(2, (vin 3))] [] (zM <| zZ) ?_
      refine pwp_ret ⟨_, (.tmp (d := (.val (.int .i64 (((3 : Nat) : Int))))) rfl .nil), ?_⟩
      first | (rw [rotC_l (by simp_all) (by first | (simp_all; done) | (simp_all; omega))]; rfl) | (rw [rotC_0 (by simp_all) (by first | (simp_all; done) | (simp_all; omega))]; rfl)
    · refine pwp_skip <| kx [(10, (vin 1))] [] (zE (oAd 1 (hr := by decide)) <| zM <| zZ) ?_
      refine pwp_again (SimImp.refl _) ?_
      refine pwp_seq <| kx [(11, (vb true))] [] (zE (oBk true oLt) <| zZ) ?_
      refine pwp_seq <| pwp_cond (b := true) (by kernel_rfl) (fun _ => ?_) (fun h => by cases h)
      refine pwp_skip <| pwp_seq <| pwp_block <| pwp_seq <| kx [(4, (vi b))] [] (zE (oXa ar228 sh3 (fun _ => rfl) 1) <| zM <| zZ) ?_
      refine pwp_seq <| kx [(18, (vb (decide (b < -1048576) || decide (((1048576 : Nat) : Int) < b))))] [] ?_ ?_
      · refine zM <| zE oLt <| zE (oV (vb (decide (b < -1048576))) (mv_ok (by kernel_rfl))) <| ?_
        rcases hb4 : (decide (b < -1048576)) with _ | _
        · replace hb4 := of_decide_eq_false hb4
          exact zM <| zE oGt <| zE oPo <| zZ
        · replace hb4 := of_decide_eq_true hb4
          exact zK <| zK <| zE oPt <| zZ
      refine pwp_cond rfl (fun h5 => ?_) (fun h5 => ?_)
      · refine pwp_seq <| kx [(2, (vin 3))] [] (zM <| zZ) ?_
        refine pwp_ret ⟨_, (.tmp (d := (.val (.int .i64 (((3 : Nat) : Int))))) rfl .nil), ?_⟩
        first | (rw [rotC_l (by simp_all) (by first | (simp_all; done) | (simp_all; omega))]; rfl) | (rw [rotC_0 (by simp_all) (by first | (simp_all; done) | (simp_all; omega))]; rfl)
      · refine pwp_skip <| kx [(10, (vin 2))] [] (zE (oAd 2 (hr := by decide)) <| zM <| zZ) ?_
        refine pwp_again (SimImp.refl _) ?_
        refine pwp_seq <| kx [(11, (vb true))] [] (zE (oBk true oLt) <| zZ) ?_
        refine pwp_seq <| pwp_cond (b := true) (by kernel_rfl) (fun _ => ?_) (fun h => by cases h)
        refine pwp_skip <| pwp_seq <| pwp_block <| pwp_seq <| kx [(4, (vi c))] [] (zE (oXa ar228 sh3 (fun _ => rfl) 2) <| zM <| zZ) ?_
        refine pwp_seq <| kx [(18, (vb (decide (c < -1048576) || decide (((1048576 : Nat) : Int) < c))))] [] ?_ ?_
        · refine zM <| zE oLt <| zE (oV (vb (decide (c < -1048576))) (mv_ok (by kernel_rfl))) <| ?_
          rcases hb6 : (decide (c < -1048576)) with _ | _
          · replace hb6 := of_decide_eq_false hb6
            exact zM <| zE oGt <| zE oPo <| zZ
          · replace hb6 := of_decide_eq_true hb6
            exact zK <| zK <| zE oPt <| zZ
        refine pwp_cond rfl (fun h7 => ?_) (fun h7 => ?_)
        · refine pwp_seq <| pwp_sim (wk (l := [(9, (.d (encA228 (A4.mk a b c d)))), (10, (vin 2)), (18, (vb (decide (c < -1048576) || decide (((1048576 : Nat) : Int) < c))))]) (b := [])) ?_
          refine kx [(2, (vin 3))] [] (zM <| zZ) ?_
          refine pwp_ret ⟨_, (.tmp (d := (.val (.int .i64 (((3 : Nat) : Int))))) rfl .nil), ?_⟩
          first | (rw [rotC_l (by simp_all) (by first | (simp_all; done) | (simp_all; omega))]; rfl) | (rw [rotC_0 (by simp_all) (by first | (simp_all; done) | (simp_all; omega))]; rfl)
        · refine pwp_skip <| pwp_sim (wk (l := [(9, (.d (encA228 (A4.mk a b c d)))), (10, (vin 2)), (18, (vb (decide (c < -1048576) || decide (((1048576 : Nat) : Int) < c))))]) (b := [])) ?_
          refine kx [(10, (vin 3))] [] (zE (oAd 3 (hr := by decide)) <| zM <| zZ) ?_
          refine pwp_again (SimImp.refl _) ?_
          refine pwp_seq <| kx [(11, (vb true))] [] (zE (oBk true oLt) <| zZ) ?_
          refine pwp_seq <| pwp_cond (b := true) (by kernel_rfl) (fun _ => ?_) (fun h => by cases h)
          refine pwp_skip <| pwp_seq <| pwp_block <| pwp_seq <| kx [(4, (vi d))] [] (zE (oXa ar228 sh3 (fun _ => rfl) 3) <| zM <| zZ) ?_
          refine pwp_seq <| kx [(18, (vb (decide (d < -1048576) || decide (((1048576 : Nat) : Int) < d))))] [] ?_ ?_
          · refine zM <| zE oLt <| zE (oV (vb (decide (d < -1048576))) (mv_ok (by kernel_rfl))) <| ?_
            rcases hb8 : (decide (d < -1048576)) with _ | _
            · replace hb8 := of_decide_eq_false hb8
              exact zM <| zE oGt <| zE oPo <| zZ
            · replace hb8 := of_decide_eq_true hb8
              exact zK <| zK <| zE oPt <| zZ
          refine pwp_cond rfl (fun h9 => ?_) (fun h9 => ?_)
          · refine pwp_seq <| kx [(2, (vin 3))] [] (zM <| zZ) ?_
            refine pwp_ret ⟨_, (.tmp (d := (.val (.int .i64 (((3 : Nat) : Int))))) rfl .nil), ?_⟩
            first | (rw [rotC_l (by simp_all) (by first | (simp_all; done) | (simp_all; omega))]; rfl) | (rw [rotC_0 (by simp_all) (by first | (simp_all; done) | (simp_all; omega))]; rfl)
          · refine pwp_skip <| kx [(10, (vin 4))] [] (zE (oAd 4 (hr := by decide)) <| zM <| zZ) ?_
            refine pwp_again (SimImp.refl _) ?_
            refine pwp_seq <| kx [(11, (vb false))] [] (zE (oBk false oLt) <| zZ) ?_
            refine pwp_seq <| pwp_cond (b := false) (by kernel_rfl) (fun h => by cases h) (fun _ => ?_)
            refine pwp_exit <| pwp_seq <| kx [(2, (vin 0))] [] (zM <| zZ) ?_
            refine pwp_ret ⟨_, (.tmp (d := (.val (.int .i64 (((0 : Nat) : Int))))) rfl .nil), ?_⟩
            first | (rw [rotC_l (by simp_all) (by first | (simp_all; done) | (simp_all; omega))]; rfl) | (rw [rotC_0 (by simp_all) (by first | (simp_all; done) | (simp_all; omega))]; rfl)
theorem qs_chk (a b c d : Int) : Takes Tryz.prog 131 [(encQuat (RQuat.mk a b c d))] (.val (.int .i64 ((((rotC a b c d) : Nat) : Int)))) := by
  refine fn_intro Tryz.func131 rfl cb131 rfl ?_
  show PWp _ _ _ _ ⟨[(0, (.d (encQuat (RQuat.mk a b c d))))], []⟩
  refine pwp_seq <| kx [(1, (.ref 0 0))] [(0, some (bx (encQuat (RQuat.mk a b c d))))] (zN (oBx 0) <| zM <| zZ) ?_
  refine pwp_seq <| pwp_seq <| kx [(22, (vb ((((a == ((0 : Nat) : Int)) && (b == ((0 : Nat) : Int))) && (c == ((0 : Nat) : Int))) && (d == ((0 : Nat) : Int)))))] [] ?_ ?_
  · refine zE (oFr fo25_0) <| zR (oL1 sh3) <| zE oEq <| zE (oV (vb (a == ((0 : Nat) : Int))) (mv_ok (by kernel_rfl))) <| ?_
    rcases hb1 : (a == ((0 : Nat) : Int)) with _ | _
    · replace hb1 := ne_of_beq_false hb1
      exact zK <| zK <| zK <| zE oPf <| zM <| zK <| zK <| zK <| zE oPf <| zM <| zK <| zK <| zK <| zE oPf <| zZ
    · replace hb1 := eq_of_beq hb1
      refine zE (oFr fo25_1) <| zR (oL1 sh3) <| zE oEq <| zE oPa <| zE (oV (vb (true && (b == ((0 : Nat) : Int)))) (mv_ok (by kernel_rfl))) <| ?_
      rcases hb2 : (true && (b == ((0 : Nat) : Int))) with _ | _
      · exact zK <| zK <| zK <| zE oPf <| zM <| zK <| zK <| zK <| zE oPf <| zZ
      · refine zE (oFr fo25_2) <| zR (oL1 sh3) <| zE oEq <| zE oPa <| zE (oV (vb (true && (c == ((0 : Nat) : Int)))) (mv_ok (by kernel_rfl))) <| ?_
        rcases hb3 : (true && (c == ((0 : Nat) : Int))) with _ | _
        · exact zK <| zK <| zK <| zE oPf <| zZ
        · exact zE (oFr fo25_3) <| zR (oL1 sh3) <| zE oEq <| zE oPa <| zZ
  refine pwp_cond rfl (fun h4 => ?_) (fun h4 => ?_)
  · refine pwp_seq <| kx [(2, (vin 1))] [] (zM <| zZ) ?_
    refine pwp_ret ⟨_, (.tmp (d := (.val (.int .i64 (((1 : Nat) : Int))))) rfl .nil), ?_⟩
    rw [rotC_z (by simp_all)]; rfl
  · refine pwp_skip <| pwp_seq <| kx [(3, (vl 3 1 enc_i64 [a, b, c, d]))] [] (zR (oLa sh25) <| zE (oCl (qs_list a b c d)) <| zM <| zZ) ?_
    refine pwp_seq <| pwp_seq <| kx [(4, (vin 0))] [] (zM <| zZ) ?_
    refine pwp_block <| pwp_rounds 20 ?_
    refine pwp_round <| pwp_seq <| pwp_seq <| kx [(26, (vb true))] [] (zM <| zE (oBk true oLt) <| zZ) ?_
    refine pwp_cond (b := true) (by kernel_rfl) (fun _ => ?_) (fun h => by cases h)
    refine pwp_skip <| pwp_seq <| pwp_block <| pwp_seq <| kx [(40, (vb (decide (((1048576 : Nat) : Int) < a) || decide (a < -1048576))))] [] ?_ ?_
    · refine zM <| zM <| zE (oXs el74 0) <| zE (oC1 sh3) <| zE oGt <| zE (oV (vb (decide (((1048576 : Nat) : Int) < a))) (mv_ok (by kernel_rfl))) <| ?_
      rcases hb5 : (decide (((1048576 : Nat) : Int) < a)) with _ | _
      · replace hb5 := of_decide_eq_false hb5
        exact zM <| zM <| zE (oXs el74 0) <| zE (oC1 sh3) <| zE oLt <| zE oPo <| zZ
      · replace hb5 := of_decide_eq_true hb5
        exact zK <| zK <| zK <| zK <| zK <| zE oPt <| zZ
    refine pwp_cond rfl (fun h6 => ?_) (fun h6 => ?_)
    · refine pwp_seq <| kx [(2, (vin 3))] [] (zM <| zZ) ?_
      refine pwp_ret ⟨_, (.tmp (d := (.val (.int .i64 (((3 : Nat) : Int))))) rfl .nil), ?_⟩
      first | (rw [rotC_l (by simp_all) (by first | (simp_all; done) | (simp_all; omega))]; rfl) | (rw [rotC_0 (by simp_all) (by first | (simp_all; done) | (simp_all; omega))]; rfl)
    · refine pwp_skip <| kx [(4, (vin 1))] [] (zM <| zE (oAd 1 (hr := by decide)) <| zM <| zZ) ?_
      refine pwp_again (SimImp.refl _) ?_
      refine pwp_seq <| pwp_seq <| kx [(26, (vb true))] [] (zM <| zE (oBk true oLt) <| zZ) ?_
      refine pwp_cond (b := true) (by kernel_rfl) (fun _ => ?_) (fun h => by cases h)
      refine pwp_skip <| pwp_seq <| pwp_block <| pwp_seq <| kx [(40, (vb (decide (((1048576 : Nat) : Int) < b) || decide (b < -1048576))))] [] ?_ ?_
      · refine zM <| zM <| zE (oXs el74 1) <| zE (oC1 sh3) <| zE oGt <| zE (oV (vb (decide (((1048576 : Nat) : Int) < b))) (mv_ok (by kernel_rfl))) <| ?_
        rcases hb7 : (decide (((1048576 : Nat) : Int) < b)) with _ | _
        · replace hb7 := of_decide_eq_false hb7
          exact zM <| zM <| zE (oXs el74 1) <| zE (oC1 sh3) <| zE oLt <| zE oPo <| zZ
        · replace hb7 := of_decide_eq_true hb7
          exact zK <| zK <| zK <| zK <| zK <| zE oPt <| zZ
      refine pwp_cond rfl (fun h8 => ?_) (fun h8 => ?_)
      · refine pwp_seq <| kx [(2, (vin 3))] [] (zM <| zZ) ?_
        refine pwp_ret ⟨_, (.tmp (d := (.val (.int .i64 (((3 : Nat) : Int))))) rfl .nil), ?_⟩
        first | (rw [rotC_l (by simp_all) (by first | (simp_all; done) | (simp_all; omega))]; rfl) | (rw [rotC_0 (by simp_all) (by first | (simp_all; done) | (simp_all; omega))]; rfl)
      · refine pwp_skip <| kx [(4, (vin 2))] [] (zM <| zE (oAd 2 (hr := by decide)) <| zM <| zZ) ?_
        refine pwp_again (SimImp.refl _) ?_
        refine pwp_seq <| pwp_seq <| kx [(26, (vb true))] [] (zM <| zE (oBk true oLt) <| zZ) ?_
        refine pwp_cond (b := true) (by kernel_rfl) (fun _ => ?_) (fun h => by cases h)
        refine pwp_skip <| pwp_seq <| pwp_block <| pwp_seq <| kx [(40, (vb (decide (((1048576 : Nat) : Int) < c) || decide (c < -1048576))))] [] ?_ ?_
        · refine zM <| zM <| zE (oXs el74 2) <| zE (oC1 sh3) <| zE oGt <| zE (oV (vb (decide (((1048576 : Nat) : Int) < c))) (mv_ok (by kernel_rfl))) <| ?_
          rcases hb9 : (decide (((1048576 : Nat) : Int) < c)) with _ | _
          · replace hb9 := of_decide_eq_false hb9
            exact zM <| zM <| zE (oXs el74 2) <| zE (oC1 sh3) <| zE oLt <| zE oPo <| zZ
          · replace hb9 := of_decide_eq_true hb9
            exact zK <| zK <| zK <| zK <| zK <| zE oPt <| zZ
        refine pwp_cond rfl (fun h10 => ?_) (fun h10 => ?_)
        · refine pwp_seq <| kx [(2, (vin 3))] [] (zM <| zZ) ?_
          refine pwp_ret ⟨_, (.tmp (d := (.val (.int .i64 (((3 : Nat) : Int))))) rfl .nil), ?_⟩
          first | (rw [rotC_l (by simp_all) (by first | (simp_all; done) | (simp_all; omega))]; rfl) | (rw [rotC_0 (by simp_all) (by first | (simp_all; done) | (simp_all; omega))]; rfl)
        · refine pwp_skip <| kx [(4, (vin 3))] [] (zM <| zE (oAd 3 (hr := by decide)) <| zM <| zZ) ?_
          refine pwp_again (SimImp.refl _) ?_
          refine pwp_seq <| pwp_seq <| kx [(26, (vb true))] [] (zM <| zE (oBk true oLt) <| zZ) ?_
          refine pwp_cond (b := true) (by kernel_rfl) (fun _ => ?_) (fun h => by cases h)
          refine pwp_skip <| pwp_seq <| pwp_block <| pwp_seq <| pwp_sim (wk (l := [(3, (vl 3 1 enc_i64 [a, b, c, d])), (4, (vin 3)), (26, (vb true))]) (b := [])) ?_
          refine kx [(40, (vb (decide (((1048576 : Nat) : Int) < d) || decide (d < -1048576))))] [] ?_ ?_
          · refine zM <| zM <| zE (oXs el74 3) <| zE (oC1 sh3) <| zE oGt <| zE (oV (vb (decide (((1048576 : Nat) : Int) < d))) (mv_ok (by kernel_rfl))) <| ?_
            rcases hb11 : (decide (((1048576 : Nat) : Int) < d)) with _ | _
            · replace hb11 := of_decide_eq_false hb11
              exact zM <| zM <| zE (oXs el74 3) <| zE (oC1 sh3) <| zE oLt <| zE oPo <| zZ
            · replace hb11 := of_decide_eq_true hb11
              exact zK <| zK <| zK <| zK <| zK <| zE oPt <| zZ
          refine pwp_cond rfl (fun h12 => ?_) (fun h12 => ?_)
          · refine pwp_seq <| kx [(2, (vin 3))] [] (zM <| zZ) ?_
            refine pwp_ret ⟨_, (.tmp (d := (.val (.int .i64 (((3 : Nat) : Int))))) rfl .nil), ?_⟩
            first | (rw [rotC_l (by simp_all) (by first | (simp_all; done) | (simp_all; omega))]; rfl) | (rw [rotC_0 (by simp_all) (by first | (simp_all; done) | (simp_all; omega))]; rfl)
          · refine pwp_skip <| kx [(4, (vin 4))] [] (zM <| zE (oAd 4 (hr := by decide)) <| zM <| zZ) ?_
            refine pwp_again (SimImp.refl _) ?_
            refine pwp_seq <| pwp_seq <| kx [(26, (vb false))] [] (zM <| zE (oBk false oLt) <| zZ) ?_
            refine pwp_cond (b := false) (by kernel_rfl) (fun h => by cases h) (fun _ => ?_)
            refine pwp_exit <| pwp_seq <| kx [(2, (vin 0))] [] (zM <| zZ) ?_
            refine pwp_ret ⟨_, (.tmp (d := (.val (.int .i64 (((0 : Nat) : Int))))) rfl .nil), ?_⟩
            first | (rw [rotC_l (by simp_all) (by first | (simp_all; done) | (simp_all; omega))]; rfl) | (rw [rotC_0 (by simp_all) (by first | (simp_all; done) | (simp_all; omega))]; rfl)
end Go.Proofs.YtbecgnplakngdaaGreat
set_option linter.unusedVariables false
set_option linter.unusedSimpArgs false
namespace Go.Fid
inductive LOk (n : Nat) : List RInt → List Int → Prop
  | nil : LOk n [] []
  | cons {x : RInt} {z : Int} {l : List RInt} {zs : List Int} (h : IOk x z n) (t : LOk n l zs) : LOk n (x :: l) (z :: zs)
theorem iok_nilN (n : Nat) : IOk ⟨false, []⟩ 0 n := ⟨by decide, Nat.zero_le _⟩
theorem LOk.len {n : Nat} {l : List RInt} {zs : List Int} (h : LOk n l zs) : l.length = zs.length := by
  induction h with
  | nil => rfl
  | cons h t ih => simp [ih]
theorem LOk.get {n : Nat} {l : List RInt} {zs : List Int} (h : LOk n l zs) (i : Nat) : IOk (l.getD i ⟨false, []⟩) (zs.getD i 0) n := by
  induction h generalizing i with
  | nil => exact iok_nilN n
  | cons h t ih =>
    rcases i with _ | i
    · exact h
    · exact ih i
theorem LOk.all {n : Nat} {l : List RInt} {zs : List Int} (h : LOk n l zs) : ∀ z ∈ zs, lenZ z ≤ n := by
  induction h with
  | nil => simp
  | cons h t ih =>
    intro z hz
    rcases List.mem_cons.1 hz with rfl | hz
    · exact h.ln
    · exact ih z hz
theorem LOk.up {m n : Nat} {l : List RInt} {zs : List Int} (h : LOk m l zs) (hm : m ≤ n) : LOk n l zs := by
  induction h with
  | nil => exact .nil
  | cons h t ih => exact .cons (iok_up h hm) ih
theorem signI_ne {z : Int} (h : z ≠ 0) : signI z ≠ 0 := by
  unfold signI; split <;> (try split) <;> omega
theorem LOk.map {n : Nat} {l : List RInt} {zs : List Int} (h : LOk n l zs) : l.map toZ = zs := by
  induction h with
  | nil => rfl
  | cons h t ih => rw [List.map_cons, ih, h.v]
theorem iok_eqz {x y : Int} {n : Nat} (h : x = y) (k : IOk (ofZ y) y n) : IOk (ofZ x) x n := h ▸ k
theorem all_nil {l : List RInt} (h : ∀ x ∈ l, x = RInt.mk false []) (i : Nat) : l.getD i (RInt.mk false []) = RInt.mk false [] := by
  rw [List.getD]
  cases hj : l[i]? with
  | none => rfl
  | some q => exact h q (List.mem_of_getElem? hj)
end Go.Fid
