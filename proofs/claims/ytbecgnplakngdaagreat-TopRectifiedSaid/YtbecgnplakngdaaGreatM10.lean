/- Part 10 of a proof: rules, plain facts, and functions walked. -/
import Derived.Test.YtbecgnplakngdaaGreatM9
import Derived.Test.YtbecgnplakngdaaGreatM8
namespace Go.Proofs.YtbecgnplakngdaaGreat
open Go.Fid
set_option maxRecDepth 4000
set_option linter.unusedVariables false
set_option linter.unusedSimpArgs false
theorem ar203 : arrB Tryz.prog 203 = some (3, 3, 1) := by kernel_rfl
theorem ar204 : arrB Tryz.prog 204 = some (3, 203, 3) := by kernel_rfl
theorem by42 : bytesB Tryz.prog 42 = some 64 := by kernel_rfl
theorem by52 : bytesB Tryz.prog 52 = some 24 := by kernel_rfl
theorem cb124 : callB Tryz.prog 124 = true := by kernel_rfl
theorem cb129 : callB Tryz.prog 129 = true := by kernel_rfl
theorem el34 : elemB Tryz.prog 34 = some (52, 1) := by kernel_rfl
theorem sh203 : shapeB Tryz.prog 203 = some (true, 3) := by kernel_rfl
theorem sh204 : shapeB Tryz.prog 204 = some (true, 9) := by kernel_rfl
theorem ze52 : zeroB Tryz.prog 52 = some [.slice none 0 0] := by kernel_rfl
theorem ze203 : zeroB Tryz.prog 203 = some [.int .i64 0, .int .i64 0, .int .i64 0] := by kernel_rfl
theorem ze204 : zeroB Tryz.prog 204 = some [.int .i64 0, .int .i64 0, .int .i64 0, .int .i64 0, .int .i64 0, .int .i64 0, .int .i64 0, .int .i64 0, .int .i64 0] := by kernel_rfl
theorem zo52 : ZOk [.slice none 0 0] [.sl 42 4 []] := by simp [ZOk, Value.oneCell']
theorem zo203 : ZOk [.int .i64 0, .int .i64 0, .int .i64 0] [.val (.int .i64 0), .val (.int .i64 0), .val (.int .i64 0)] := by simp [ZOk, Value.oneCell']
theorem zo204 : ZOk [.int .i64 0, .int .i64 0, .int .i64 0, .int .i64 0, .int .i64 0, .int .i64 0, .int .i64 0, .int .i64 0, .int .i64 0] [.val (.int .i64 0), .val (.int .i64 0), .val (.int .i64 0), .val (.int .i64 0), .val (.int .i64 0), .val (.int .i64 0), .val (.int .i64 0), .val (.int .i64 0), .val (.int .i64 0)] := by simp [ZOk, Value.oneCell']
theorem q_of (n : Int) (hnl : -9223372036854775808 ≤ n) (hnh : n ≤ 9223372036854775807) (d : Int) (hdl : -9223372036854775808 ≤ d) (hdh : d ≤ 9223372036854775807) (hd : d ≠ 0) : Takes Tryz.prog 124 [(.val (.int .i64 (n))), (.val (.int .i64 (d)))] (.tup [(encR (ofQ (Rat.divInt n d))), (.val (.int .i64 (0)))]) := by
  refine fn_intro Tryz.func124 rfl cb124 rfl ?_
  show PWp _ _ _ _ ⟨[(0, (vi n)), (1, (vi d))], []⟩
  refine pwp_seq <| kx [(4, (.ref 0 0))] [(0, some (bx (encR (RRat.mk (RInt.mk false []) (RInt.mk false [])))))] (zN (oAl 0 ze42 zo42) <| zM <| zZ) ?_
  refine pwp_seq <| kx [(5, (vi 0))] [(0, some (bx (encR (ofQ (Rat.divInt n d)))))] (zM <| zE (oCl (t_of n (by omega) (by omega))) <| zM <| zE (oCl (t_of d (by omega) (by omega))) <| zE (oCl (f_newO (ofZ n) n (iok_up (iok_int (z := n) (by omega) (by omega)) (by decide)) (ofZ d) d (iok_up (iok_int (z := d) (by omega) (by omega)) (by decide)) hd)) <| zE oEx <| zE oEx <| zT (oSt sh42) <| zM <| zZ) ?_
  refine pwp_ret ⟨_, (res_a (cs := (bx (encR (ofQ (Rat.divInt n d))))) (d := (encR (ofQ (Rat.divInt n d)))) rfl rfl sh42 rfl rfl (.tmp (d := (.val (.int .i64 (0)))) rfl .nil)), ?_⟩
  rfl
theorem qs_of (n : Int) (hnl : -9223372036854775808 ≤ n) (hnh : n ≤ 9223372036854775807) (d : Int) (hdl : -9223372036854775808 ≤ d) (hdh : d ≤ 9223372036854775807) (hd : d ≠ 0) : Takes Tryz.prog 63 [(.val (.int .i64 (n))), (.val (.int .i64 (d)))] (.tup [(encR (ofQ (Rat.divInt n d))), (.val (.int .i64 (0)))]) := by
  refine fn_intro Tryz.func63 rfl cb63 rfl ?_
  show PWp _ _ _ _ ⟨[(0, (vi n)), (1, (vi d))], []⟩
  refine pwp_seq <| kx [(4, (.ref 0 0))] [(0, some (bx (encR (RRat.mk (RInt.mk false []) (RInt.mk false [])))))] (zN (oAl 0 ze42 zo42) <| zM <| zZ) ?_
  refine pwp_seq <| kx [(5, (vi 0))] [(0, some (bx (encR (ofQ (Rat.divInt n d)))))] (zM <| zE (oCl (g_whole1 n (by omega) (by omega))) <| zM <| zE (oCl (g_whole1 d (by omega) (by omega))) <| zE (oCl (g_newO (ofZ n) n (iok_up (iok_int (z := n) (by omega) (by omega)) (by decide)) (ofZ d) d (iok_up (iok_int (z := d) (by omega) (by omega)) (by decide)) hd)) <| zE oEx <| zE oEx <| zT (oSt sh42) <| zM <| zZ) ?_
  refine pwp_ret ⟨_, (res_a (cs := (bx (encR (ofQ (Rat.divInt n d))))) (d := (encR (ofQ (Rat.divInt n d)))) rfl rfl sh42 rfl rfl (.tmp (d := (.val (.int .i64 (0)))) rfl .nil)), ?_⟩
  rfl
theorem q_rmat (a b c d : Int) (ha : -1048576 ≤ a ∧ a ≤ 1048576) (hb : -1048576 ≤ b ∧ b ≤ 1048576) (hc : -1048576 ≤ c ∧ c ≤ 1048576) (hd : -1048576 ≤ d ∧ d ≤ 1048576) (hq : rotC a b c d = 0) (hn0 : nq a b c d ≠ 0) : Takes Tryz.prog 129 [(encQuat (RQuat.mk a b c d))] (.tup [(.sl 52 1 (List.map enc_sl_52 [[(ofQ (Q00 a b c d)), (ofQ (Q01 a b c d)), (ofQ (Q02 a b c d))], [(ofQ (Q10 a b c d)), (ofQ (Q11 a b c d)), (ofQ (Q12 a b c d))], [(ofQ (Q20 a b c d)), (ofQ (Q21 a b c d)), (ofQ (Q22 a b c d))]])), (.val (.int .i64 (0)))]) := by
  have saa := sq_b ha ha
  have sab := sq_b ha hb
  have sac := sq_b ha hc
  have sad := sq_b ha hd
  have sbb := sq_b hb hb
  have sbc := sq_b hb hc
  have sbd := sq_b hb hd
  have scc := sq_b hc hc
  have scd := sq_b hc hd
  have sdd := sq_b hd hd
  have hnq := nq_b ha hb hc hd
  let y13 := (ofQ (Rat.divInt (2 * ((c * d) + (a * b))) (nq a b c d)))
  let y12 := (ofQ (Rat.divInt (2 * ((b * d) - (a * c))) (nq a b c d)))
  let y11 := (ofQ (Rat.divInt (2 * ((c * d) - (a * b))) (nq a b c d)))
  let y10 := (ofQ (Rat.divInt (2 * ((b * c) + (a * d))) (nq a b c d)))
  let y9 := (ofQ (Rat.divInt (2 * ((b * d) + (a * c))) (nq a b c d)))
  let y8 := (ofQ (Rat.divInt (2 * ((b * c) - (a * d))) (nq a b c d)))
  let y7 := (ofQ (Rat.divInt ((((a * a) - (b * b)) - (c * c)) + (d * d)) (nq a b c d)))
  let y6 := (ofQ (Rat.divInt ((((a * a) - (b * b)) + (c * c)) - (d * d)) (nq a b c d)))
  let y5 := (ofQ (Rat.divInt ((((a * a) + (b * b)) - (c * c)) - (d * d)) (nq a b c d)))
  let y4 := (encA203 (A3.mk (((2 : Nat) : Int) * ((b * d) - (a * c))) (((2 : Nat) : Int) * ((c * d) + (a * b))) ((((a * a) - (b * b)) - (c * c)) + (d * d))))
  let y3 := (encA203 (A3.mk (((2 : Nat) : Int) * ((b * c) + (a * d))) ((((a * a) - (b * b)) + (c * c)) - (d * d)) (((2 : Nat) : Int) * ((c * d) - (a * b)))))
  let y2 := (encA203 (A3.mk ((((a * a) + (b * b)) - (c * c)) - (d * d)) (((2 : Nat) : Int) * ((b * c) - (a * d))) (((2 : Nat) : Int) * ((b * d) + (a * c)))))
  let y1 := (encA204 (A3.mk (A3.mk ((((a * a) + (b * b)) - (c * c)) - (d * d)) (((2 : Nat) : Int) * ((b * c) - (a * d))) (((2 : Nat) : Int) * ((b * d) + (a * c)))) (A3.mk (((2 : Nat) : Int) * ((b * c) + (a * d))) ((((a * a) - (b * b)) + (c * c)) - (d * d)) (((2 : Nat) : Int) * ((c * d) - (a * b)))) (A3.mk (((2 : Nat) : Int) * ((b * d) - (a * c))) (((2 : Nat) : Int) * ((c * d) + (a * b))) ((((a * a) - (b * b)) - (c * c)) + (d * d)))))
  refine fn_intro Tryz.func129 rfl cb129 rfl ?_
  show PWp _ _ _ _ ⟨[(0, (.d (encQuat (RQuat.mk a b c d))))], []⟩
  refine pwp_seq <| kx [(1, (.ref 0 0))] [(0, some (bx (encQuat (RQuat.mk a b c d))))] (zN (oBx 0) <| zE (oNl 52 1) <| zM <| zZ) ?_
  refine pwp_seq <| pwp_seq <| kx [(4, (vin (rotC a b c d)))] [] (zR (oLa sh25) <| zE (oCl (q_chk a b c d)) <| zM <| zZ) ?_
  refine pwp_seq <| kx [(21, (vb false))] [] (zM <| zE (oBk false oNe (by exact bne_eq_false_iff_eq.2 (by rw [show (rotC a b c d) = 0 from hq]; rfl))) <| zZ) ?_
  refine pwp_cond (b := false) (by kernel_rfl) (fun h => by cases h) (fun _ => ?_)
  refine pwp_skip <| pwp_seq <| kd [(5, (vi a)), (6, (vi b)), (7, (vi c)), (8, (vi d))] [] mo (wE (oFr fo25_0) <| wR (oL1 sh3) <| wE (oFr fo25_1) <| wR (oL1 sh3) <| wE (oFr fo25_2) <| wR (oL1 sh3) <| wE (oFr fo25_3) <| wR (oL1 sh3) <| wM <| wM <| wM <| wM <| wZ) ?_
  refine pwp_seq <| kx [(9, (.ref 1 0))] [(1, some (bx y1))] (zM <| zM <| zE (zMl (a * a) (hr := by exact (wAny rfl (by simp only [kLo]; omega) (by simp only [kHi]; omega)))) <| zM <| zM <| zE (zMl (b * b) (hr := by exact (wAny rfl (by simp only [kLo]; omega) (by simp only [kHi]; omega)))) <| zE (zAd ((a * a) + (b * b)) (hr := by exact (wAny rfl (by simp only [kLo]; omega) (by simp only [kHi]; omega)))) <| zM <| zM <| zE (zMl (c * c) (hr := by exact (wAny rfl (by simp only [kLo]; omega) (by simp only [kHi]; omega)))) <| zE (zSb (((a * a) + (b * b)) - (c * c)) (hr := by exact (wAny rfl (by simp only [kLo]; omega) (by simp only [kHi]; omega)))) <| zM <| zM <| zE (zMl (d * d) (hr := by exact (wAny rfl (by simp only [kLo]; omega) (by simp only [kHi]; omega)))) <| zE (zSb ((((a * a) + (b * b)) - (c * c)) - (d * d)) (hr := by exact (wAny rfl (by simp only [kLo]; omega) (by simp only [kHi]; omega)))) <| zM <| zM <| zE (zMl (b * c) (hr := by exact (wAny rfl (by simp only [kLo]; omega) (by simp only [kHi]; omega)))) <| zM <| zM <| zE (zMl (a * d) (hr := by exact (wAny rfl (by simp only [kLo]; omega) (by simp only [kHi]; omega)))) <| zE (zSb ((b * c) - (a * d)) (hr := by exact (wAny rfl (by simp only [kLo]; omega) (by simp only [kHi]; omega)))) <| zE (zMl (((2 : Nat) : Int) * ((b * c) - (a * d))) (hr := by exact (wAny rfl (by simp only [kLo]; omega) (by simp only [kHi]; omega)))) <| zM <| zM <| zE (zMl (b * d) (hr := by exact (wAny rfl (by simp only [kLo]; omega) (by simp only [kHi]; omega)))) <| zM <| zM <| zE (zMl (a * c) (hr := by exact (wAny rfl (by simp only [kLo]; omega) (by simp only [kHi]; omega)))) <| zE (zAd ((b * d) + (a * c)) (hr := by exact (wAny rfl (by simp only [kLo]; omega) (by simp only [kHi]; omega)))) <| zE (zMl (((2 : Nat) : Int) * ((b * d) + (a * c))) (hr := by exact (wAny rfl (by simp only [kLo]; omega) (by simp only [kHi]; omega)))) <| zE (oBf ar203 ze203 zo203) <| zM <| zM <| zE (zMl (b * c) (hr := by exact (wAny rfl (by simp only [kLo]; omega) (by simp only [kHi]; omega)))) <| zM <| zM <| zE (zMl (a * d) (hr := by exact (wAny rfl (by simp only [kLo]; omega) (by simp only [kHi]; omega)))) <| zE (zAd ((b * c) + (a * d)) (hr := by exact (wAny rfl (by simp only [kLo]; omega) (by simp only [kHi]; omega)))) <| zE (zMl (((2 : Nat) : Int) * ((b * c) + (a * d))) (hr := by exact (wAny rfl (by simp only [kLo]; omega) (by simp only [kHi]; omega)))) <| zM <| zM <| zE (zMl (a * a) (hr := by exact (wAny rfl (by simp only [kLo]; omega) (by simp only [kHi]; omega)))) <| zM <| zM <| zE (zMl (b * b) (hr := by exact (wAny rfl (by simp only [kLo]; omega) (by simp only [kHi]; omega)))) <| zE (zSb ((a * a) - (b * b)) (hr := by exact (wAny rfl (by simp only [kLo]; omega) (by simp only [kHi]; omega)))) <| zM <| zM <| zE (zMl (c * c) (hr := by exact (wAny rfl (by simp only [kLo]; omega) (by simp only [kHi]; omega)))) <| zE (zAd (((a * a) - (b * b)) + (c * c)) (hr := by exact (wAny rfl (by simp only [kLo]; omega) (by simp only [kHi]; omega)))) <| zM <| zM <| zE (zMl (d * d) (hr := by exact (wAny rfl (by simp only [kLo]; omega) (by simp only [kHi]; omega)))) <| zE (zSb ((((a * a) - (b * b)) + (c * c)) - (d * d)) (hr := by exact (wAny rfl (by simp only [kLo]; omega) (by simp only [kHi]; omega)))) <| zM <| zM <| zE (zMl (c * d) (hr := by exact (wAny rfl (by simp only [kLo]; omega) (by simp only [kHi]; omega)))) <| zM <| zM <| zE (zMl (a * b) (hr := by exact (wAny rfl (by simp only [kLo]; omega) (by simp only [kHi]; omega)))) <| zE (zSb ((c * d) - (a * b)) (hr := by exact (wAny rfl (by simp only [kLo]; omega) (by simp only [kHi]; omega)))) <| zE (zMl (((2 : Nat) : Int) * ((c * d) - (a * b))) (hr := by exact (wAny rfl (by simp only [kLo]; omega) (by simp only [kHi]; omega)))) <| zE (oBf ar203 ze203 zo203) <| zM <| zM <| zE (zMl (b * d) (hr := by exact (wAny rfl (by simp only [kLo]; omega) (by simp only [kHi]; omega)))) <| zM <| zM <| zE (zMl (a * c) (hr := by exact (wAny rfl (by simp only [kLo]; omega) (by simp only [kHi]; omega)))) <| zE (zSb ((b * d) - (a * c)) (hr := by exact (wAny rfl (by simp only [kLo]; omega) (by simp only [kHi]; omega)))) <| zE (zMl (((2 : Nat) : Int) * ((b * d) - (a * c))) (hr := by exact (wAny rfl (by simp only [kLo]; omega) (by simp only [kHi]; omega)))) <| zM <| zM <| zE (zMl (c * d) (hr := by exact (wAny rfl (by simp only [kLo]; omega) (by simp only [kHi]; omega)))) <| zM <| zM <| zE (zMl (a * b) (hr := by exact (wAny rfl (by simp only [kLo]; omega) (by simp only [kHi]; omega)))) <| zE (zAd ((c * d) + (a * b)) (hr := by exact (wAny rfl (by simp only [kLo]; omega) (by simp only [kHi]; omega)))) <| zE (zMl (((2 : Nat) : Int) * ((c * d) + (a * b))) (hr := by exact (wAny rfl (by simp only [kLo]; omega) (by simp only [kHi]; omega)))) <| zM <| zM <| zE (zMl (a * a) (hr := by exact (wAny rfl (by simp only [kLo]; omega) (by simp only [kHi]; omega)))) <| zM <| zM <| zE (zMl (b * b) (hr := by exact (wAny rfl (by simp only [kLo]; omega) (by simp only [kHi]; omega)))) <| zE (zSb ((a * a) - (b * b)) (hr := by exact (wAny rfl (by simp only [kLo]; omega) (by simp only [kHi]; omega)))) <| zM <| zM <| zE (zMl (c * c) (hr := by exact (wAny rfl (by simp only [kLo]; omega) (by simp only [kHi]; omega)))) <| zE (zSb (((a * a) - (b * b)) - (c * c)) (hr := by exact (wAny rfl (by simp only [kLo]; omega) (by simp only [kHi]; omega)))) <| zM <| zM <| zE (zMl (d * d) (hr := by exact (wAny rfl (by simp only [kLo]; omega) (by simp only [kHi]; omega)))) <| zE (zAd ((((a * a) - (b * b)) - (c * c)) + (d * d)) (hr := by exact (wAny rfl (by simp only [kLo]; omega) (by simp only [kHi]; omega)))) <| zE (oBf ar203 ze203 zo203) <| zE (oBf ar204 ze204 zo204) <| zN (oAl 1 ze204 zo204) <| zT (oSt sh204) <| zZ) ?_
  refine pwp_seq <| kx [(10, (.own 2 52 1 0))] [(2, some (bm enc_sl_52 []))] (zO 2 52 1 <| zZ) ?_
  refine pwp_seq <| pwp_seq <| kx [(128, (.d y1)), (129, (vin 0))] [] (zR (oLa sh204) <| zM <| zZ) ?_
  refine pwp_block <| pwp_rounds 20 ?_
  refine pwp_round <| pwp_seq <| kx [(130, (vb true))] [] (zE (oBk true oLt) <| zZ) ?_
  refine pwp_seq <| pwp_cond (b := true) (by kernel_rfl) (fun _ => ?_) (fun h => by cases h)
  refine pwp_skip <| pwp_seq <| pwp_block <| pwp_seq <| kx [(12, (.ref 3 0))] [(3, some (bx y2))] (zE (oXa ar204 sh203 (fun h => by cases h) 0) <| zH (oAl 3 ze203 zo203) <| zT (oSt sh203) <| zZ) ?_
  refine pwp_seq <| kx [(13, (.own 4 42 4 0))] [(4, some (bxs encR []))] (zO 4 42 4 <| zZ) ?_
  refine pwp_seq <| pwp_seq <| kx [(132, (.d y2)), (133, (vin 0))] [] (zR (oLa sh203) <| zM <| zZ) ?_
  refine pwp_block <| pwp_rounds 20 ?_
  refine pwp_round <| pwp_seq <| kx [(134, (vb true))] [] (zE (oBk true oLt) <| zZ) ?_
  refine pwp_seq <| pwp_cond (b := true) (by kernel_rfl) (fun _ => ?_) (fun h => by cases h)
  refine pwp_skip <| pwp_seq <| pwp_block <| pwp_seq <| kx [(15, (vi ((((a * a) + (b * b)) - (c * c)) - (d * d))))] [] (zE (oXa ar203 sh3 (fun _ => rfl) 0) <| zM <| zZ) ?_
  refine pwp_seq ?_
  have bn1 : QL (Rat.divInt ((((a * a) + (b * b)) - (c * c)) - (d * d)) (nq a b c d)) 3 := (ql_divInt (n := 3) (lenZ_int (by omega) (by omega)) (lenZ_int (by omega) (by omega)) (by decide))
  refine kx [(16, (.ref 5 0))] [(5, some (bx (encR y5)))] (zM <| zR (oLa sh25) <| zE (oCl (qr_norm a b c d (by omega) (by omega) (by omega) (by omega))) <| zE (oCl (q_of ((((a * a) + (b * b)) - (c * c)) - (d * d)) (by omega) (by omega) (nq a b c d) (by omega) (by omega) hn0)) <| zM <| zE oEx <| zE oEx <| zH (oAl 5 ze42 zo42) <| zT (oSt sh42) <| zM <| zZ) ?_
  refine pwp_sim (wk (l := [(1, (.ref 0 0)), (10, (.own 2 52 1 0)), (13, (.own 4 42 4 0)), (16, (.ref 5 0)), (128, (.d y1)), (129, (vin 0)), (132, (.d y2)), (133, (vin 0))]) (b := [(0, some (bx (encQuat (RQuat.mk a b c d)))), (2, some (bm enc_sl_52 [])), (4, some (bxs encR [])), (5, some (bx (encR y5)))])) ?_
  refine kf [(13, (.own 4 42 4 (([] ++ [y5]).length)))] [(4, some (bxs encR ([] ++ [y5])))] (zM <| zR (oLa sh42) <| zE (oBs el52 ze42 zo42) <| zAS encR [] [y5] rfl el52 ze42 by42 (hbig := by exact (by simp +zetaDelta [maxLen] <;> omega)) (hbig' := by exact (by simp +zetaDelta <;> omega)) <| zM <| zF) ?_
  refine kx [(133, (vin 1))] [] (zE (oAd 1 (hr := by decide)) <| zM <| zZ) ?_
  refine pwp_again (SimImp.refl _) ?_
  refine pwp_seq <| kx [(134, (vb true))] [] (zE (oBk true oLt) <| zZ) ?_
  refine pwp_seq <| pwp_cond (b := true) (by kernel_rfl) (fun _ => ?_) (fun h => by cases h)
  refine pwp_skip <| pwp_seq <| pwp_block <| pwp_seq <| kx [(15, (vi (((2 : Nat) : Int) * ((b * c) - (a * d)))))] [] (zE (oXa ar203 sh3 (fun _ => rfl) 1) <| zM <| zZ) ?_
  refine pwp_seq ?_
  have bn2 : QL (Rat.divInt (2 * ((b * c) - (a * d))) (nq a b c d)) 3 := (ql_divInt (n := 3) (lenZ_int (by omega) (by omega)) (lenZ_int (by omega) (by omega)) (by decide))
  refine kx [(16, (.ref 6 0))] [(6, some (bx (encR y8)))] (zM <| zR (oLa sh25) <| zE (oCl (qr_norm a b c d (by omega) (by omega) (by omega) (by omega))) <| zE (oCl (q_of (((2 : Nat) : Int) * ((b * c) - (a * d))) (by omega) (by omega) (nq a b c d) (by omega) (by omega) hn0)) <| zM <| zE oEx <| zE oEx <| zH (oAl 6 ze42 zo42) <| zT (oSt sh42) <| zM <| zZ) ?_
  refine kf [(13, (.own 4 42 4 ((([] ++ [y5]) ++ [y8]).length)))] [(4, some (bxs encR (([] ++ [y5]) ++ [y8])))] (zM <| zR (oLa sh42) <| zE (oBs el52 ze42 zo42) <| zAS encR ([] ++ [y5]) [y8] rfl el52 ze42 by42 (hbig := by exact (by simp +zetaDelta [maxLen] <;> omega)) (hbig' := by exact (by simp +zetaDelta <;> omega)) <| zM <| zF) ?_
  refine kx [(133, (vin 2))] [] (zE (oAd 2 (hr := by decide)) <| zM <| zZ) ?_
  refine pwp_again (SimImp.refl _) ?_
  refine pwp_seq <| kx [(134, (vb true))] [] (zE (oBk true oLt) <| zZ) ?_
  refine pwp_seq <| pwp_cond (b := true) (by kernel_rfl) (fun _ => ?_) (fun h => by cases h)
  refine pwp_skip <| pwp_seq <| pwp_block <| pwp_seq <| kx [(15, (vi (((2 : Nat) : Int) * ((b * d) + (a * c)))))] [] (zE (oXa ar203 sh3 (fun _ => rfl) 2) <| zM <| zZ) ?_
  refine pwp_seq ?_
  have bn3 : QL (Rat.divInt (2 * ((b * d) + (a * c))) (nq a b c d)) 3 := (ql_divInt (n := 3) (lenZ_int (by omega) (by omega)) (lenZ_int (by omega) (by omega)) (by decide))
  refine kx [(16, (.ref 7 0))] [(7, some (bx (encR y9)))] (zM <| zR (oLa sh25) <| zE (oCl (qr_norm a b c d (by omega) (by omega) (by omega) (by omega))) <| zE (oCl (q_of (((2 : Nat) : Int) * ((b * d) + (a * c))) (by omega) (by omega) (nq a b c d) (by omega) (by omega) hn0)) <| zM <| zE oEx <| zE oEx <| zH (oAl 7 ze42 zo42) <| zT (oSt sh42) <| zM <| zZ) ?_
  refine kf [(13, (.own 4 42 4 (((([] ++ [y5]) ++ [y8]) ++ [y9]).length)))] [(4, some (bxs encR ((([] ++ [y5]) ++ [y8]) ++ [y9])))] (zM <| zR (oLa sh42) <| zE (oBs el52 ze42 zo42) <| zAS encR (([] ++ [y5]) ++ [y8]) [y9] rfl el52 ze42 by42 (hbig := by exact (by simp +zetaDelta [maxLen] <;> omega)) (hbig' := by exact (by simp +zetaDelta <;> omega)) <| zM <| zF) ?_
  refine kx [(133, (vin 3))] [] (zE (oAd 3 (hr := by decide)) <| zM <| zZ) ?_
  refine pwp_again (SimImp.refl _) ?_
  refine pwp_seq <| kx [(134, (vb false))] [] (zE (oBk false oLt) <| zZ) ?_
  refine pwp_seq <| pwp_cond (b := false) (by kernel_rfl) (fun h => by cases h) (fun _ => ?_)
  refine pwp_exit <| pwp_sim (publish (t := 13) (k := 4) (es := List.map encR ((([] ++ [y5]) ++ [y8]) ++ [y9])) rfl rfl (pubs_cells _ _ (fun _ => rfl)) (map_len _ _ rfl) (pubs_take encR ((([] ++ [y5]) ++ [y8]) ++ [y9]) (fun _ => rfl) rfl)) ?_
  refine kf [(10, (.own 2 52 1 (([] ++ [((([] ++ [y5]) ++ [y8]) ++ [y9])]).length)))] [(2, some (bm enc_sl_52 ([] ++ [((([] ++ [y5]) ++ [y8]) ++ [y9])])))] (zM <| zM <| zE (oBs el34 ze52 zo52) <| zA enc_sl_52 [] [((([] ++ [y5]) ++ [y8]) ++ [y9])] rfl el34 ze52 by52 (hbig := by exact (by simp +zetaDelta [maxLen] <;> omega)) (hbig' := by exact (by simp +zetaDelta <;> omega)) <| zM <| zF) ?_
  refine pwp_sim (wk (l := [(1, (.ref 0 0)), (10, (.own 2 52 1 (([] ++ [((([] ++ [y5]) ++ [y8]) ++ [y9])]).length))), (128, (.d y1)), (129, (vin 0))]) (b := [(0, some (bx (encQuat (RQuat.mk a b c d)))), (2, some (bm enc_sl_52 ([] ++ [((([] ++ [y5]) ++ [y8]) ++ [y9])])))])) ?_
  refine kx [(129, (vin 1))] [] (zE (oAd 1 (hr := by decide)) <| zM <| zZ) ?_
  refine pwp_again (SimImp.refl _) ?_
  refine pwp_seq <| kx [(130, (vb true))] [] (zE (oBk true oLt) <| zZ) ?_
  refine pwp_seq <| pwp_cond (b := true) (by kernel_rfl) (fun _ => ?_) (fun h => by cases h)
  refine pwp_skip <| pwp_seq <| pwp_block <| pwp_seq <| kx [(12, (.ref 8 0))] [(8, some (bx y3))] (zE (oXa ar204 sh203 (fun h => by cases h) 1) <| zH (oAl 8 ze203 zo203) <| zT (oSt sh203) <| zZ) ?_
  refine pwp_seq <| kx [(13, (.own 9 42 4 0))] [(9, some (bxs encR []))] (zO 9 42 4 <| zZ) ?_
  refine pwp_seq <| pwp_seq <| kx [(132, (.d y3)), (133, (vin 0))] [] (zR (oLa sh203) <| zM <| zZ) ?_
  refine pwp_block <| pwp_rounds 20 ?_
  refine pwp_round <| pwp_seq <| kx [(134, (vb true))] [] (zE (oBk true oLt) <| zZ) ?_
  refine pwp_seq <| pwp_cond (b := true) (by kernel_rfl) (fun _ => ?_) (fun h => by cases h)
  refine pwp_skip <| pwp_seq <| pwp_block <| pwp_seq <| kx [(15, (vi (((2 : Nat) : Int) * ((b * c) + (a * d)))))] [] (zE (oXa ar203 sh3 (fun _ => rfl) 0) <| zM <| zZ) ?_
  refine pwp_seq ?_
  have bn4 : QL (Rat.divInt (2 * ((b * c) + (a * d))) (nq a b c d)) 3 := (ql_divInt (n := 3) (lenZ_int (by omega) (by omega)) (lenZ_int (by omega) (by omega)) (by decide))
  refine kx [(16, (.ref 10 0))] [(10, some (bx (encR y10)))] (zM <| zR (oLa sh25) <| zE (oCl (qr_norm a b c d (by omega) (by omega) (by omega) (by omega))) <| zE (oCl (q_of (((2 : Nat) : Int) * ((b * c) + (a * d))) (by omega) (by omega) (nq a b c d) (by omega) (by omega) hn0)) <| zM <| zE oEx <| zE oEx <| zH (oAl 10 ze42 zo42) <| zT (oSt sh42) <| zM <| zZ) ?_
  refine kf [(13, (.own 9 42 4 (([] ++ [y10]).length)))] [(9, some (bxs encR ([] ++ [y10])))] (zM <| zR (oLa sh42) <| zE (oBs el52 ze42 zo42) <| zAS encR [] [y10] rfl el52 ze42 by42 (hbig := by exact (by simp +zetaDelta [maxLen] <;> omega)) (hbig' := by exact (by simp +zetaDelta <;> omega)) <| zM <| zF) ?_
  refine kx [(133, (vin 1))] [] (zE (oAd 1 (hr := by decide)) <| zM <| zZ) ?_
  refine pwp_again (SimImp.refl _) ?_
  refine pwp_seq <| kx [(134, (vb true))] [] (zE (oBk true oLt) <| zZ) ?_
  refine pwp_seq <| pwp_cond (b := true) (by kernel_rfl) (fun _ => ?_) (fun h => by cases h)
  refine pwp_skip <| pwp_seq <| pwp_block <| pwp_seq <| kx [(15, (vi ((((a * a) - (b * b)) + (c * c)) - (d * d))))] [] (zE (oXa ar203 sh3 (fun _ => rfl) 1) <| zM <| zZ) ?_
  refine pwp_seq ?_
  have bn5 : QL (Rat.divInt ((((a * a) - (b * b)) + (c * c)) - (d * d)) (nq a b c d)) 3 := (ql_divInt (n := 3) (lenZ_int (by omega) (by omega)) (lenZ_int (by omega) (by omega)) (by decide))
  refine kx [(16, (.ref 11 0))] [(11, some (bx (encR y6)))] (zM <| zR (oLa sh25) <| zE (oCl (qr_norm a b c d (by omega) (by omega) (by omega) (by omega))) <| zE (oCl (q_of ((((a * a) - (b * b)) + (c * c)) - (d * d)) (by omega) (by omega) (nq a b c d) (by omega) (by omega) hn0)) <| zM <| zE oEx <| zE oEx <| zH (oAl 11 ze42 zo42) <| zT (oSt sh42) <| zM <| zZ) ?_
  refine kf [(13, (.own 9 42 4 ((([] ++ [y10]) ++ [y6]).length)))] [(9, some (bxs encR (([] ++ [y10]) ++ [y6])))] (zM <| zR (oLa sh42) <| zE (oBs el52 ze42 zo42) <| zAS encR ([] ++ [y10]) [y6] rfl el52 ze42 by42 (hbig := by exact (by simp +zetaDelta [maxLen] <;> omega)) (hbig' := by exact (by simp +zetaDelta <;> omega)) <| zM <| zF) ?_
  refine pwp_sim (wk (l := [(1, (.ref 0 0)), (10, (.own 2 52 1 (([] ++ [((([] ++ [y5]) ++ [y8]) ++ [y9])]).length))), (13, (.own 9 42 4 ((([] ++ [y10]) ++ [y6]).length))), (128, (.d y1)), (129, (vin 1)), (132, (.d y3)), (133, (vin 1))]) (b := [(0, some (bx (encQuat (RQuat.mk a b c d)))), (2, some (bm enc_sl_52 ([] ++ [((([] ++ [y5]) ++ [y8]) ++ [y9])]))), (9, some (bxs encR (([] ++ [y10]) ++ [y6])))])) ?_
  refine kx [(133, (vin 2))] [] (zE (oAd 2 (hr := by decide)) <| zM <| zZ) ?_
  refine pwp_again (SimImp.refl _) ?_
  refine pwp_seq <| kx [(134, (vb true))] [] (zE (oBk true oLt) <| zZ) ?_
  refine pwp_seq <| pwp_cond (b := true) (by kernel_rfl) (fun _ => ?_) (fun h => by cases h)
  refine pwp_skip <| pwp_seq <| pwp_block <| pwp_seq <| kx [(15, (vi (((2 : Nat) : Int) * ((c * d) - (a * b)))))] [] (zE (oXa ar203 sh3 (fun _ => rfl) 2) <| zM <| zZ) ?_
  refine pwp_seq ?_
  have bn6 : QL (Rat.divInt (2 * ((c * d) - (a * b))) (nq a b c d)) 3 := (ql_divInt (n := 3) (lenZ_int (by omega) (by omega)) (lenZ_int (by omega) (by omega)) (by decide))
  refine kx [(16, (.ref 12 0))] [(12, some (bx (encR y11)))] (zM <| zR (oLa sh25) <| zE (oCl (qr_norm a b c d (by omega) (by omega) (by omega) (by omega))) <| zE (oCl (q_of (((2 : Nat) : Int) * ((c * d) - (a * b))) (by omega) (by omega) (nq a b c d) (by omega) (by omega) hn0)) <| zM <| zE oEx <| zE oEx <| zH (oAl 12 ze42 zo42) <| zT (oSt sh42) <| zM <| zZ) ?_
  refine kf [(13, (.own 9 42 4 (((([] ++ [y10]) ++ [y6]) ++ [y11]).length)))] [(9, some (bxs encR ((([] ++ [y10]) ++ [y6]) ++ [y11])))] (zM <| zR (oLa sh42) <| zE (oBs el52 ze42 zo42) <| zAS encR (([] ++ [y10]) ++ [y6]) [y11] rfl el52 ze42 by42 (hbig := by exact (by simp +zetaDelta [maxLen] <;> omega)) (hbig' := by exact (by simp +zetaDelta <;> omega)) <| zM <| zF) ?_
  refine kx [(133, (vin 3))] [] (zE (oAd 3 (hr := by decide)) <| zM <| zZ) ?_
  refine pwp_again (SimImp.refl _) ?_
  refine pwp_seq <| kx [(134, (vb false))] [] (zE (oBk false oLt) <| zZ) ?_
  refine pwp_seq <| pwp_cond (b := false) (by kernel_rfl) (fun h => by cases h) (fun _ => ?_)
  refine pwp_exit <| pwp_sim (publish (t := 13) (k := 9) (es := List.map encR ((([] ++ [y10]) ++ [y6]) ++ [y11])) rfl rfl (pubs_cells _ _ (fun _ => rfl)) (map_len _ _ rfl) (pubs_take encR ((([] ++ [y10]) ++ [y6]) ++ [y11]) (fun _ => rfl) rfl)) ?_
  refine kf [(10, (.own 2 52 1 ((([] ++ [((([] ++ [y5]) ++ [y8]) ++ [y9])]) ++ [((([] ++ [y10]) ++ [y6]) ++ [y11])]).length)))] [(2, some (bm enc_sl_52 (([] ++ [((([] ++ [y5]) ++ [y8]) ++ [y9])]) ++ [((([] ++ [y10]) ++ [y6]) ++ [y11])])))] (zM <| zM <| zE (oBs el34 ze52 zo52) <| zA enc_sl_52 ([] ++ [((([] ++ [y5]) ++ [y8]) ++ [y9])]) [((([] ++ [y10]) ++ [y6]) ++ [y11])] rfl el34 ze52 by52 (hbig := by exact (by simp +zetaDelta [maxLen] <;> omega)) (hbig' := by exact (by simp +zetaDelta <;> omega)) <| zM <| zF) ?_
  refine kx [(129, (vin 2))] [] (zE (oAd 2 (hr := by decide)) <| zM <| zZ) ?_
  refine pwp_again (SimImp.refl _) ?_
  refine pwp_seq <| kx [(130, (vb true))] [] (zE (oBk true oLt) <| zZ) ?_
  refine pwp_seq <| pwp_cond (b := true) (by kernel_rfl) (fun _ => ?_) (fun h => by cases h)
  refine pwp_skip <| pwp_seq <| pwp_block <| pwp_seq <| kx [(12, (.ref 13 0))] [(13, some (bx y4))] (zE (oXa ar204 sh203 (fun h => by cases h) 2) <| zH (oAl 13 ze203 zo203) <| zT (oSt sh203) <| zZ) ?_
  refine pwp_seq <| kx [(13, (.own 14 42 4 0))] [(14, some (bxs encR []))] (zO 14 42 4 <| zZ) ?_
  refine pwp_seq <| pwp_seq <| kx [(132, (.d y4)), (133, (vin 0))] [] (zR (oLa sh203) <| zM <| zZ) ?_
  refine pwp_block <| pwp_rounds 20 ?_
  refine pwp_round <| pwp_seq <| kx [(134, (vb true))] [] (zE (oBk true oLt) <| zZ) ?_
  refine pwp_seq <| pwp_cond (b := true) (by kernel_rfl) (fun _ => ?_) (fun h => by cases h)
  refine pwp_skip <| pwp_seq <| pwp_block <| pwp_seq <| pwp_sim (wk (l := [(1, (.ref 0 0)), (10, (.own 2 52 1 ((([] ++ [((([] ++ [y5]) ++ [y8]) ++ [y9])]) ++ [((([] ++ [y10]) ++ [y6]) ++ [y11])]).length))), (13, (.own 14 42 4 0)), (128, (.d y1)), (129, (vin 2)), (132, (.d y4)), (133, (vin 0)), (134, (vb true))]) (b := [(0, some (bx (encQuat (RQuat.mk a b c d)))), (14, some (bxs encR [])), (2, some (bm enc_sl_52 (([] ++ [((([] ++ [y5]) ++ [y8]) ++ [y9])]) ++ [((([] ++ [y10]) ++ [y6]) ++ [y11])])))])) ?_
  refine kx [(15, (vi (((2 : Nat) : Int) * ((b * d) - (a * c)))))] [] (zE (oXa ar203 sh3 (fun _ => rfl) 0) <| zM <| zZ) ?_
  refine pwp_seq ?_
  have bn7 : QL (Rat.divInt (2 * ((b * d) - (a * c))) (nq a b c d)) 3 := (ql_divInt (n := 3) (lenZ_int (by omega) (by omega)) (lenZ_int (by omega) (by omega)) (by decide))
  refine kx [(16, (.ref 15 0))] [(15, some (bx (encR y12)))] (zM <| zR (oLa sh25) <| zE (oCl (qr_norm a b c d (by omega) (by omega) (by omega) (by omega))) <| zE (oCl (q_of (((2 : Nat) : Int) * ((b * d) - (a * c))) (by omega) (by omega) (nq a b c d) (by omega) (by omega) hn0)) <| zM <| zE oEx <| zE oEx <| zH (oAl 15 ze42 zo42) <| zT (oSt sh42) <| zM <| zZ) ?_
  refine kf [(13, (.own 14 42 4 (([] ++ [y12]).length)))] [(14, some (bxs encR ([] ++ [y12])))] (zM <| zR (oLa sh42) <| zE (oBs el52 ze42 zo42) <| zAS encR [] [y12] rfl el52 ze42 by42 (hbig := by exact (by simp +zetaDelta [maxLen] <;> omega)) (hbig' := by exact (by simp +zetaDelta <;> omega)) <| zM <| zF) ?_
  refine kx [(133, (vin 1))] [] (zE (oAd 1 (hr := by decide)) <| zM <| zZ) ?_
  refine pwp_again (SimImp.refl _) ?_
  refine pwp_seq <| kx [(134, (vb true))] [] (zE (oBk true oLt) <| zZ) ?_
  refine pwp_seq <| pwp_cond (b := true) (by kernel_rfl) (fun _ => ?_) (fun h => by cases h)
  refine pwp_skip <| pwp_seq <| pwp_block <| pwp_seq <| kx [(15, (vi (((2 : Nat) : Int) * ((c * d) + (a * b)))))] [] (zE (oXa ar203 sh3 (fun _ => rfl) 1) <| zM <| zZ) ?_
  refine pwp_seq ?_
  have bn8 : QL (Rat.divInt (2 * ((c * d) + (a * b))) (nq a b c d)) 3 := (ql_divInt (n := 3) (lenZ_int (by omega) (by omega)) (lenZ_int (by omega) (by omega)) (by decide))
  refine kx [(16, (.ref 16 0))] [(16, some (bx (encR y13)))] (zM <| zR (oLa sh25) <| zE (oCl (qr_norm a b c d (by omega) (by omega) (by omega) (by omega))) <| zE (oCl (q_of (((2 : Nat) : Int) * ((c * d) + (a * b))) (by omega) (by omega) (nq a b c d) (by omega) (by omega) hn0)) <| zM <| zE oEx <| zE oEx <| zH (oAl 16 ze42 zo42) <| zT (oSt sh42) <| zM <| zZ) ?_
  refine kf [(13, (.own 14 42 4 ((([] ++ [y12]) ++ [y13]).length)))] [(14, some (bxs encR (([] ++ [y12]) ++ [y13])))] (zM <| zR (oLa sh42) <| zE (oBs el52 ze42 zo42) <| zAS encR ([] ++ [y12]) [y13] rfl el52 ze42 by42 (hbig := by exact (by simp +zetaDelta [maxLen] <;> omega)) (hbig' := by exact (by simp +zetaDelta <;> omega)) <| zM <| zF) ?_
  refine kx [(133, (vin 2))] [] (zE (oAd 2 (hr := by decide)) <| zM <| zZ) ?_
  refine pwp_again (SimImp.refl _) ?_
  refine pwp_seq <| kx [(134, (vb true))] [] (zE (oBk true oLt) <| zZ) ?_
  refine pwp_seq <| pwp_cond (b := true) (by kernel_rfl) (fun _ => ?_) (fun h => by cases h)
  refine pwp_skip <| pwp_seq <| pwp_block <| pwp_seq <| kx [(15, (vi ((((a * a) - (b * b)) - (c * c)) + (d * d))))] [] (zE (oXa ar203 sh3 (fun _ => rfl) 2) <| zM <| zZ) ?_
  refine pwp_seq ?_
  have bn9 : QL (Rat.divInt ((((a * a) - (b * b)) - (c * c)) + (d * d)) (nq a b c d)) 3 := (ql_divInt (n := 3) (lenZ_int (by omega) (by omega)) (lenZ_int (by omega) (by omega)) (by decide))
  refine kx [(16, (.ref 17 0))] [(17, some (bx (encR y7)))] (zM <| zR (oLa sh25) <| zE (oCl (qr_norm a b c d (by omega) (by omega) (by omega) (by omega))) <| zE (oCl (q_of ((((a * a) - (b * b)) - (c * c)) + (d * d)) (by omega) (by omega) (nq a b c d) (by omega) (by omega) hn0)) <| zM <| zE oEx <| zE oEx <| zH (oAl 17 ze42 zo42) <| zT (oSt sh42) <| zM <| zZ) ?_
  refine kf [(13, (.own 14 42 4 (((([] ++ [y12]) ++ [y13]) ++ [y7]).length)))] [(14, some (bxs encR ((([] ++ [y12]) ++ [y13]) ++ [y7])))] (zM <| zR (oLa sh42) <| zE (oBs el52 ze42 zo42) <| zAS encR (([] ++ [y12]) ++ [y13]) [y7] rfl el52 ze42 by42 (hbig := by exact (by simp +zetaDelta [maxLen] <;> omega)) (hbig' := by exact (by simp +zetaDelta <;> omega)) <| zM <| zF) ?_
  refine kx [(133, (vin 3))] [] (zE (oAd 3 (hr := by decide)) <| zM <| zZ) ?_
  refine pwp_again (SimImp.refl _) ?_
  refine pwp_seq <| pwp_sim (wk (l := [(1, (.ref 0 0)), (10, (.own 2 52 1 ((([] ++ [((([] ++ [y5]) ++ [y8]) ++ [y9])]) ++ [((([] ++ [y10]) ++ [y6]) ++ [y11])]).length))), (13, (.own 14 42 4 (((([] ++ [y12]) ++ [y13]) ++ [y7]).length))), (128, (.d y1)), (129, (vin 2)), (132, (.d y4)), (133, (vin 3))]) (b := [(0, some (bx (encQuat (RQuat.mk a b c d)))), (14, some (bxs encR ((([] ++ [y12]) ++ [y13]) ++ [y7]))), (2, some (bm enc_sl_52 (([] ++ [((([] ++ [y5]) ++ [y8]) ++ [y9])]) ++ [((([] ++ [y10]) ++ [y6]) ++ [y11])])))])) ?_
  refine kx [(134, (vb false))] [] (zE (oBk false oLt) <| zZ) ?_
  refine pwp_seq <| pwp_cond (b := false) (by kernel_rfl) (fun h => by cases h) (fun _ => ?_)
  refine pwp_exit <| pwp_sim (publish (t := 13) (k := 14) (es := List.map encR ((([] ++ [y12]) ++ [y13]) ++ [y7])) rfl rfl (pubs_cells _ _ (fun _ => rfl)) (map_len _ _ rfl) (pubs_take encR ((([] ++ [y12]) ++ [y13]) ++ [y7]) (fun _ => rfl) rfl)) ?_
  refine kf [(10, (.own 2 52 1 (((([] ++ [((([] ++ [y5]) ++ [y8]) ++ [y9])]) ++ [((([] ++ [y10]) ++ [y6]) ++ [y11])]) ++ [((([] ++ [y12]) ++ [y13]) ++ [y7])]).length)))] [(2, some (bm enc_sl_52 ((([] ++ [((([] ++ [y5]) ++ [y8]) ++ [y9])]) ++ [((([] ++ [y10]) ++ [y6]) ++ [y11])]) ++ [((([] ++ [y12]) ++ [y13]) ++ [y7])])))] (zM <| zM <| zE (oBs el34 ze52 zo52) <| zA enc_sl_52 (([] ++ [((([] ++ [y5]) ++ [y8]) ++ [y9])]) ++ [((([] ++ [y10]) ++ [y6]) ++ [y11])]) [((([] ++ [y12]) ++ [y13]) ++ [y7])] rfl el34 ze52 by52 (hbig := by exact (by simp +zetaDelta [maxLen] <;> omega)) (hbig' := by exact (by simp +zetaDelta <;> omega)) <| zM <| zF) ?_
  refine kx [(129, (vin 3))] [] (zE (oAd 3 (hr := by decide)) <| zM <| zZ) ?_
  refine pwp_again (SimImp.refl _) ?_
  refine pwp_seq <| kx [(130, (vb false))] [] (zE (oBk false oLt) <| zZ) ?_
  refine pwp_seq <| pwp_cond (b := false) (by kernel_rfl) (fun h => by cases h) (fun _ => ?_)
  refine pwp_exit <| pwp_seq <| pwp_sim (publish (t := 10) (k := 2) (es := List.map enc_sl_52 ((([] ++ [((([] ++ [y5]) ++ [y8]) ++ [y9])]) ++ [((([] ++ [y10]) ++ [y6]) ++ [y11])]) ++ [((([] ++ [y12]) ++ [y13]) ++ [y7])])) rfl rfl (pub_cells _ _ (fun _ => rfl)) (map_len _ _ rfl) (pub_take _ _ (fun _ => rfl) rfl)) ?_
  refine kx [(2, (vl 52 1 enc_sl_52 ((([] ++ [((([] ++ [y5]) ++ [y8]) ++ [y9])]) ++ [((([] ++ [y10]) ++ [y6]) ++ [y11])]) ++ [((([] ++ [y12]) ++ [y13]) ++ [y7])]))), (3, (vin 0))] [] (zM <| zM <| zM <| zZ) ?_
  refine pwp_ret ⟨_, (.tmp (d := (.sl 52 1 (List.map enc_sl_52 ((([] ++ [((([] ++ [(ofQ (Rat.divInt ((((a * a) + (b * b)) - (c * c)) - (d * d)) (nq a b c d)))]) ++ [(ofQ (Rat.divInt (2 * ((b * c) - (a * d))) (nq a b c d)))]) ++ [(ofQ (Rat.divInt (2 * ((b * d) + (a * c))) (nq a b c d)))])]) ++ [((([] ++ [(ofQ (Rat.divInt (2 * ((b * c) + (a * d))) (nq a b c d)))]) ++ [(ofQ (Rat.divInt ((((a * a) - (b * b)) + (c * c)) - (d * d)) (nq a b c d)))]) ++ [(ofQ (Rat.divInt (2 * ((c * d) - (a * b))) (nq a b c d)))])]) ++ [((([] ++ [(ofQ (Rat.divInt (2 * ((b * d) - (a * c))) (nq a b c d)))]) ++ [(ofQ (Rat.divInt (2 * ((c * d) + (a * b))) (nq a b c d)))]) ++ [(ofQ (Rat.divInt ((((a * a) - (b * b)) - (c * c)) + (d * d)) (nq a b c d)))])])))) rfl (.tmp (d := (.val (.int .i64 (((0 : Nat) : Int))))) rfl .nil)), ?_⟩
  rfl
end Go.Proofs.YtbecgnplakngdaaGreat
namespace Go.Proofs.YtbecgnplakngdaaGreat
open Go.Fid
set_option maxRecDepth 4000
set_option linter.unusedVariables false
set_option linter.unusedSimpArgs false
theorem cb69 : callB Tryz.prog 69 = true := by kernel_rfl
theorem cb125 : callB Tryz.prog 125 = true := by kernel_rfl
theorem cb127 : callB Tryz.prog 127 = true := by kernel_rfl
theorem cb128 : callB Tryz.prog 128 = true := by kernel_rfl
theorem fo23_0 : fieldB Tryz.prog 23 0 = some 0 := by kernel_rfl
theorem fo23_1 : fieldB Tryz.prog 23 1 = some 1 := by kernel_rfl
theorem fo23_2 : fieldB Tryz.prog 23 2 = some 2 := by kernel_rfl
theorem fo27_0 : fieldB Tryz.prog 27 0 = some 0 := by kernel_rfl
theorem fo27_1 : fieldB Tryz.prog 27 1 = some 1 := by kernel_rfl
theorem fo29_0 : fieldB Tryz.prog 29 0 = some 0 := by kernel_rfl
theorem fo29_1 : fieldB Tryz.prog 29 1 = some 3 := by kernel_rfl
theorem fo29_2 : fieldB Tryz.prog 29 2 = some 7 := by kernel_rfl
theorem fo29_3 : fieldB Tryz.prog 29 3 = some 8 := by kernel_rfl
theorem sh52 : shapeB Tryz.prog 52 = some (false, 1) := by kernel_rfl
theorem q_turn (a b c d : Int) (ha : -1048576 ≤ a ∧ a ≤ 1048576) (hb : -1048576 ≤ b ∧ b ≤ 1048576) (hc : -1048576 ≤ c ∧ c ≤ 1048576) (hd : -1048576 ≤ d ∧ d ≤ 1048576) (hq : rotC a b c d = 0) : Takes Tryz.prog 69 [(encQuat (RQuat.mk a b c d))] (encA130 (A3.mk (A3.mk (ofQ (R00 a b c d)) (ofQ (R01 a b c d)) (ofQ (R02 a b c d))) (A3.mk (ofQ (R10 a b c d)) (ofQ (R11 a b c d)) (ofQ (R12 a b c d))) (A3.mk (ofQ (R20 a b c d)) (ofQ (R21 a b c d)) (ofQ (R22 a b c d))))) := by
  have hn0 := nq_ne hq
  have hnq := nq_b ha hb hc hd
  let y4 := (A3.mk (RRat.mk (RInt.mk false []) (RInt.mk false [])) (RRat.mk (RInt.mk false []) (RInt.mk false [])) (RRat.mk (RInt.mk false []) (RInt.mk false [])))
  let y3 := (bx (encA130 (A3.mk (A3.mk (ofQ (R00 a b c d)) (ofQ (R01 a b c d)) (ofQ (R02 a b c d))) (A3.mk (ofQ (R10 a b c d)) (ofQ (R11 a b c d)) (ofQ (R12 a b c d))) (A3.mk (ofQ (R20 a b c d)) (ofQ (R21 a b c d)) (ofQ (R22 a b c d))))))
  let y2 := (bx (encA130 (A3.mk (A3.mk (ofQ (R00 a b c d)) (ofQ (R01 a b c d)) (ofQ (R02 a b c d))) (A3.mk (ofQ (R10 a b c d)) (ofQ (R11 a b c d)) (ofQ (R12 a b c d))) y4)))
  let y1 := (bx (encA130 (A3.mk y4 y4 y4)))
  refine fn_intro Tryz.func69 rfl cb69 rfl ?_
  show PWp _ _ _ _ ⟨[(0, (.d (encQuat (RQuat.mk a b c d))))], []⟩
  refine pwp_seq <| kx [(1, (.ref 0 0)), (2, (.ref 1 0))] [(0, some (bx (encQuat (RQuat.mk a b c d)))), (1, some y1)] (zN (oBx 0) <| zN (oAl 1 ze131 zo131) <| zZ) ?_
  refine pwp_seq ?_
  have bn1 : QL (Q00 a b c d) 3 := (ql_Q00 (by first | assumption | omega) (by first | assumption | omega) (by first | assumption | omega) (by first | assumption | omega))
  have bn2 : QL (Q01 a b c d) 3 := (ql_Q01 (by first | assumption | omega) (by first | assumption | omega) (by first | assumption | omega) (by first | assumption | omega))
  have bn3 : QL (Q02 a b c d) 3 := (ql_Q02 (by first | assumption | omega) (by first | assumption | omega) (by first | assumption | omega) (by first | assumption | omega))
  have bn4 : QL (Q10 a b c d) 3 := (ql_Q10 (by first | assumption | omega) (by first | assumption | omega) (by first | assumption | omega) (by first | assumption | omega))
  have bn5 : QL (Q11 a b c d) 3 := (ql_Q11 (by first | assumption | omega) (by first | assumption | omega) (by first | assumption | omega) (by first | assumption | omega))
  have bn6 : QL (Q12 a b c d) 3 := (ql_Q12 (by first | assumption | omega) (by first | assumption | omega) (by first | assumption | omega) (by first | assumption | omega))
  have bn7 : QL (Q20 a b c d) 3 := (ql_Q20 (by first | assumption | omega) (by first | assumption | omega) (by first | assumption | omega) (by first | assumption | omega))
  have bn8 : QL (Q21 a b c d) 3 := (ql_Q21 (by first | assumption | omega) (by first | assumption | omega) (by first | assumption | omega) (by first | assumption | omega))
  have bn9 : QL (Q22 a b c d) 3 := (ql_Q22 (by first | assumption | omega) (by first | assumption | omega) (by first | assumption | omega) (by first | assumption | omega))
  refine kx [(3, (vl 52 1 enc_sl_52 [[(ofQ (Q00 a b c d)), (ofQ (Q01 a b c d)), (ofQ (Q02 a b c d))], [(ofQ (Q10 a b c d)), (ofQ (Q11 a b c d)), (ofQ (Q12 a b c d))], [(ofQ (Q20 a b c d)), (ofQ (Q21 a b c d)), (ofQ (Q22 a b c d))]]))] [] (zR (oLa sh25) <| zE (oCl (q_rmat a b c d (by omega) (by omega) (by omega) (by omega) hq hn0)) <| zM <| zE oEx <| zE oEx <| zM <| zM <| zZ) ?_
  refine pwp_seq ?_
  have bn10 : QL (N4 a b c d) 3 := (ql_eqz (Eq.symm (show ((nq a b c d : Int) : Rat) = N4 a b c d from rfl)) (ql_int (z := (nq a b c d)) (lenZ_int (by omega) (by omega)) (by decide)))
  refine kx [(5, (.ref 2 0))] [(2, some (bx (encR (ofQ (N4 a b c d)))))] (zR (oLa sh25) <| zE (oCl (q_norm a b c d (by omega) (by omega) (by omega) (by omega))) <| zE (oCl (by have h := f_whole (nq a b c d) (by omega) (by omega); rw [(show ((nq a b c d : Int) : Rat) = N4 a b c d from rfl)] at h; exact h)) <| zN (oAl 2 ze42 zo42) <| zT (oSt sh42) <| zZ) ?_
  refine pwp_seq <| kx [(6, (.ref 3 0))] [(3, some y1)] (zN (oAl 3 ze131 zo131) <| zZ) ?_
  refine pwp_seq <| pwp_seq <| kx [(16, (vin 0))] [] (zM <| zZ) ?_
  refine pwp_block <| pwp_rounds 20 ?_
  refine pwp_round <| pwp_seq <| kx [(17, (vb true))] [] (zE (oBk true oLt) <| zZ) ?_
  refine pwp_seq <| pwp_cond (b := true) (by kernel_rfl) (fun _ => ?_) (fun h => by cases h)
  refine pwp_skip <| pwp_seq <| pwp_block <| pwp_seq <| kx [(7, (vin 0))] [] (zM <| zM <| zZ) ?_
  have bn11 : QL (R00 a b c d) 6 := (ql_eqz (Eq.symm (Q00_n (a := a) (b := b) (c := c) (d := d) hn0)) (ql_mul (k := 6) bn1 bn10 (by decide)))
  have bn12 : QL (R01 a b c d) 6 := (ql_eqz (Eq.symm (Q01_n (a := a) (b := b) (c := c) (d := d) hn0)) (ql_mul (k := 6) bn2 bn10 (by decide)))
  have bn13 : QL (R02 a b c d) 6 := (ql_eqz (Eq.symm (Q02_n (a := a) (b := b) (c := c) (d := d) hn0)) (ql_mul (k := 6) bn3 bn10 (by decide)))
  refine kd [] [(3, some (bx (encA130 (A3.mk (A3.mk (ofQ (R00 a b c d)) (ofQ (R01 a b c d)) (ofQ (R02 a b c d))) y4 y4))))] mo (wM <| wM <| wM <| wE (oXs el34 0) <| wE (oC1 sh52) <| wE (oXs el52 0) <| wE (oCa sh42) <| wM <| wM <| wE (oXs el34 0) <| wE (oC1 sh52) <| wE (oXs el52 1) <| wE (oCa sh42) <| wM <| wM <| wE (oXs el34 0) <| wE (oC1 sh52) <| wE (oXs el52 2) <| wE (oCa sh42) <| wE (oBf ar129 ze129 zo129) <| wR (oLa sh42) <| wE (oCl (by have h := q_scaled (Q00 a b c d) (Q01 a b c d) (Q02 a b c d) (ql_up bn1 (by decide)) (ql_up bn2 (by decide)) (ql_up bn3 (by decide)) (N4 a b c d) (ql_up bn10 (by decide)); rw [(Q00_n (a := a) (b := b) (c := c) (d := d) hn0), (Q01_n (a := a) (b := b) (c := c) (d := d) hn0), (Q02_n (a := a) (b := b) (c := c) (d := d) hn0)] at h; exact h)) <| wE (oXr ar131 0) <| wT (oSt sh129) <| wZ) ?_
  refine kx [(16, (vin 1))] [] (zE (oAd 1 (hr := by decide)) <| zM <| zZ) ?_
  refine pwp_again (SimImp.refl _) ?_
  refine pwp_seq <| kx [(17, (vb true))] [] (zE (oBk true oLt) <| zZ) ?_
  refine pwp_seq <| pwp_cond (b := true) (by kernel_rfl) (fun _ => ?_) (fun h => by cases h)
  refine pwp_skip <| pwp_seq <| pwp_block <| pwp_seq <| kx [(7, (vin 1))] [] (zM <| zM <| zZ) ?_
  have bn14 : QL (R10 a b c d) 6 := (ql_eqz (Eq.symm (Q10_n (a := a) (b := b) (c := c) (d := d) hn0)) (ql_mul (k := 6) bn4 bn10 (by decide)))
  have bn15 : QL (R11 a b c d) 6 := (ql_eqz (Eq.symm (Q11_n (a := a) (b := b) (c := c) (d := d) hn0)) (ql_mul (k := 6) bn5 bn10 (by decide)))
  have bn16 : QL (R12 a b c d) 6 := (ql_eqz (Eq.symm (Q12_n (a := a) (b := b) (c := c) (d := d) hn0)) (ql_mul (k := 6) bn6 bn10 (by decide)))
  refine kd [] [(3, some y2)] mo (wM <| wM <| wM <| wE (oXs el34 1) <| wE (oC1 sh52) <| wE (oXs el52 0) <| wE (oCa sh42) <| wM <| wM <| wE (oXs el34 1) <| wE (oC1 sh52) <| wE (oXs el52 1) <| wE (oCa sh42) <| wM <| wM <| wE (oXs el34 1) <| wE (oC1 sh52) <| wE (oXs el52 2) <| wE (oCa sh42) <| wE (oBf ar129 ze129 zo129) <| wR (oLa sh42) <| wE (oCl (by have h := q_scaled (Q10 a b c d) (Q11 a b c d) (Q12 a b c d) (ql_up bn4 (by decide)) (ql_up bn5 (by decide)) (ql_up bn6 (by decide)) (N4 a b c d) (ql_up bn10 (by decide)); rw [(Q10_n (a := a) (b := b) (c := c) (d := d) hn0), (Q11_n (a := a) (b := b) (c := c) (d := d) hn0), (Q12_n (a := a) (b := b) (c := c) (d := d) hn0)] at h; exact h)) <| wE (oXr ar131 1) <| wT (oSt sh129) <| wZ) ?_
  refine kx [(16, (vin 2))] [] (zE (oAd 2 (hr := by decide)) <| zM <| zZ) ?_
  refine pwp_again (SimImp.refl _) ?_
  refine pwp_seq <| kx [(17, (vb true))] [] (zE (oBk true oLt) <| zZ) ?_
  refine pwp_seq <| pwp_cond (b := true) (by kernel_rfl) (fun _ => ?_) (fun h => by cases h)
  refine pwp_skip <| pwp_seq <| pwp_block <| pwp_seq <| pwp_sim (wk (l := [(2, (.ref 1 0)), (3, (vl 52 1 enc_sl_52 [[(ofQ (Q00 a b c d)), (ofQ (Q01 a b c d)), (ofQ (Q02 a b c d))], [(ofQ (Q10 a b c d)), (ofQ (Q11 a b c d)), (ofQ (Q12 a b c d))], [(ofQ (Q20 a b c d)), (ofQ (Q21 a b c d)), (ofQ (Q22 a b c d))]])), (5, (.ref 2 0)), (6, (.ref 3 0)), (16, (vin 2)), (17, (vb true))]) (b := [(1, some y1), (2, some (bx (encR (ofQ (N4 a b c d))))), (3, some y2)])) ?_
  refine kx [(7, (vin 2))] [] (zM <| zM <| zZ) ?_
  have bn17 : QL (R20 a b c d) 6 := (ql_eqz (Eq.symm (Q20_n (a := a) (b := b) (c := c) (d := d) hn0)) (ql_mul (k := 6) bn7 bn10 (by decide)))
  have bn18 : QL (R21 a b c d) 6 := (ql_eqz (Eq.symm (Q21_n (a := a) (b := b) (c := c) (d := d) hn0)) (ql_mul (k := 6) bn8 bn10 (by decide)))
  have bn19 : QL (R22 a b c d) 6 := (ql_eqz (Eq.symm (Q22_n (a := a) (b := b) (c := c) (d := d) hn0)) (ql_mul (k := 6) bn9 bn10 (by decide)))
  refine kd [] [(3, some y3)] mo (wM <| wM <| wM <| wE (oXs el34 2) <| wE (oC1 sh52) <| wE (oXs el52 0) <| wE (oCa sh42) <| wM <| wM <| wE (oXs el34 2) <| wE (oC1 sh52) <| wE (oXs el52 1) <| wE (oCa sh42) <| wM <| wM <| wE (oXs el34 2) <| wE (oC1 sh52) <| wE (oXs el52 2) <| wE (oCa sh42) <| wE (oBf ar129 ze129 zo129) <| wR (oLa sh42) <| wE (oCl (by have h := q_scaled (Q20 a b c d) (Q21 a b c d) (Q22 a b c d) (ql_up bn7 (by decide)) (ql_up bn8 (by decide)) (ql_up bn9 (by decide)) (N4 a b c d) (ql_up bn10 (by decide)); rw [(Q20_n (a := a) (b := b) (c := c) (d := d) hn0), (Q21_n (a := a) (b := b) (c := c) (d := d) hn0), (Q22_n (a := a) (b := b) (c := c) (d := d) hn0)] at h; exact h)) <| wE (oXr ar131 2) <| wT (oSt sh129) <| wZ) ?_
  refine kx [(16, (vin 3))] [] (zE (oAd 3 (hr := by decide)) <| zM <| zZ) ?_
  refine pwp_again (SimImp.refl _) ?_
  refine pwp_seq <| kx [(17, (vb false))] [] (zE (oBk false oLt) <| zZ) ?_
  refine pwp_seq <| pwp_cond (b := false) (by kernel_rfl) (fun h => by cases h) (fun _ => ?_)
  refine pwp_exit <| pwp_seq <| kx [] [(1, some y3)] (zR (oLa sh131) <| zT (oSt sh131) <| zZ) ?_
  refine pwp_ret ⟨_, (res_a (cs := (bx (encA130 (A3.mk (A3.mk (ofQ (R00 a b c d)) (ofQ (R01 a b c d)) (ofQ (R02 a b c d))) (A3.mk (ofQ (R10 a b c d)) (ofQ (R11 a b c d)) (ofQ (R12 a b c d))) (A3.mk (ofQ (R20 a b c d)) (ofQ (R21 a b c d)) (ofQ (R22 a b c d))))))) (d := (encA130 (A3.mk (A3.mk (ofQ (R00 a b c d)) (ofQ (R01 a b c d)) (ofQ (R02 a b c d))) (A3.mk (ofQ (R10 a b c d)) (ofQ (R11 a b c d)) (ofQ (R12 a b c d))) (A3.mk (ofQ (R20 a b c d)) (ofQ (R21 a b c d)) (ofQ (R22 a b c d)))))) rfl rfl sh131 rfl rfl .nil), ?_⟩
  rfl
theorem q_stn (sx sy sz sa sb sc sd sf su sv : Int) : Takes Tryz.prog 125 [(encStn (RStn.mk (RSpot.mk sx sy sz) (RQuat.mk sa sb sc sd) sf (RPix.mk su sv)))] (.val (.int .i64 ((((stnC sx sy sz su sv sf sa sb sc sd) : Nat) : Int)))) := by
  refine fn_intro Tryz.func125 rfl cb125 rfl ?_
  show PWp _ _ _ _ ⟨[(0, (.d (encStn (RStn.mk (RSpot.mk sx sy sz) (RQuat.mk sa sb sc sd) sf (RPix.mk su sv)))))], []⟩
  refine pwp_seq <| kx [(1, (.ref 0 0))] [(0, some (bx (encStn (RStn.mk (RSpot.mk sx sy sz) (RQuat.mk sa sb sc sd) sf (RPix.mk su sv)))))] (zN (oBx 0) <| zM <| zZ) ?_
  refine pwp_seq <| pwp_seq <| kx [(20, (vl 3 1 enc_i64 [sx, sy, sz, su, sv])), (21, (vin 5)), (22, (vin 0))] [] (zE (oFr fo29_0) <| zE (oFr fo23_0) <| zR (oL1 sh3) <| zE (oFr fo29_0) <| zE (oFr fo23_1) <| zR (oL1 sh3) <| zE (oFr fo29_0) <| zE (oFr fo23_2) <| zR (oL1 sh3) <| zE (oFr fo29_3) <| zE (oFr fo27_0) <| zR (oL1 sh3) <| zE (oFr fo29_3) <| zE (oFr fo27_1) <| zR (oL1 sh3) <| zE (oBs el74 ze3 zo3) <| zE (oLn el74 5) <| zM <| zZ) ?_
  refine pwp_block <| pwp_rounds 20 ?_
  refine pwp_round <| pwp_seq <| kx [(23, (vb true))] [] (zE (oBk true oLt) <| zZ) ?_
  refine pwp_seq <| pwp_cond (b := true) (by kernel_rfl) (fun _ => ?_) (fun h => by cases h)
  refine pwp_skip <| pwp_seq <| pwp_block <| pwp_seq <| kx [(4, (vi sx))] [] (zE (oXs el74 0) <| zE (oC1 sh3) <| zM <| zZ) ?_
  refine pwp_seq <| kx [(31, (vb (decide (sx < -1048576) || decide (((1048576 : Nat) : Int) < sx))))] [] ?_ ?_
  · refine zM <| zE oLt <| zE (oV (vb (decide (sx < -1048576))) (mv_ok (by kernel_rfl))) <| ?_
    rcases hb1 : (decide (sx < -1048576)) with _ | _
    · replace hb1 := of_decide_eq_false hb1
      exact zM <| zE oGt <| zE oPo <| zZ
    · replace hb1 := of_decide_eq_true hb1
      exact zK <| zK <| zE oPt <| zZ
  refine pwp_cond rfl (fun h2 => ?_) (fun h2 => ?_)
  · refine pwp_seq <| kx [(2, (vin 2))] [] (zM <| zZ) ?_
    refine pwp_ret ⟨_, (.tmp (d := (.val (.int .i64 (((2 : Nat) : Int))))) rfl .nil), ?_⟩
    first | (rw [show stnC sx sy sz su sv sf sa sb sc sd = rotC sa sb sc sd from stnC_q (by unfold stnP; simp_all <;> omega)]; rfl) | (rw [show stnC sx sy sz su sv sf sa sb sc sd = 2 from stnC_r (by unfold stnP; simp_all <;> omega)]; rfl)
  · refine pwp_skip <| kx [(22, (vin 1))] [] (zE (oAd 1 (hr := by decide)) <| zM <| zZ) ?_
    refine pwp_again (SimImp.refl _) ?_
    refine pwp_seq <| kx [(23, (vb true))] [] (zE (oBk true oLt) <| zZ) ?_
    refine pwp_seq <| pwp_cond (b := true) (by kernel_rfl) (fun _ => ?_) (fun h => by cases h)
    refine pwp_skip <| pwp_seq <| pwp_block <| pwp_seq <| kx [(4, (vi sy))] [] (zE (oXs el74 1) <| zE (oC1 sh3) <| zM <| zZ) ?_
    refine pwp_seq <| kx [(31, (vb (decide (sy < -1048576) || decide (((1048576 : Nat) : Int) < sy))))] [] ?_ ?_
    · refine zM <| zE oLt <| zE (oV (vb (decide (sy < -1048576))) (mv_ok (by kernel_rfl))) <| ?_
      rcases hb3 : (decide (sy < -1048576)) with _ | _
      · replace hb3 := of_decide_eq_false hb3
        exact zM <| zE oGt <| zE oPo <| zZ
      · replace hb3 := of_decide_eq_true hb3
        exact zK <| zK <| zE oPt <| zZ
    refine pwp_cond rfl (fun h4 => ?_) (fun h4 => ?_)
    · refine pwp_seq <| kx [(2, (vin 2))] [] (zM <| zZ) ?_
      refine pwp_ret ⟨_, (.tmp (d := (.val (.int .i64 (((2 : Nat) : Int))))) rfl .nil), ?_⟩
      first | (rw [show stnC sx sy sz su sv sf sa sb sc sd = rotC sa sb sc sd from stnC_q (by unfold stnP; simp_all <;> omega)]; rfl) | (rw [show stnC sx sy sz su sv sf sa sb sc sd = 2 from stnC_r (by unfold stnP; simp_all <;> omega)]; rfl)
    · refine pwp_skip <| kx [(22, (vin 2))] [] (zE (oAd 2 (hr := by decide)) <| zM <| zZ) ?_
      refine pwp_again (SimImp.refl _) ?_
      refine pwp_seq <| kx [(23, (vb true))] [] (zE (oBk true oLt) <| zZ) ?_
      refine pwp_seq <| pwp_cond (b := true) (by kernel_rfl) (fun _ => ?_) (fun h => by cases h)
      refine pwp_skip <| pwp_seq <| pwp_block <| pwp_seq <| kx [(4, (vi sz))] [] (zE (oXs el74 2) <| zE (oC1 sh3) <| zM <| zZ) ?_
      refine pwp_seq <| kx [(31, (vb (decide (sz < -1048576) || decide (((1048576 : Nat) : Int) < sz))))] [] ?_ ?_
      · refine zM <| zE oLt <| zE (oV (vb (decide (sz < -1048576))) (mv_ok (by kernel_rfl))) <| ?_
        rcases hb5 : (decide (sz < -1048576)) with _ | _
        · replace hb5 := of_decide_eq_false hb5
          exact zM <| zE oGt <| zE oPo <| zZ
        · replace hb5 := of_decide_eq_true hb5
          exact zK <| zK <| zE oPt <| zZ
      refine pwp_cond rfl (fun h6 => ?_) (fun h6 => ?_)
      · refine pwp_seq <| kx [(2, (vin 2))] [] (zM <| zZ) ?_
        refine pwp_ret ⟨_, (.tmp (d := (.val (.int .i64 (((2 : Nat) : Int))))) rfl .nil), ?_⟩
        first | (rw [show stnC sx sy sz su sv sf sa sb sc sd = rotC sa sb sc sd from stnC_q (by unfold stnP; simp_all <;> omega)]; rfl) | (rw [show stnC sx sy sz su sv sf sa sb sc sd = 2 from stnC_r (by unfold stnP; simp_all <;> omega)]; rfl)
      · refine pwp_skip <| kx [(22, (vin 3))] [] (zE (oAd 3 (hr := by decide)) <| zM <| zZ) ?_
        refine pwp_again (SimImp.refl _) ?_
        refine pwp_seq <| pwp_sim (wk (l := [(1, (.ref 0 0)), (20, (vl 3 1 enc_i64 [sx, sy, sz, su, sv])), (21, (vin 5)), (22, (vin 3))]) (b := [(0, some (bx (encStn (RStn.mk (RSpot.mk sx sy sz) (RQuat.mk sa sb sc sd) sf (RPix.mk su sv)))))])) ?_
        refine kx [(23, (vb true))] [] (zE (oBk true oLt) <| zZ) ?_
        refine pwp_seq <| pwp_cond (b := true) (by kernel_rfl) (fun _ => ?_) (fun h => by cases h)
        refine pwp_skip <| pwp_seq <| pwp_block <| pwp_seq <| kx [(4, (vi su))] [] (zE (oXs el74 3) <| zE (oC1 sh3) <| zM <| zZ) ?_
        refine pwp_seq <| kx [(31, (vb (decide (su < -1048576) || decide (((1048576 : Nat) : Int) < su))))] [] ?_ ?_
        · refine zM <| zE oLt <| zE (oV (vb (decide (su < -1048576))) (mv_ok (by kernel_rfl))) <| ?_
          rcases hb7 : (decide (su < -1048576)) with _ | _
          · replace hb7 := of_decide_eq_false hb7
            exact zM <| zE oGt <| zE oPo <| zZ
          · replace hb7 := of_decide_eq_true hb7
            exact zK <| zK <| zE oPt <| zZ
        refine pwp_cond rfl (fun h8 => ?_) (fun h8 => ?_)
        · refine pwp_seq <| kx [(2, (vin 2))] [] (zM <| zZ) ?_
          refine pwp_ret ⟨_, (.tmp (d := (.val (.int .i64 (((2 : Nat) : Int))))) rfl .nil), ?_⟩
          first | (rw [show stnC sx sy sz su sv sf sa sb sc sd = rotC sa sb sc sd from stnC_q (by unfold stnP; simp_all <;> omega)]; rfl) | (rw [show stnC sx sy sz su sv sf sa sb sc sd = 2 from stnC_r (by unfold stnP; simp_all <;> omega)]; rfl)
        · refine pwp_skip <| kx [(22, (vin 4))] [] (zE (oAd 4 (hr := by decide)) <| zM <| zZ) ?_
          refine pwp_again (SimImp.refl _) ?_
          refine pwp_seq <| kx [(23, (vb true))] [] (zE (oBk true oLt) <| zZ) ?_
          refine pwp_seq <| pwp_cond (b := true) (by kernel_rfl) (fun _ => ?_) (fun h => by cases h)
          refine pwp_skip <| pwp_seq <| pwp_block <| pwp_seq <| kx [(4, (vi sv))] [] (zE (oXs el74 4) <| zE (oC1 sh3) <| zM <| zZ) ?_
          refine pwp_seq <| kx [(31, (vb (decide (sv < -1048576) || decide (((1048576 : Nat) : Int) < sv))))] [] ?_ ?_
          · refine zM <| zE oLt <| zE (oV (vb (decide (sv < -1048576))) (mv_ok (by kernel_rfl))) <| ?_
            rcases hb9 : (decide (sv < -1048576)) with _ | _
            · replace hb9 := of_decide_eq_false hb9
              exact zM <| zE oGt <| zE oPo <| zZ
            · replace hb9 := of_decide_eq_true hb9
              exact zK <| zK <| zE oPt <| zZ
          refine pwp_cond rfl (fun h10 => ?_) (fun h10 => ?_)
          · refine pwp_seq <| kx [(2, (vin 2))] [] (zM <| zZ) ?_
            refine pwp_ret ⟨_, (.tmp (d := (.val (.int .i64 (((2 : Nat) : Int))))) rfl .nil), ?_⟩
            first | (rw [show stnC sx sy sz su sv sf sa sb sc sd = rotC sa sb sc sd from stnC_q (by unfold stnP; simp_all <;> omega)]; rfl) | (rw [show stnC sx sy sz su sv sf sa sb sc sd = 2 from stnC_r (by unfold stnP; simp_all <;> omega)]; rfl)
          · refine pwp_skip <| kx [(22, (vin 5))] [] (zE (oAd 5 (hr := by decide)) <| zM <| zZ) ?_
            refine pwp_again (SimImp.refl _) ?_
            refine pwp_seq <| kx [(23, (vb false))] [] (zE (oBk false oLt) <| zZ) ?_
            refine pwp_seq <| pwp_cond (b := false) (by kernel_rfl) (fun h => by cases h) (fun _ => ?_)
            refine pwp_exit <| pwp_seq <| pwp_seq <| kx [(40, (vb (decide (sf < ((1 : Nat) : Int)) || decide (((1048576 : Nat) : Int) < sf))))] [] ?_ ?_
            · refine zE (oFr fo29_2) <| zR (oL1 sh3) <| zE oLt <| zE (oV (vb (decide (sf < ((1 : Nat) : Int)))) (mv_ok (by kernel_rfl))) <| ?_
              rcases hb11 : (decide (sf < ((1 : Nat) : Int))) with _ | _
              · replace hb11 := of_decide_eq_false hb11
                exact zE (oFr fo29_2) <| zR (oL1 sh3) <| zE oGt <| zE oPo <| zZ
              · replace hb11 := of_decide_eq_true hb11
                exact zK <| zK <| zK <| zE oPt <| zZ
            refine pwp_cond rfl (fun h12 => ?_) (fun h12 => ?_)
            · refine pwp_seq <| kx [(2, (vin 2))] [] (zM <| zZ) ?_
              refine pwp_ret ⟨_, (.tmp (d := (.val (.int .i64 (((2 : Nat) : Int))))) rfl .nil), ?_⟩
              first | (rw [show stnC sx sy sz su sv sf sa sb sc sd = rotC sa sb sc sd from stnC_q (by unfold stnP; simp_all <;> omega)]; rfl) | (rw [show stnC sx sy sz su sv sf sa sb sc sd = 2 from stnC_r (by unfold stnP; simp_all <;> omega)]; rfl)
            · refine pwp_skip <| pwp_seq <| kx [(2, (vin (rotC sa sb sc sd)))] [] (zE (oFr fo29_1) <| zR (oLa sh25) <| zE (oCl (q_chk sa sb sc sd)) <| zM <| zZ) ?_
              refine pwp_ret ⟨_, (.tmp (d := (.val (.int .i64 ((((rotC sa sb sc sd) : Nat) : Int))))) rfl .nil), ?_⟩
              first | (rw [show stnC sx sy sz su sv sf sa sb sc sd = rotC sa sb sc sd from stnC_q (by unfold stnP; simp_all <;> omega)]; rfl) | (rw [show stnC sx sy sz su sv sf sa sb sc sd = 2 from stnC_r (by unfold stnP; simp_all <;> omega)]; rfl)
theorem q_red (a0 a1 a2 : Rat) (ha0 : QL a0 10000000) (ha1 : QL a1 10000000) (ha2 : QL a2 10000000) (hz : zeroV a0 a1 a2 = false) : Takes Tryz.prog 127 [(encA43 (A3.mk (ofQ a0) (ofQ a1) (ofQ a2)))] (encA43 (A3.mk (ofQ (a0 * (redK a0 a1 a2))) (ofQ (a1 * (redK a0 a1 a2))) (ofQ (a2 * (redK a0 a1 a2))))) := by
  refine fn_intro Tryz.func127 rfl cb127 rfl ?_
  show PWp _ _ _ _ ⟨[(0, (.d (encA43 (A3.mk (ofQ a0) (ofQ a1) (ofQ a2)))))], []⟩
  refine pwp_seq <| kx [(1, (.ref 0 0)), (2, (.ref 1 0))] [(0, some (bx (encA43 (A3.mk (ofQ a0) (ofQ a1) (ofQ a2))))), (1, some (bx (encA43 (A3.mk (RRat.mk (RInt.mk false []) (RInt.mk false [])) (RRat.mk (RInt.mk false []) (RInt.mk false [])) (RRat.mk (RInt.mk false []) (RInt.mk false []))))))] (zN (oBx 0) <| zN (oAl 1 ze129 zo129) <| zZ) ?_
  refine pwp_seq ?_
  have bn1 : IOk (ofZ (((Int.gcd a1.num a2.num : Nat) : Int))) (((Int.gcd a1.num a2.num : Nat) : Int)) 10000000 := (iok_gcd (k := 10000000) (qok_num ha1) (qok_num ha2) (by decide))
  have bn2 : IOk (ofZ (((Int.gcd a0.num (((Int.gcd a1.num a2.num : Nat) : Int)) : Nat) : Int))) (((Int.gcd a0.num (((Int.gcd a1.num a2.num : Nat) : Int)) : Nat) : Int)) 10000000 := (iok_gcd (k := 10000000) (qok_num ha0) bn1 (by decide))
  refine kd [(3, (.ref 2 0))] [(2, some (bx (encI (ofZ ((Int.gcd a0.num (((Int.gcd a1.num a2.num : Nat) : Int)) : Nat) : Int)))))] mo (wE (oXr ar129 0) <| wE (oFr fo42_0) <| wR (oLa sh40) <| wE (oXr ar129 1) <| wE (oFr fo42_0) <| wR (oLa sh40) <| wE (oXr ar129 2) <| wE (oFr fo42_0) <| wR (oLa sh40) <| wE (oCl (s_gcd (qok_num ha1) (qok_num ha2) (by decide) (by decide))) <| wE (oCl (s_gcd (qok_num ha0) bn1 (by decide) (by decide))) <| wN (oAl 2 ze40 zo40) <| wT (oSt sh40) <| wZ) ?_
  refine pwp_seq ?_
  have bn3 : QL (Rat.divInt 1 (((Int.gcd a0.num (((Int.gcd a1.num a2.num : Nat) : Int)) : Nat) : Int))) 10000000 := (ql_divInt (n := 10000000) (Nat.le_trans (IOk.ln (iok_small (z := 1) (by decide))) (by decide)) (Nat.le_trans (IOk.ln bn2) (by decide)) (by decide))
  refine kd [(4, (.ref 3 0))] [(3, some (bx (encR (ofQ (Rat.divInt 1 (((Int.gcd a0.num (((Int.gcd a1.num a2.num : Nat) : Int)) : Nat) : Int)))))))] mo (wE (oCl (t_of 1 (by decide) (by decide))) <| wR (oLa sh40) <| wE (oCl (f_newO (ofZ 1) 1 (iok_up (iok_small (z := 1) (by decide)) (by decide)) (ofZ ((Int.gcd a0.num (((Int.gcd a1.num a2.num : Nat) : Int)) : Nat) : Int)) (((Int.gcd a0.num (((Int.gcd a1.num a2.num : Nat) : Int)) : Nat) : Int)) (iu bn2) (gcd3_ne hz))) <| wM <| wE oEx <| wE oEx <| wN (oAl 3 ze42 zo42) <| wT (oSt sh42) <| wM <| wZ) ?_
  refine pwp_seq <| kx [] [(1, some (bx (encA43 (A3.mk (ofQ (a0 * (Rat.divInt 1 (((Int.gcd a0.num (((Int.gcd a1.num a2.num : Nat) : Int)) : Nat) : Int))))) (ofQ (a1 * (Rat.divInt 1 (((Int.gcd a0.num (((Int.gcd a1.num a2.num : Nat) : Int)) : Nat) : Int))))) (ofQ (a2 * (Rat.divInt 1 (((Int.gcd a0.num (((Int.gcd a1.num a2.num : Nat) : Int)) : Nat) : Int)))))))))] (zR (oLa sh129) <| zR (oLa sh42) <| zE (oCl (q_scaled a0 a1 a2 (ql_up ha0 (by decide)) (ql_up ha1 (by decide)) (ql_up ha2 (by decide)) (Rat.divInt 1 (((Int.gcd a0.num (((Int.gcd a1.num a2.num : Nat) : Int)) : Nat) : Int))) (ql_up bn3 (by decide)))) <| zT (oSt sh129) <| zZ) ?_
  refine pwp_ret ⟨_, (res_a (cs := (bx (encA43 (A3.mk (ofQ (a0 * (Rat.divInt 1 (((Int.gcd a0.num (((Int.gcd a1.num a2.num : Nat) : Int)) : Nat) : Int))))) (ofQ (a1 * (Rat.divInt 1 (((Int.gcd a0.num (((Int.gcd a1.num a2.num : Nat) : Int)) : Nat) : Int))))) (ofQ (a2 * (Rat.divInt 1 (((Int.gcd a0.num (((Int.gcd a1.num a2.num : Nat) : Int)) : Nat) : Int))))))))) (d := (encA43 (A3.mk (ofQ (a0 * (Rat.divInt 1 (((Int.gcd a0.num (((Int.gcd a1.num a2.num : Nat) : Int)) : Nat) : Int))))) (ofQ (a1 * (Rat.divInt 1 (((Int.gcd a0.num (((Int.gcd a1.num a2.num : Nat) : Int)) : Nat) : Int))))) (ofQ (a2 * (Rat.divInt 1 (((Int.gcd a0.num (((Int.gcd a1.num a2.num : Nat) : Int)) : Nat) : Int)))))))) rfl rfl sh129 rfl rfl .nil), ?_⟩
  rfl
theorem q_isz (a0 a1 a2 : Rat) (ha0 : QL a0 100000000) (ha1 : QL a1 100000000) (ha2 : QL a2 100000000) : Takes Tryz.prog 128 [(encA43 (A3.mk (ofQ a0) (ofQ a1) (ofQ a2)))] (.val (.bool ((zeroV a0 a1 a2)))) := by
  refine fn_intro Tryz.func128 rfl cb128 rfl ?_
  show PWp _ _ _ _ ⟨[(0, (.d (encA43 (A3.mk (ofQ a0) (ofQ a1) (ofQ a2)))))], []⟩
  refine pwp_seq <| kx [(1, (.ref 0 0))] [(0, some (bx (encA43 (A3.mk (ofQ a0) (ofQ a1) (ofQ a2)))))] (zN (oBx 0) <| zM <| zZ) ?_
  refine pwp_seq <| kx [(2, (vb ((signQ (dot3 a0 a1 a2 a0 a1 a2)) == 0)))] [] (zR (oLa sh129) <| zR (oLa sh129) <| zE (oCl (q_dot a0 a1 a2 ha0 ha1 ha2 a0 a1 a2 ha0 ha1 ha2)) <| zE (oCl (f_sign (ofQ (dot3 a0 a1 a2 a0 a1 a2)) (dot3 a0 a1 a2 a0 a1 a2) (qok_up (qok_of (ql_dot3 (n := 100000000) (k := 600000002) ha0 ha1 ha2 ha0 ha1 ha2 (by decide))) (by decide)))) <| zE oEq <| zM <| zZ) ?_
  refine pwp_ret ⟨_, (.tmp (d := (.val (.bool (((signQ (dot3 a0 a1 a2 a0 a1 a2)) == 0))))) rfl .nil), ?_⟩
  rw [← zeroV_dot]; rfl
end Go.Proofs.YtbecgnplakngdaaGreat
namespace Go.Proofs.YtbecgnplakngdaaGreat
open Go.Fid
set_option maxRecDepth 4000
set_option linter.unusedVariables false
set_option linter.unusedSimpArgs false
theorem cb68 : callB Tryz.prog 68 = true := by kernel_rfl
theorem eqs23 : eqsB Tryz.prog 23 = some 3 := by kernel_rfl
theorem fo31_0 : fieldB Tryz.prog 31 0 = some 0 := by kernel_rfl
theorem fo31_1 : fieldB Tryz.prog 31 1 = some 10 := by kernel_rfl
theorem fo134_2 : fieldB Tryz.prog 134 2 = some 20 := by kernel_rfl
theorem fo134_3 : fieldB Tryz.prog 134 3 = some 32 := by kernel_rfl
theorem pl134 : placesB Tryz.prog 134 = some [(0, 10), (10, 10), (20, 12), (32, 36)] := by kernel_rfl
theorem sh23 : shapeB Tryz.prog 23 = some (true, 3) := by kernel_rfl
theorem sh29 : shapeB Tryz.prog 29 = some (true, 10) := by kernel_rfl
theorem sh31 : shapeB Tryz.prog 31 = some (true, 20) := by kernel_rfl
theorem ze23 : zeroB Tryz.prog 23 = some [.int .i64 0, .int .i64 0, .int .i64 0] := by kernel_rfl
theorem ze29 : zeroB Tryz.prog 29 = some [.int .i64 0, .int .i64 0, .int .i64 0, .int .i64 0, .int .i64 0, .int .i64 0, .int .i64 0, .int .i64 0, .int .i64 0, .int .i64 0] := by kernel_rfl
theorem ze134 : zeroB Tryz.prog 134 = some [.int .i64 0, .int .i64 0, .int .i64 0, .int .i64 0, .int .i64 0, .int .i64 0, .int .i64 0, .int .i64 0, .int .i64 0, .int .i64 0, .int .i64 0, .int .i64 0, .int .i64 0, .int .i64 0, .int .i64 0, .int .i64 0, .int .i64 0, .int .i64 0, .int .i64 0, .int .i64 0, .bool false, .slice none 0 0, .bool false, .slice none 0 0, .bool false, .slice none 0 0, .bool false, .slice none 0 0, .bool false, .slice none 0 0, .bool false, .slice none 0 0, .bool false, .slice none 0 0, .bool false, .slice none 0 0, .bool false, .slice none 0 0, .bool false, .slice none 0 0, .bool false, .slice none 0 0, .bool false, .slice none 0 0, .bool false, .slice none 0 0, .bool false, .slice none 0 0, .bool false, .slice none 0 0, .bool false, .slice none 0 0, .bool false, .slice none 0 0, .bool false, .slice none 0 0, .bool false, .slice none 0 0, .bool false, .slice none 0 0, .bool false, .slice none 0 0, .bool false, .slice none 0 0, .bool false, .slice none 0 0, .bool false, .slice none 0 0] := by kernel_rfl
theorem zo23 : ZOk [.int .i64 0, .int .i64 0, .int .i64 0] [.val (.int .i64 0), .val (.int .i64 0), .val (.int .i64 0)] := by simp [ZOk, Value.oneCell']
theorem zo29 : ZOk [.int .i64 0, .int .i64 0, .int .i64 0, .int .i64 0, .int .i64 0, .int .i64 0, .int .i64 0, .int .i64 0, .int .i64 0, .int .i64 0] [.val (.int .i64 0), .val (.int .i64 0), .val (.int .i64 0), .val (.int .i64 0), .val (.int .i64 0), .val (.int .i64 0), .val (.int .i64 0), .val (.int .i64 0), .val (.int .i64 0), .val (.int .i64 0)] := by simp [ZOk, Value.oneCell']
theorem zo134 : ZOk [.int .i64 0, .int .i64 0, .int .i64 0, .int .i64 0, .int .i64 0, .int .i64 0, .int .i64 0, .int .i64 0, .int .i64 0, .int .i64 0, .int .i64 0, .int .i64 0, .int .i64 0, .int .i64 0, .int .i64 0, .int .i64 0, .int .i64 0, .int .i64 0, .int .i64 0, .int .i64 0, .bool false, .slice none 0 0, .bool false, .slice none 0 0, .bool false, .slice none 0 0, .bool false, .slice none 0 0, .bool false, .slice none 0 0, .bool false, .slice none 0 0, .bool false, .slice none 0 0, .bool false, .slice none 0 0, .bool false, .slice none 0 0, .bool false, .slice none 0 0, .bool false, .slice none 0 0, .bool false, .slice none 0 0, .bool false, .slice none 0 0, .bool false, .slice none 0 0, .bool false, .slice none 0 0, .bool false, .slice none 0 0, .bool false, .slice none 0 0, .bool false, .slice none 0 0, .bool false, .slice none 0 0, .bool false, .slice none 0 0, .bool false, .slice none 0 0, .bool false, .slice none 0 0, .bool false, .slice none 0 0, .bool false, .slice none 0 0] [.val (.int .i64 0), .val (.int .i64 0), .val (.int .i64 0), .val (.int .i64 0), .val (.int .i64 0), .val (.int .i64 0), .val (.int .i64 0), .val (.int .i64 0), .val (.int .i64 0), .val (.int .i64 0), .val (.int .i64 0), .val (.int .i64 0), .val (.int .i64 0), .val (.int .i64 0), .val (.int .i64 0), .val (.int .i64 0), .val (.int .i64 0), .val (.int .i64 0), .val (.int .i64 0), .val (.int .i64 0), .val (.bool false), .sl 152 1 [], .val (.bool false), .sl 152 1 [], .val (.bool false), .sl 152 1 [], .val (.bool false), .sl 152 1 [], .val (.bool false), .sl 152 1 [], .val (.bool false), .sl 152 1 [], .val (.bool false), .sl 152 1 [], .val (.bool false), .sl 152 1 [], .val (.bool false), .sl 152 1 [], .val (.bool false), .sl 152 1 [], .val (.bool false), .sl 152 1 [], .val (.bool false), .sl 152 1 [], .val (.bool false), .sl 152 1 [], .val (.bool false), .sl 152 1 [], .val (.bool false), .sl 152 1 [], .val (.bool false), .sl 152 1 [], .val (.bool false), .sl 152 1 [], .val (.bool false), .sl 152 1 [], .val (.bool false), .sl 152 1 [], .val (.bool false), .sl 152 1 [], .val (.bool false), .sl 152 1 [], .val (.bool false), .sl 152 1 [], .val (.bool false), .sl 152 1 [], .val (.bool false), .sl 152 1 []] := by simp [ZOk, Value.oneCell']
theorem q_rec (lx ly lz la lb lc ld lf lu lv rx ry rz ra rb rc rd rf ru rv : Int) (b0 b1 b2 e00 e01 e02 e10 e11 e12 e20 e21 e22 : Rat) (hF : RFr lx ly lz la lb lc ld rx ry rz ra rb rc rd b0 b1 b2 e00 e01 e02 e10 e11 e12 e20 e21 e22) (hqb0 : QL b0 3) (hqb1 : QL b1 3) (hqb2 : QL b2 3) (hqe00 : QL e00 400) (hqe01 : QL e01 400) (hqe02 : QL e02 400) (hqe10 : QL e10 400) (hqe11 : QL e11 400) (hqe12 : QL e12 400) (hqe20 : QL e20 400) (hqe21 : QL e21 400) (hqe22 : QL e22 400) (hl : stnC lx ly lz lu lv lf la lb lc ld = 0) (hr : stnC rx ry rz ru rv rf ra rb rc rd = 0) (hup : upV la lb lc ld ra rb rc rd b0 b1 b2 = false) : Takes Tryz.prog 68 [(encStereo (RStereo.mk (RStn.mk (RSpot.mk lx ly lz) (RQuat.mk la lb lc ld) lf (RPix.mk lu lv)) (RStn.mk (RSpot.mk rx ry rz) (RQuat.mk ra rb rc rd) rf (RPix.mk ru rv))))] (.tup [(.cptr 1000001 (Dat.cells (encRp (RRp.mk (RStn.mk (RSpot.mk lx ly lz) (RQuat.mk la lb lc ld) lf (RPix.mk lu lv)) (RStn.mk (RSpot.mk rx ry rz) (RQuat.mk ra rb rc rd) rf (RPix.mk ru rv)) (A3.mk (ofQ b0) (ofQ b1) (ofQ b2)) (A3.mk (A3.mk (ofQ e00) (ofQ e01) (ofQ e02)) (A3.mk (ofQ e10) (ofQ e11) (ofQ e12)) (A3.mk (ofQ e20) (ofQ e21) (ofQ e22)))))) 0), (.val (.int .i64 (0)))]) := by
  have hbl := stnC_ok hl
  have hbr := stnC_ok hr
  obtain ⟨hlx, hly, hlz, hlu, hlv, hlf, hlq⟩ := hbl
  obtain ⟨hrx, hry, hrz, hru, hrv, hrf, hrq⟩ := hbr
  obtain ⟨hla, hlb, hlc, hld, -⟩ := rotC_ok hlq
  obtain ⟨hra, hrb, hrc, hrd, -⟩ := rotC_ok hrq
  have hnl := nq_b hla hlb hlc hld
  have hnr := nq_b hra hrb hrc hrd
  have hF2 := hF
  unfold RFr at hF2
  obtain ⟨hb0, hb1, hb2, he00, he01, he02, he10, he11, he12, he20, he21, he22⟩ := hF2
  have hzb := fr_zb hF hup
  have hzs := fr_zs hF hup
  have hzt := fr_zt hF hup
  let y6 := (A3.mk (RRat.mk (RInt.mk false []) (RInt.mk false [])) (RRat.mk (RInt.mk false []) (RInt.mk false [])) (RRat.mk (RInt.mk false []) (RInt.mk false [])))
  let y5 := (encStereo (RStereo.mk (RStn.mk (RSpot.mk lx ly lz) (RQuat.mk la lb lc ld) lf (RPix.mk lu lv)) (RStn.mk (RSpot.mk rx ry rz) (RQuat.mk ra rb rc rd) rf (RPix.mk ru rv))))
  let y4 := (bx (encA43 (A3.mk (ofQ (((dq1 la lb lc ld ra rb rc rd) * e02) - ((dq2 la lb lc ld ra rb rc rd) * e01))) (ofQ (((dq2 la lb lc ld ra rb rc rd) * e00) - ((dq0 la lb lc ld ra rb rc rd) * e02))) (ofQ (((dq0 la lb lc ld ra rb rc rd) * e01) - ((dq1 la lb lc ld ra rb rc rd) * e00))))))
  let y3 := (encRp (RRp.mk (RStn.mk (RSpot.mk lx ly lz) (RQuat.mk la lb lc ld) lf (RPix.mk lu lv)) (RStn.mk (RSpot.mk rx ry rz) (RQuat.mk ra rb rc rd) rf (RPix.mk ru rv)) (A3.mk (ofQ b0) (ofQ b1) (ofQ b2)) (A3.mk (A3.mk (ofQ e00) (ofQ e01) (ofQ e02)) (A3.mk (ofQ e10) (ofQ e11) (ofQ e12)) (A3.mk (ofQ e20) (ofQ e21) (ofQ e22)))))
  let y2 := (A3.mk y6 y6 y6)
  let y1 := (bx (encRp (RRp.mk (RStn.mk (RSpot.mk lx ly lz) (RQuat.mk la lb lc ld) lf (RPix.mk lu lv)) (RStn.mk (RSpot.mk rx ry rz) (RQuat.mk ra rb rc rd) rf (RPix.mk ru rv)) (A3.mk (ofQ b0) (ofQ b1) (ofQ b2)) (A3.mk (A3.mk (ofQ e00) (ofQ e01) (ofQ e02)) y6 y6))))
  refine fn_intro Tryz.func68 rfl cb68 rfl ?_
  show PWp _ _ _ _ ⟨[(0, (.d y5))], []⟩
  refine pwp_seq <| kx [(1, (.ref 0 0))] [(0, some (bx y5))] (zN (oBx 0) <| zM <| zM <| zZ) ?_
  refine pwp_seq <| pwp_seq <| kx [(4, (vin (stnC lx ly lz lu lv lf la lb lc ld)))] [] (zE (oFr fo31_0) <| zR (oLa sh29) <| zE (oCl (q_stn lx ly lz la lb lc ld lf lu lv)) <| zM <| zZ) ?_
  refine pwp_seq <| kx [(17, (vb false))] [] (zM <| zE (oBk false oNe (by exact bne_eq_false_iff_eq.2 (by rw [show (stnC lx ly lz lu lv lf la lb lc ld) = 0 from hl]; rfl))) <| zZ) ?_
  refine pwp_cond (b := false) (by kernel_rfl) (fun h => by cases h) (fun _ => ?_)
  refine pwp_skip <| pwp_seq <| pwp_seq <| kx [(5, (vin (stnC rx ry rz ru rv rf ra rb rc rd)))] [] (zE (oFr fo31_1) <| zR (oLa sh29) <| zE (oCl (q_stn rx ry rz ra rb rc rd rf ru rv)) <| zM <| zZ) ?_
  refine pwp_seq <| kx [(23, (vb false))] [] (zM <| zE (oBk false oNe (by exact bne_eq_false_iff_eq.2 (by rw [show (stnC rx ry rz ru rv rf ra rb rc rd) = 0 from hr]; rfl))) <| zZ) ?_
  refine pwp_cond (b := false) (by kernel_rfl) (fun h => by cases h) (fun _ => ?_)
  refine pwp_skip <| pwp_seq <| kx [(6, (.ref 1 0))] [(1, some (bx (encRp (RRp.mk (RStn.mk (RSpot.mk lx ly lz) (RQuat.mk la lb lc ld) lf (RPix.mk lu lv)) (RStn.mk (RSpot.mk rx ry rz) (RQuat.mk ra rb rc rd) rf (RPix.mk ru rv)) y6 y2))))] (zE (oFr fo31_0) <| zR (oLa sh29) <| zE (oFr fo31_1) <| zR (oLa sh29) <| zE (oBd pl134 ze134 zo134) <| zN (oBx 1) <| zM <| zZ) ?_
  refine pwp_seq <| kd [(7, (.ref 2 0)), (8, (.ref 3 0))] [(2, some (bx (encSpot (RSpot.mk lx ly lz)))), (3, some (bx (encSpot (RSpot.mk rx ry rz))))] mo (wE (oFr fo31_0) <| wE (oFr fo29_0) <| wR (oLa sh23) <| wE (oFr fo31_1) <| wE (oFr fo29_0) <| wR (oLa sh23) <| wN (oAl 2 ze23 zo23) <| wN (oAl 3 ze23 zo23) <| wT (oSt sh23) <| wT (oSt sh23) <| wZ) ?_
  refine pwp_seq ?_
  have bn1 : QL b0 3 := (ql_eqz (Eq.symm hb0) (ql_int (z := (rx - lx)) (n := 3) (lenZ_int (by omega) (by omega)) (by decide)))
  have bn2 : QL b1 3 := (ql_eqz (Eq.symm hb1) (ql_int (z := (ry - ly)) (n := 3) (lenZ_int (by omega) (by omega)) (by decide)))
  have bn3 : QL b2 3 := (ql_eqz (Eq.symm hb2) (ql_int (z := (rz - lz)) (n := 3) (lenZ_int (by omega) (by omega)) (by decide)))
  refine kx [] [(1, some (bx (encRp (RRp.mk (RStn.mk (RSpot.mk lx ly lz) (RQuat.mk la lb lc ld) lf (RPix.mk lu lv)) (RStn.mk (RSpot.mk rx ry rz) (RQuat.mk ra rb rc rd) rf (RPix.mk ru rv)) (A3.mk (ofQ b0) (ofQ b1) (ofQ b2)) y2))))] (zM <| zE (oFr fo23_0) <| zR (oL1 sh3) <| zE (oFr fo23_0) <| zR (oL1 sh3) <| zE (zSb (rx - lx) (hr := by exact (wAny rfl (by simp only [kLo]; omega) (by simp only [kHi]; omega)))) <| zE (oFr fo23_1) <| zR (oL1 sh3) <| zE (oFr fo23_1) <| zR (oL1 sh3) <| zE (zSb (ry - ly) (hr := by exact (wAny rfl (by simp only [kLo]; omega) (by simp only [kHi]; omega)))) <| zE (oFr fo23_2) <| zR (oL1 sh3) <| zE (oFr fo23_2) <| zR (oL1 sh3) <| zE (zSb (rz - lz) (hr := by exact (wAny rfl (by simp only [kLo]; omega) (by simp only [kHi]; omega)))) <| zE (oCl (by have h := q_whole (rx - lx) (by omega) (by omega) (ry - ly) (by omega) (by omega) (rz - lz) (by omega) (by omega); rw [hb0, hb1, hb2] at h; exact h)) <| zE oNc <| zE (oFr fo134_2) <| zT (oSt sh129) <| zZ) ?_
  refine pwp_seq <| pwp_seq <| kx [(58, (vb (decide ([lx, ly, lz] = [rx, ry, rz]))))] [] (zR (oLa sh23) <| zR (oLa sh23) <| zE (oEs eqs23 .i64 [lx, ly, lz] [rx, ry, rz]) <| zZ) ?_
  refine pwp_cond (b := (decide ([lx, ly, lz] = [rx, ry, rz]))) rfl (fun h1 => ?_) (fun h1 => ?_)
  · replace h1 := of_decide_eq_true h1
    exact absurd (zb_eq hb0 hb1 hb2 h1) (by rw [hzb]; decide)
  · replace h1 := of_decide_eq_false h1
    refine pwp_skip <| pwp_seq ?_
    have bn4 : QL (R00 la lb lc ld) 3 := (ql_R00 (by first | assumption | omega) (by first | assumption | omega) (by first | assumption | omega) (by first | assumption | omega))
    have bn5 : QL (R01 la lb lc ld) 3 := (ql_R01 (by first | assumption | omega) (by first | assumption | omega) (by first | assumption | omega) (by first | assumption | omega))
    have bn6 : QL (R02 la lb lc ld) 3 := (ql_R02 (by first | assumption | omega) (by first | assumption | omega) (by first | assumption | omega) (by first | assumption | omega))
    have bn7 : QL (R10 la lb lc ld) 3 := (ql_R10 (by first | assumption | omega) (by first | assumption | omega) (by first | assumption | omega) (by first | assumption | omega))
    have bn8 : QL (R11 la lb lc ld) 3 := (ql_R11 (by first | assumption | omega) (by first | assumption | omega) (by first | assumption | omega) (by first | assumption | omega))
    have bn9 : QL (R12 la lb lc ld) 3 := (ql_R12 (by first | assumption | omega) (by first | assumption | omega) (by first | assumption | omega) (by first | assumption | omega))
    have bn10 : QL (R20 la lb lc ld) 3 := (ql_R20 (by first | assumption | omega) (by first | assumption | omega) (by first | assumption | omega) (by first | assumption | omega))
    have bn11 : QL (R21 la lb lc ld) 3 := (ql_R21 (by first | assumption | omega) (by first | assumption | omega) (by first | assumption | omega) (by first | assumption | omega))
    have bn12 : QL (R22 la lb lc ld) 3 := (ql_R22 (by first | assumption | omega) (by first | assumption | omega) (by first | assumption | omega) (by first | assumption | omega))
    have bn13 : QL (R00 ra rb rc rd) 3 := (ql_R00 (by first | assumption | omega) (by first | assumption | omega) (by first | assumption | omega) (by first | assumption | omega))
    have bn14 : QL (R01 ra rb rc rd) 3 := (ql_R01 (by first | assumption | omega) (by first | assumption | omega) (by first | assumption | omega) (by first | assumption | omega))
    have bn15 : QL (R02 ra rb rc rd) 3 := (ql_R02 (by first | assumption | omega) (by first | assumption | omega) (by first | assumption | omega) (by first | assumption | omega))
    have bn16 : QL (R10 ra rb rc rd) 3 := (ql_R10 (by first | assumption | omega) (by first | assumption | omega) (by first | assumption | omega) (by first | assumption | omega))
    have bn17 : QL (R11 ra rb rc rd) 3 := (ql_R11 (by first | assumption | omega) (by first | assumption | omega) (by first | assumption | omega) (by first | assumption | omega))
    have bn18 : QL (R12 ra rb rc rd) 3 := (ql_R12 (by first | assumption | omega) (by first | assumption | omega) (by first | assumption | omega) (by first | assumption | omega))
    have bn19 : QL (R20 ra rb rc rd) 3 := (ql_R20 (by first | assumption | omega) (by first | assumption | omega) (by first | assumption | omega) (by first | assumption | omega))
    have bn20 : QL (R21 ra rb rc rd) 3 := (ql_R21 (by first | assumption | omega) (by first | assumption | omega) (by first | assumption | omega) (by first | assumption | omega))
    have bn21 : QL (R22 ra rb rc rd) 3 := (ql_R22 (by first | assumption | omega) (by first | assumption | omega) (by first | assumption | omega) (by first | assumption | omega))
    refine kd [(9, (.ref 4 0)), (10, (.ref 5 0))] [(4, some (bx (encA130 (A3.mk (A3.mk (ofQ (R00 la lb lc ld)) (ofQ (R10 la lb lc ld)) (ofQ (R20 la lb lc ld))) (A3.mk (ofQ (R01 la lb lc ld)) (ofQ (R11 la lb lc ld)) (ofQ (R21 la lb lc ld))) (A3.mk (ofQ (R02 la lb lc ld)) (ofQ (R12 la lb lc ld)) (ofQ (R22 la lb lc ld))))))), (5, some (bx (encA130 (A3.mk (A3.mk (ofQ (R00 ra rb rc rd)) (ofQ (R10 ra rb rc rd)) (ofQ (R20 ra rb rc rd))) (A3.mk (ofQ (R01 ra rb rc rd)) (ofQ (R11 ra rb rc rd)) (ofQ (R21 ra rb rc rd))) (A3.mk (ofQ (R02 ra rb rc rd)) (ofQ (R12 ra rb rc rd)) (ofQ (R22 ra rb rc rd)))))))] mo (wE (oFr fo31_0) <| wE (oFr fo29_1) <| wR (oLa sh25) <| wE (oCl (q_turn la lb lc ld (by omega) (by omega) (by omega) (by omega) hlq)) <| wE (oCl (q_transp (R00 la lb lc ld) (R01 la lb lc ld) (R02 la lb lc ld) (R10 la lb lc ld) (R11 la lb lc ld) (R12 la lb lc ld) (R20 la lb lc ld) (R21 la lb lc ld) (R22 la lb lc ld) (ql_up bn4 (by decide)) (ql_up bn5 (by decide)) (ql_up bn6 (by decide)) (ql_up bn7 (by decide)) (ql_up bn8 (by decide)) (ql_up bn9 (by decide)) (ql_up bn10 (by decide)) (ql_up bn11 (by decide)) (ql_up bn12 (by decide)))) <| wE (oFr fo31_1) <| wE (oFr fo29_1) <| wR (oLa sh25) <| wE (oCl (q_turn ra rb rc rd (by omega) (by omega) (by omega) (by omega) hrq)) <| wE (oCl (q_transp (R00 ra rb rc rd) (R01 ra rb rc rd) (R02 ra rb rc rd) (R10 ra rb rc rd) (R11 ra rb rc rd) (R12 ra rb rc rd) (R20 ra rb rc rd) (R21 ra rb rc rd) (R22 ra rb rc rd) (ql_up bn13 (by decide)) (ql_up bn14 (by decide)) (ql_up bn15 (by decide)) (ql_up bn16 (by decide)) (ql_up bn17 (by decide)) (ql_up bn18 (by decide)) (ql_up bn19 (by decide)) (ql_up bn20 (by decide)) (ql_up bn21 (by decide)))) <| wN (oAl 4 ze131 zo131) <| wN (oAl 5 ze131 zo131) <| wT (oSt sh131) <| wT (oSt sh131) <| wZ) ?_
    refine pwp_seq ?_
    have bn22 : QL (N4 ra rb rc rd) 3 := (ql_eqz (Eq.symm (show ((nq ra rb rc rd : Int) : Rat) = (N4 ra rb rc rd) from rfl)) (ql_int (z := (nq ra rb rc rd)) (lenZ_int (by omega) (by omega)) (by decide)))
    have bn23 : QL (N4 la lb lc ld) 3 := (ql_eqz (Eq.symm (show ((nq la lb lc ld : Int) : Rat) = (N4 la lb lc ld) from rfl)) (ql_int (z := (nq la lb lc ld)) (lenZ_int (by omega) (by omega)) (by decide)))
    have bn24 : QL (dq0 la lb lc ld ra rb rc rd) 13 := (ql_eqz (Eq.symm (dq0_eq la lb lc ld ra rb rc rd)) (ql_add (k := 13) (ql_mul (k := 6) bn6 bn22 (by decide)) (ql_mul (k := 6) bn15 bn23 (by decide)) (by decide)))
    have bn25 : QL (dq1 la lb lc ld ra rb rc rd) 13 := (ql_eqz (Eq.symm (dq1_eq la lb lc ld ra rb rc rd)) (ql_add (k := 13) (ql_mul (k := 6) bn9 bn22 (by decide)) (ql_mul (k := 6) bn18 bn23 (by decide)) (by decide)))
    have bn26 : QL (dq2 la lb lc ld ra rb rc rd) 13 := (ql_eqz (Eq.symm (dq2_eq la lb lc ld ra rb rc rd)) (ql_add (k := 13) (ql_mul (k := 6) bn12 bn22 (by decide)) (ql_mul (k := 6) bn21 bn23 (by decide)) (by decide)))
    refine kd [(11, (.ref 6 0))] [(6, some (bx (encA43 (A3.mk (ofQ (dq0 la lb lc ld ra rb rc rd)) (ofQ (dq1 la lb lc ld ra rb rc rd)) (ofQ (dq2 la lb lc ld ra rb rc rd))))))] mo (wE (oXr ar131 2) <| wR (oLa sh129) <| wE (oFr fo31_1) <| wE (oFr fo29_1) <| wR (oLa sh25) <| wE (oCl (q_norm ra rb rc rd (by omega) (by omega) (by omega) (by omega))) <| wE (oCl (by have h := f_whole (nq ra rb rc rd) (by omega) (by omega); rw [(show ((nq ra rb rc rd : Int) : Rat) = (N4 ra rb rc rd) from rfl)] at h; exact h)) <| wE (oCl (q_scaled (R02 la lb lc ld) (R12 la lb lc ld) (R22 la lb lc ld) (ql_up bn6 (by decide)) (ql_up bn9 (by decide)) (ql_up bn12 (by decide)) (N4 ra rb rc rd) (ql_up bn22 (by decide)))) <| wE (oXr ar131 2) <| wR (oLa sh129) <| wE (oFr fo31_0) <| wE (oFr fo29_1) <| wR (oLa sh25) <| wE (oCl (q_norm la lb lc ld (by omega) (by omega) (by omega) (by omega))) <| wE (oCl (by have h := f_whole (nq la lb lc ld) (by omega) (by omega); rw [(show ((nq la lb lc ld : Int) : Rat) = (N4 la lb lc ld) from rfl)] at h; exact h)) <| wE (oCl (q_scaled (R02 ra rb rc rd) (R12 ra rb rc rd) (R22 ra rb rc rd) (ql_up bn15 (by decide)) (ql_up bn18 (by decide)) (ql_up bn21 (by decide)) (N4 la lb lc ld) (ql_up bn23 (by decide)))) <| wE (oCl (by have h := q_sum ((R02 la lb lc ld) * (N4 ra rb rc rd)) ((R12 la lb lc ld) * (N4 ra rb rc rd)) ((R22 la lb lc ld) * (N4 ra rb rc rd)) (ql_up (ql_mul (k := 6) bn6 bn22 (by decide)) (by decide)) (ql_up (ql_mul (k := 6) bn9 bn22 (by decide)) (by decide)) (ql_up (ql_mul (k := 6) bn12 bn22 (by decide)) (by decide)) ((R02 ra rb rc rd) * (N4 la lb lc ld)) ((R12 ra rb rc rd) * (N4 la lb lc ld)) ((R22 ra rb rc rd) * (N4 la lb lc ld)) (ql_up (ql_mul (k := 6) bn15 bn23 (by decide)) (by decide)) (ql_up (ql_mul (k := 6) bn18 bn23 (by decide)) (by decide)) (ql_up (ql_mul (k := 6) bn21 bn23 (by decide)) (by decide)); rw [(dq0_eq la lb lc ld ra rb rc rd), (dq1_eq la lb lc ld ra rb rc rd), (dq2_eq la lb lc ld ra rb rc rd)] at h; exact h)) <| wN (oAl 6 ze129 zo129) <| wT (oSt sh129) <| wZ) ?_
    refine pwp_seq ?_
    have bn27 : QL e00 6 := (ql_eqz (Eq.symm he00) (ql_mul (k := 6) bn1 (ql_redK (n := 3) (k := 3) bn1 bn2 bn3 (by decide) (by decide)) (by decide)))
    have bn28 : QL e01 6 := (ql_eqz (Eq.symm he01) (ql_mul (k := 6) bn2 (ql_redK (n := 3) (k := 3) bn1 bn2 bn3 (by decide) (by decide)) (by decide)))
    have bn29 : QL e02 6 := (ql_eqz (Eq.symm he02) (ql_mul (k := 6) bn3 (ql_redK (n := 3) (k := 3) bn1 bn2 bn3 (by decide) (by decide)) (by decide)))
    refine kd [] [(1, some y1)] mo (wM <| wM <| wE oNc <| wE (oFr fo134_2) <| wR (oLa sh129) <| wE (oCl (by have h := q_red b0 b1 b2 (ql_up bn1 (by decide)) (ql_up bn2 (by decide)) (ql_up bn3 (by decide)) hzb; rw [he00, he01, he02] at h; exact h)) <| wE oNc <| wE (oFr fo134_3) <| wE (oXr ar131 0) <| wT (oSt sh129) <| wZ) ?_
    refine pwp_seq ?_
    have bn30 : QL (((dq1 la lb lc ld ra rb rc rd) * e02) - ((dq2 la lb lc ld ra rb rc rd) * e01)) 39 := (ql_sub (k := 39) (ql_mul (k := 19) bn25 bn29 (by decide)) (ql_mul (k := 19) bn26 bn28 (by decide)) (by decide))
    have bn31 : QL (((dq2 la lb lc ld ra rb rc rd) * e00) - ((dq0 la lb lc ld ra rb rc rd) * e02)) 39 := (ql_sub (k := 39) (ql_mul (k := 19) bn26 bn27 (by decide)) (ql_mul (k := 19) bn24 bn29 (by decide)) (by decide))
    have bn32 : QL (((dq0 la lb lc ld ra rb rc rd) * e01) - ((dq1 la lb lc ld ra rb rc rd) * e00)) 39 := (ql_sub (k := 39) (ql_mul (k := 19) bn24 bn28 (by decide)) (ql_mul (k := 19) bn25 bn27 (by decide)) (by decide))
    refine kd [(12, (.ref 7 0))] [(7, some y4)] mo (wR (oLa sh129) <| wM <| wE oNc <| wE (oFr fo134_3) <| wE (oXr ar131 0) <| wR (oLa sh129) <| wE (oCl (q_cross (dq0 la lb lc ld ra rb rc rd) (dq1 la lb lc ld ra rb rc rd) (dq2 la lb lc ld ra rb rc rd) (ql_up bn24 (by decide)) (ql_up bn25 (by decide)) (ql_up bn26 (by decide)) e00 e01 e02 (ql_up bn27 (by decide)) (ql_up bn28 (by decide)) (ql_up bn29 (by decide)))) <| wN (oAl 7 ze129 zo129) <| wT (oSt sh129) <| wZ) ?_
    refine pwp_seq <| pwp_seq <| kx [(103, (vb false))] [] (zR (oLa sh129) <| zE (oBk false (oCl (q_isz (((dq1 la lb lc ld ra rb rc rd) * e02) - ((dq2 la lb lc ld ra rb rc rd) * e01)) (((dq2 la lb lc ld ra rb rc rd) * e00) - ((dq0 la lb lc ld ra rb rc rd) * e02)) (((dq0 la lb lc ld ra rb rc rd) * e01) - ((dq1 la lb lc ld ra rb rc rd) * e00)) (ql_up bn30 (by decide)) (ql_up bn31 (by decide)) (ql_up bn32 (by decide)))) (by exact hzs)) <| zZ) ?_
    refine pwp_cond (b := false) (by kernel_rfl) (fun h => by cases h) (fun _ => ?_)
    refine pwp_skip <| pwp_seq <| pwp_sim (wk (l := [(6, (.ref 1 0)), (12, (.ref 7 0)), (103, (vb false))]) (b := [(1, some y1), (7, some y4)])) ?_
    have bn33 : QL e10 78 := (ql_eqz (Eq.symm he10) (ql_mul (k := 78) bn30 (ql_redK (n := 39) (k := 39) bn30 bn31 bn32 (by decide) (by decide)) (by decide)))
    have bn34 : QL e11 78 := (ql_eqz (Eq.symm he11) (ql_mul (k := 78) bn31 (ql_redK (n := 39) (k := 39) bn30 bn31 bn32 (by decide) (by decide)) (by decide)))
    have bn35 : QL e12 78 := (ql_eqz (Eq.symm he12) (ql_mul (k := 78) bn32 (ql_redK (n := 39) (k := 39) bn30 bn31 bn32 (by decide) (by decide)) (by decide)))
    refine kd [] [(1, some (bx (encRp (RRp.mk (RStn.mk (RSpot.mk lx ly lz) (RQuat.mk la lb lc ld) lf (RPix.mk lu lv)) (RStn.mk (RSpot.mk rx ry rz) (RQuat.mk ra rb rc rd) rf (RPix.mk ru rv)) (A3.mk (ofQ b0) (ofQ b1) (ofQ b2)) (A3.mk (A3.mk (ofQ e00) (ofQ e01) (ofQ e02)) (A3.mk (ofQ e10) (ofQ e11) (ofQ e12)) y6)))))] mo (wM <| wR (oLa sh129) <| wE (oCl (by have h := q_red (((dq1 la lb lc ld ra rb rc rd) * e02) - ((dq2 la lb lc ld ra rb rc rd) * e01)) (((dq2 la lb lc ld ra rb rc rd) * e00) - ((dq0 la lb lc ld ra rb rc rd) * e02)) (((dq0 la lb lc ld ra rb rc rd) * e01) - ((dq1 la lb lc ld ra rb rc rd) * e00)) (ql_up bn30 (by decide)) (ql_up bn31 (by decide)) (ql_up bn32 (by decide)) hzs; rw [he10, he11, he12] at h; exact h)) <| wE oNc <| wE (oFr fo134_3) <| wE (oXr ar131 1) <| wT (oSt sh129) <| wZ) ?_
    refine pwp_seq ?_
    have bn36 : QL ((e01 * e12) - (e02 * e11)) 169 := (ql_sub (k := 169) (ql_mul (k := 84) bn28 bn35 (by decide)) (ql_mul (k := 84) bn29 bn34 (by decide)) (by decide))
    have bn37 : QL ((e02 * e10) - (e00 * e12)) 169 := (ql_sub (k := 169) (ql_mul (k := 84) bn29 bn33 (by decide)) (ql_mul (k := 84) bn27 bn35 (by decide)) (by decide))
    have bn38 : QL ((e00 * e11) - (e01 * e10)) 169 := (ql_sub (k := 169) (ql_mul (k := 84) bn27 bn34 (by decide)) (ql_mul (k := 84) bn28 bn33 (by decide)) (by decide))
    have bn39 : QL e20 338 := (ql_eqz (Eq.symm he20) (ql_mul (k := 338) bn36 (ql_redK (n := 169) (k := 169) bn36 bn37 bn38 (by decide) (by decide)) (by decide)))
    have bn40 : QL e21 338 := (ql_eqz (Eq.symm he21) (ql_mul (k := 338) bn37 (ql_redK (n := 169) (k := 169) bn36 bn37 bn38 (by decide) (by decide)) (by decide)))
    have bn41 : QL e22 338 := (ql_eqz (Eq.symm he22) (ql_mul (k := 338) bn38 (ql_redK (n := 169) (k := 169) bn36 bn37 bn38 (by decide) (by decide)) (by decide)))
    refine kd [] [(1, some (bx y3))] mo (wM <| wM <| wE oNc <| wE (oFr fo134_3) <| wE (oXr ar131 0) <| wR (oLa sh129) <| wM <| wE oNc <| wE (oFr fo134_3) <| wE (oXr ar131 1) <| wR (oLa sh129) <| wE (oCl (q_cross e00 e01 e02 (ql_up bn27 (by decide)) (ql_up bn28 (by decide)) (ql_up bn29 (by decide)) e10 e11 e12 (ql_up bn33 (by decide)) (ql_up bn34 (by decide)) (ql_up bn35 (by decide)))) <| wE (oCl (by have h := q_red ((e01 * e12) - (e02 * e11)) ((e02 * e10) - (e00 * e12)) ((e00 * e11) - (e01 * e10)) (ql_up bn36 (by decide)) (ql_up bn37 (by decide)) (ql_up bn38 (by decide)) hzt; rw [he20, he21, he22] at h; exact h)) <| wE oNc <| wE (oFr fo134_3) <| wE (oXr ar131 2) <| wT (oSt sh129) <| wZ) ?_
    refine pwp_seq <| pwp_sim (publishP (t := 6) (k := 1) (o := 0) (T := 1000001) (cs := (Dat.cells y3)) rfl rfl) ?_
    refine kx [(2, (.d (.cptr 1000001 (Dat.cells y3) 0))), (3, (vin 0))] [] (zM <| zM <| zM <| zZ) ?_
    refine pwp_ret ⟨_, (.tmp (d := (.cptr 1000001 (Dat.cells (encRp (RRp.mk (RStn.mk (RSpot.mk lx ly lz) (RQuat.mk la lb lc ld) lf (RPix.mk lu lv)) (RStn.mk (RSpot.mk rx ry rz) (RQuat.mk ra rb rc rd) rf (RPix.mk ru rv)) (A3.mk (ofQ b0) (ofQ b1) (ofQ b2)) (A3.mk (A3.mk (ofQ e00) (ofQ e01) (ofQ e02)) (A3.mk (ofQ e10) (ofQ e11) (ofQ e12)) (A3.mk (ofQ e20) (ofQ e21) (ofQ e22)))))) 0)) rfl (.tmp (d := (.val (.int .i64 (((0 : Nat) : Int))))) rfl .nil)), ?_⟩
    rfl
end Go.Proofs.YtbecgnplakngdaaGreat
set_option linter.unusedVariables false
set_option linter.unusedSimpArgs false
namespace Go.Fid
theorem sgn_ne {q : Rat} (h : ¬ signQ q ≤ 0) : q ≠ 0 := fun e => h (by rw [show signQ q = 0 from signQ_zero.2 e]; decide)
theorem sgn_pos {q : Rat} : ¬ signQ q ≤ 0 ↔ 0 < q := by
  unfold signQ; rw [signI_le]
  have h := Rat.num_nonneg (q := -q)
  rw [Rat.neg_num] at h
  refine ⟨fun h1 => Rat.not_le.1 (fun h2 => h1 ?_), fun h1 h2 => ?_⟩
  · have h3 := h.2 (by grind); omega
  · have h3 := h.1 (by omega); grind
theorem dot3_ne {a b c : Rat} (h : zeroV a b c = false) : dot3 a b c a b c ≠ 0 := fun e => zeroV_no h (dot3_self.1 e)
end Go.Fid
namespace Go.Proofs.YtbecgnplakngdaaGreat
open Go.Fid
set_option maxRecDepth 4000
set_option linter.unusedVariables false
set_option linter.unusedSimpArgs false
theorem cb95 : callB Tryz.prog 95 = true := by kernel_rfl
theorem cb108 : callB Tryz.prog 108 = true := by kernel_rfl
theorem fo134_0 : fieldB Tryz.prog 134 0 = some 0 := by kernel_rfl
theorem q_coo (lx ly lz la lb lc ld lf lu lv rx ry rz ra rb rc rd rf ru rv : Int) (b0 b1 b2 e00 e01 e02 e10 e11 e12 e20 e21 e22 : Rat) (hqb0 : QL b0 3) (hqb1 : QL b1 3) (hqb2 : QL b2 3) (hqe00 : QL e00 400) (hqe01 : QL e01 400) (hqe02 : QL e02 400) (hqe10 : QL e10 400) (hqe11 : QL e11 400) (hqe12 : QL e12 400) (hqe20 : QL e20 400) (hqe21 : QL e21 400) (hqe22 : QL e22 400) (w0 w1 w2 : Rat) (hw0 : QL w0 1000000) (hw1 : QL w1 1000000) (hw2 : QL w2 1000000) (hd : ¬ (signQ (dot3 e20 e21 e22 w0 w1 w2)) ≤ 0) : Takes Tryz.prog 95 [(.cptr 1000001 (Dat.cells (encRp (RRp.mk (RStn.mk (RSpot.mk lx ly lz) (RQuat.mk la lb lc ld) lf (RPix.mk lu lv)) (RStn.mk (RSpot.mk rx ry rz) (RQuat.mk ra rb rc rd) rf (RPix.mk ru rv)) (A3.mk (ofQ b0) (ofQ b1) (ofQ b2)) (A3.mk (A3.mk (ofQ e00) (ofQ e01) (ofQ e02)) (A3.mk (ofQ e10) (ofQ e11) (ofQ e12)) (A3.mk (ofQ e20) (ofQ e21) (ofQ e22)))))) 0), (encA43 (A3.mk (ofQ w0) (ofQ w1) (ofQ w2)))] (.tup [(encPlace (RPlace.mk (ofQ ((dot3 e00 e01 e02 w0 w1 w2) / (dot3 e20 e21 e22 w0 w1 w2))) (ofQ ((dot3 e10 e11 e12 w0 w1 w2) / (dot3 e20 e21 e22 w0 w1 w2))))), (encR (ofQ (dot3 e20 e21 e22 w0 w1 w2))), (.val (.bool (true)))]) := by
  refine fn_intro Tryz.func95 rfl cb95 rfl ?_
  show PWp _ _ _ _ ⟨[(0, (.d (.cptr 1000001 (Dat.cells (encRp (RRp.mk (RStn.mk (RSpot.mk lx ly lz) (RQuat.mk la lb lc ld) lf (RPix.mk lu lv)) (RStn.mk (RSpot.mk rx ry rz) (RQuat.mk ra rb rc rd) rf (RPix.mk ru rv)) (A3.mk (ofQ b0) (ofQ b1) (ofQ b2)) (A3.mk (A3.mk (ofQ e00) (ofQ e01) (ofQ e02)) (A3.mk (ofQ e10) (ofQ e11) (ofQ e12)) (A3.mk (ofQ e20) (ofQ e21) (ofQ e22)))))) 0))), (1, (.d (encA43 (A3.mk (ofQ w0) (ofQ w1) (ofQ w2)))))], []⟩
  refine pwp_seq <| kx [(3, (.ref 0 0)), (4, (.ref 1 0)), (5, (.ref 2 0))] [(0, some (bx (encA43 (A3.mk (ofQ w0) (ofQ w1) (ofQ w2))))), (1, some (bx (encPlace (RPlace.mk (RRat.mk (RInt.mk false []) (RInt.mk false [])) (RRat.mk (RInt.mk false []) (RInt.mk false [])))))), (2, some (bx (encR (RRat.mk (RInt.mk false []) (RInt.mk false [])))))] (zN (oBx 0) <| zN (oAl 1 ze56 zo56) <| zN (oAl 2 ze42 zo42) <| zM <| zZ) ?_
  refine pwp_seq ?_
  have bn1 : QL (dot3 e00 e01 e02 w0 w1 w2) 6000002 := (ql_dot3 (n := 1000000) (k := 6000002) (ql_up hqe00 (by decide)) (ql_up hqe01 (by decide)) (ql_up hqe02 (by decide)) hw0 hw1 hw2 (by decide))
  have bn2 : QL (dot3 e10 e11 e12 w0 w1 w2) 6000002 := (ql_dot3 (n := 1000000) (k := 6000002) (ql_up hqe10 (by decide)) (ql_up hqe11 (by decide)) (ql_up hqe12 (by decide)) hw0 hw1 hw2 (by decide))
  have bn3 : QL (dot3 e20 e21 e22 w0 w1 w2) 6000002 := (ql_dot3 (n := 1000000) (k := 6000002) (ql_up hqe20 (by decide)) (ql_up hqe21 (by decide)) (ql_up hqe22 (by decide)) hw0 hw1 hw2 (by decide))
  refine kd [(7, (.ref 3 0))] [(3, some (bx (encA43 (A3.mk (ofQ (dot3 e00 e01 e02 w0 w1 w2)) (ofQ (dot3 e10 e11 e12 w0 w1 w2)) (ofQ (dot3 e20 e21 e22 w0 w1 w2))))))] mo (wM <| wE oNd <| wE (oFc fo134_3) <| wE (oCa sh131) <| wR (oLa sh129) <| wE (oCl (q_times e00 e01 e02 e10 e11 e12 e20 e21 e22 (ql_up hqe00 (by decide)) (ql_up hqe01 (by decide)) (ql_up hqe02 (by decide)) (ql_up hqe10 (by decide)) (ql_up hqe11 (by decide)) (ql_up hqe12 (by decide)) (ql_up hqe20 (by decide)) (ql_up hqe21 (by decide)) (ql_up hqe22 (by decide)) w0 w1 w2 (ql_up hw0 (by decide)) (ql_up hw1 (by decide)) (ql_up hw2 (by decide)))) <| wN (oAl 3 ze129 zo129) <| wT (oSt sh129) <| wZ) ?_
  refine pwp_seq <| pwp_seq <| kx [(21, (vb false))] [] (zE (oXr ar129 2) <| zR (oLa sh42) <| zE (oCl (f_sign (ofQ (dot3 e20 e21 e22 w0 w1 w2)) (dot3 e20 e21 e22 w0 w1 w2) (qok_up (qok_of bn3) (by decide)))) <| zE (oBk false oLe (by exact decide_eq_false hd)) <| zZ) ?_
  refine pwp_cond (b := false) (by kernel_rfl) (fun h => by cases h) (fun _ => ?_)
  refine pwp_skip <| pwp_seq <| kx [(8, (.ref 4 0))] [(4, some (bx (encR (ofQ ((dot3 e00 e01 e02 w0 w1 w2) / (dot3 e20 e21 e22 w0 w1 w2))))))] (zE (oXr ar129 0) <| zR (oLa sh42) <| zE (oXr ar129 2) <| zR (oLa sh42) <| zE (oCl (by have h := f_divide (ofQ (dot3 e00 e01 e02 w0 w1 w2)) (ofQ (dot3 e20 e21 e22 w0 w1 w2)) (dot3 e00 e01 e02 w0 w1 w2) (dot3 e20 e21 e22 w0 w1 w2) (qok_up (qok_of bn1) (by decide)) (qok_up (qok_of bn3) (by decide)); rw [divR_ne (sgn_ne hd), divC_ne (sgn_ne hd)] at h; exact h)) <| zM <| zE oEx <| zE oEx <| zN (oAl 4 ze42 zo42) <| zT (oSt sh42) <| zM <| zZ) ?_
  refine pwp_seq <| kx [(10, (.ref 5 0))] [(5, some (bx (encR (ofQ ((dot3 e10 e11 e12 w0 w1 w2) / (dot3 e20 e21 e22 w0 w1 w2))))))] (zE (oXr ar129 1) <| zR (oLa sh42) <| zE (oXr ar129 2) <| zR (oLa sh42) <| zE (oCl (by have h := f_divide (ofQ (dot3 e10 e11 e12 w0 w1 w2)) (ofQ (dot3 e20 e21 e22 w0 w1 w2)) (dot3 e10 e11 e12 w0 w1 w2) (dot3 e20 e21 e22 w0 w1 w2) (qok_up (qok_of bn2) (by decide)) (qok_up (qok_of bn3) (by decide)); rw [divR_ne (sgn_ne hd), divC_ne (sgn_ne hd)] at h; exact h)) <| zM <| zE oEx <| zE oEx <| zN (oAl 5 ze42 zo42) <| zT (oSt sh42) <| zM <| zZ) ?_
  refine pwp_seq <| kd [(6, (vb true))] [(1, some (bx (encPlace (RPlace.mk (ofQ ((dot3 e00 e01 e02 w0 w1 w2) / (dot3 e20 e21 e22 w0 w1 w2))) (ofQ ((dot3 e10 e11 e12 w0 w1 w2) / (dot3 e20 e21 e22 w0 w1 w2))))))), (2, some (bx (encR (ofQ (dot3 e20 e21 e22 w0 w1 w2)))))] mo (wR (oLa sh42) <| wR (oLa sh42) <| wE (oBd pl56 ze56 zo56) <| wE (oXr ar129 2) <| wR (oLa sh42) <| wT (oSt sh56) <| wT (oSt sh42) <| wM <| wZ) ?_
  refine pwp_ret ⟨_, (res_a (cs := (bx (encPlace (RPlace.mk (ofQ ((dot3 e00 e01 e02 w0 w1 w2) / (dot3 e20 e21 e22 w0 w1 w2))) (ofQ ((dot3 e10 e11 e12 w0 w1 w2) / (dot3 e20 e21 e22 w0 w1 w2))))))) (d := (encPlace (RPlace.mk (ofQ ((dot3 e00 e01 e02 w0 w1 w2) / (dot3 e20 e21 e22 w0 w1 w2))) (ofQ ((dot3 e10 e11 e12 w0 w1 w2) / (dot3 e20 e21 e22 w0 w1 w2)))))) rfl rfl sh56 rfl rfl (res_a (cs := (bx (encR (ofQ (dot3 e20 e21 e22 w0 w1 w2))))) (d := (encR (ofQ (dot3 e20 e21 e22 w0 w1 w2)))) rfl rfl sh42 rfl rfl (.tmp (d := (.val (.bool (true)))) rfl .nil))), ?_⟩
  rfl
theorem q_dir (lx ly lz la lb lc ld lf lu lv rx ry rz ra rb rc rd rf ru rv : Int) (b0 b1 b2 e00 e01 e02 e10 e11 e12 e20 e21 e22 : Rat) (hqb0 : QL b0 3) (hqb1 : QL b1 3) (hqb2 : QL b2 3) (hqe00 : QL e00 400) (hqe01 : QL e01 400) (hqe02 : QL e02 400) (hqe10 : QL e10 400) (hqe11 : QL e11 400) (hqe12 : QL e12 400) (hqe20 : QL e20 400) (hqe21 : QL e21 400) (hqe22 : QL e22 400) (x y : Rat) (hx : QL x 1000000) (hy : QL y 1000000) (hz0 : zeroV e00 e01 e02 = false) (hz1 : zeroV e10 e11 e12 = false) (hz2 : zeroV e20 e21 e22 = false) : Takes Tryz.prog 108 [(.cptr 1000001 (Dat.cells (encRp (RRp.mk (RStn.mk (RSpot.mk lx ly lz) (RQuat.mk la lb lc ld) lf (RPix.mk lu lv)) (RStn.mk (RSpot.mk rx ry rz) (RQuat.mk ra rb rc rd) rf (RPix.mk ru rv)) (A3.mk (ofQ b0) (ofQ b1) (ofQ b2)) (A3.mk (A3.mk (ofQ e00) (ofQ e01) (ofQ e02)) (A3.mk (ofQ e10) (ofQ e11) (ofQ e12)) (A3.mk (ofQ e20) (ofQ e21) (ofQ e22)))))) 0), (encPlace (RPlace.mk (ofQ x) (ofQ y)))] (encA43 (A3.mk (ofQ (((e00 * (x / (dot3 e00 e01 e02 e00 e01 e02))) + (e10 * (y / (dot3 e10 e11 e12 e10 e11 e12)))) + (e20 * (((1 : Int) : Rat) / (dot3 e20 e21 e22 e20 e21 e22))))) (ofQ (((e01 * (x / (dot3 e00 e01 e02 e00 e01 e02))) + (e11 * (y / (dot3 e10 e11 e12 e10 e11 e12)))) + (e21 * (((1 : Int) : Rat) / (dot3 e20 e21 e22 e20 e21 e22))))) (ofQ (((e02 * (x / (dot3 e00 e01 e02 e00 e01 e02))) + (e12 * (y / (dot3 e10 e11 e12 e10 e11 e12)))) + (e22 * (((1 : Int) : Rat) / (dot3 e20 e21 e22 e20 e21 e22))))))) := by
  let y5 := (bx (encA43 (A3.mk (RRat.mk (RInt.mk false []) (RInt.mk false [])) (RRat.mk (RInt.mk false []) (RInt.mk false [])) (RRat.mk (RInt.mk false []) (RInt.mk false [])))))
  let y4 := (bx (encA43 (A3.mk (ofQ (e10 * (y / (dot3 e10 e11 e12 e10 e11 e12)))) (ofQ (e11 * (y / (dot3 e10 e11 e12 e10 e11 e12)))) (ofQ (e12 * (y / (dot3 e10 e11 e12 e10 e11 e12)))))))
  let y3 := (bx (encA43 (A3.mk (ofQ (e00 * (x / (dot3 e00 e01 e02 e00 e01 e02)))) (ofQ (e01 * (x / (dot3 e00 e01 e02 e00 e01 e02)))) (ofQ (e02 * (x / (dot3 e00 e01 e02 e00 e01 e02)))))))
  let y2 := (encRp (RRp.mk (RStn.mk (RSpot.mk lx ly lz) (RQuat.mk la lb lc ld) lf (RPix.mk lu lv)) (RStn.mk (RSpot.mk rx ry rz) (RQuat.mk ra rb rc rd) rf (RPix.mk ru rv)) (A3.mk (ofQ b0) (ofQ b1) (ofQ b2)) (A3.mk (A3.mk (ofQ e00) (ofQ e01) (ofQ e02)) (A3.mk (ofQ e10) (ofQ e11) (ofQ e12)) (A3.mk (ofQ e20) (ofQ e21) (ofQ e22)))))
  let y1 := (bx (encA43 (A3.mk (ofQ (((e00 * (x / (dot3 e00 e01 e02 e00 e01 e02))) + (e10 * (y / (dot3 e10 e11 e12 e10 e11 e12)))) + (e20 * (((1 : Int) : Rat) / (dot3 e20 e21 e22 e20 e21 e22))))) (ofQ (((e01 * (x / (dot3 e00 e01 e02 e00 e01 e02))) + (e11 * (y / (dot3 e10 e11 e12 e10 e11 e12)))) + (e21 * (((1 : Int) : Rat) / (dot3 e20 e21 e22 e20 e21 e22))))) (ofQ (((e02 * (x / (dot3 e00 e01 e02 e00 e01 e02))) + (e12 * (y / (dot3 e10 e11 e12 e10 e11 e12)))) + (e22 * (((1 : Int) : Rat) / (dot3 e20 e21 e22 e20 e21 e22))))))))
  refine fn_intro Tryz.func108 rfl cb108 rfl ?_
  show PWp _ _ _ _ ⟨[(0, (.d (.cptr 1000001 (Dat.cells y2) 0))), (1, (.d (encPlace (RPlace.mk (ofQ x) (ofQ y)))))], []⟩
  refine pwp_seq <| kx [(3, (.ref 0 0)), (4, (.ref 1 0))] [(0, some (bx (encPlace (RPlace.mk (ofQ x) (ofQ y))))), (1, some y5)] (zN (oBx 0) <| zN (oAl 1 ze129 zo129) <| zZ) ?_
  refine pwp_seq <| kx [(5, (.ref 2 0))] [(2, some y5)] (zN (oAl 2 ze129 zo129) <| zZ) ?_
  refine pwp_seq <| pwp_seq ?_
  have bn1 : QL ((1 : Int) : Rat) 1 := (ql_int (z := 1) (lenZ_one (by decide)) (by decide))
  refine kd [(16, (.d (encA43 (A3.mk (ofQ x) (ofQ y) (ofQ ((1 : Int) : Rat)))))), (17, (vin 0))] [] mo (wE (oFr fo56_0) <| wR (oLa sh42) <| wE (oFr fo56_1) <| wR (oLa sh42) <| wE (oCl (f_whole 1 (by decide) (by decide))) <| wE (oBf ar129 ze129 zo129) <| wM <| wZ) ?_
  refine pwp_block <| pwp_rounds 20 ?_
  refine pwp_round <| pwp_seq <| kx [(18, (vb true))] [] (zE (oBk true oLt) <| zZ) ?_
  refine pwp_seq <| pwp_cond (b := true) (by kernel_rfl) (fun _ => ?_) (fun h => by cases h)
  refine pwp_skip <| pwp_seq <| pwp_block <| pwp_seq <| kx [(6, (vin 0)), (7, (.ref 3 0))] [(3, some (bx (encR (ofQ x))))] (zM <| zE (oXa ar129 sh42 (fun h => by cases h) 0) <| zN (oAl 3 ze42 zo42) <| zM <| zT (oSt sh42) <| zZ) ?_
  refine pwp_seq ?_
  have bn2 : QL (dot3 e00 e01 e02 e00 e01 e02) 2402 := (ql_dot3 (n := 400) (k := 2402) hqe00 hqe01 hqe02 hqe00 hqe01 hqe02 (by decide))
  refine kd [(8, (.ref 4 0))] [(4, some (bx (encR (ofQ (x / (dot3 e00 e01 e02 e00 e01 e02))))))] mo (wR (oLa sh42) <| wM <| wM <| wE oNd <| wE (oFc fo134_3) <| wE (oXc ar131 0) <| wE (oCa sh129) <| wM <| wM <| wE oNd <| wE (oFc fo134_3) <| wE (oXc ar131 0) <| wE (oCa sh129) <| wE (oCl (q_dot e00 e01 e02 (ql_up hqe00 (by decide)) (ql_up hqe01 (by decide)) (ql_up hqe02 (by decide)) e00 e01 e02 (ql_up hqe00 (by decide)) (ql_up hqe01 (by decide)) (ql_up hqe02 (by decide)))) <| wE (oCl (by have h := f_divide (ofQ x) (ofQ (dot3 e00 e01 e02 e00 e01 e02)) x (dot3 e00 e01 e02 e00 e01 e02) (qok_up (qok_of hx) (by decide)) (qok_up (qok_of bn2) (by decide)); rw [divR_ne (dot3_ne hz0), divC_ne (dot3_ne hz0)] at h; exact h)) <| wM <| wE oEx <| wE oEx <| wN (oAl 4 ze42 zo42) <| wT (oSt sh42) <| wM <| wZ) ?_
  refine pwp_seq ?_
  have bn3 : QL (e00 * (x / (dot3 e00 e01 e02 e00 e01 e02))) 1002802 := (ql_mul (k := 1002802) hqe00 (ql_div (k := 1002402) hx bn2 (by decide)) (by decide))
  have bn4 : QL (e01 * (x / (dot3 e00 e01 e02 e00 e01 e02))) 1002802 := (ql_mul (k := 1002802) hqe01 (ql_div (k := 1002402) hx bn2 (by decide)) (by decide))
  have bn5 : QL (e02 * (x / (dot3 e00 e01 e02 e00 e01 e02))) 1002802 := (ql_mul (k := 1002802) hqe02 (ql_div (k := 1002402) hx bn2 (by decide)) (by decide))
  refine kd [(10, (.ref 5 0))] [(5, some y3)] mo (wM <| wM <| wE oNd <| wE (oFc fo134_3) <| wE (oXc ar131 0) <| wE (oCa sh129) <| wR (oLa sh42) <| wE (oCl (q_scaled e00 e01 e02 (ql_up hqe00 (by decide)) (ql_up hqe01 (by decide)) (ql_up hqe02 (by decide)) (x / (dot3 e00 e01 e02 e00 e01 e02)) (ql_up (ql_div (k := 1002402) hx bn2 (by decide)) (by decide)))) <| wN (oAl 5 ze129 zo129) <| wT (oSt sh129) <| wZ) ?_
  refine pwp_seq <| kx [(48, (vb true))] [] (zM <| zE oEq <| zZ) ?_
  refine pwp_cond (b := true) (by kernel_rfl) (fun _ => ?_) (fun h => by cases h)
  refine kx [] [(2, some y3)] (zR (oLa sh129) <| zT (oSt sh129) <| zZ) ?_
  refine kx [(17, (vin 1))] [] (zE (oAd 1 (hr := by decide)) <| zM <| zZ) ?_
  refine pwp_again (SimImp.refl _) ?_
  refine pwp_seq <| kx [(18, (vb true))] [] (zE (oBk true oLt) <| zZ) ?_
  refine pwp_seq <| pwp_cond (b := true) (by kernel_rfl) (fun _ => ?_) (fun h => by cases h)
  refine pwp_skip <| pwp_seq <| pwp_block <| pwp_seq <| kx [(6, (vin 1)), (7, (.ref 6 0))] [(6, some (bx (encR (ofQ y))))] (zM <| zE (oXa ar129 sh42 (fun h => by cases h) 1) <| zN (oAl 6 ze42 zo42) <| zM <| zT (oSt sh42) <| zZ) ?_
  refine pwp_seq ?_
  have bn6 : QL (dot3 e10 e11 e12 e10 e11 e12) 2402 := (ql_dot3 (n := 400) (k := 2402) hqe10 hqe11 hqe12 hqe10 hqe11 hqe12 (by decide))
  refine kd [(8, (.ref 7 0))] [(7, some (bx (encR (ofQ (y / (dot3 e10 e11 e12 e10 e11 e12))))))] mo (wR (oLa sh42) <| wM <| wM <| wE oNd <| wE (oFc fo134_3) <| wE (oXc ar131 1) <| wE (oCa sh129) <| wM <| wM <| wE oNd <| wE (oFc fo134_3) <| wE (oXc ar131 1) <| wE (oCa sh129) <| wE (oCl (q_dot e10 e11 e12 (ql_up hqe10 (by decide)) (ql_up hqe11 (by decide)) (ql_up hqe12 (by decide)) e10 e11 e12 (ql_up hqe10 (by decide)) (ql_up hqe11 (by decide)) (ql_up hqe12 (by decide)))) <| wE (oCl (by have h := f_divide (ofQ y) (ofQ (dot3 e10 e11 e12 e10 e11 e12)) y (dot3 e10 e11 e12 e10 e11 e12) (qok_up (qok_of hy) (by decide)) (qok_up (qok_of bn6) (by decide)); rw [divR_ne (dot3_ne hz1), divC_ne (dot3_ne hz1)] at h; exact h)) <| wM <| wE oEx <| wE oEx <| wN (oAl 7 ze42 zo42) <| wT (oSt sh42) <| wM <| wZ) ?_
  refine pwp_seq ?_
  have bn7 : QL (e10 * (y / (dot3 e10 e11 e12 e10 e11 e12))) 1002802 := (ql_mul (k := 1002802) hqe10 (ql_div (k := 1002402) hy bn6 (by decide)) (by decide))
  have bn8 : QL (e11 * (y / (dot3 e10 e11 e12 e10 e11 e12))) 1002802 := (ql_mul (k := 1002802) hqe11 (ql_div (k := 1002402) hy bn6 (by decide)) (by decide))
  have bn9 : QL (e12 * (y / (dot3 e10 e11 e12 e10 e11 e12))) 1002802 := (ql_mul (k := 1002802) hqe12 (ql_div (k := 1002402) hy bn6 (by decide)) (by decide))
  refine kd [(10, (.ref 8 0))] [(8, some y4)] mo (wM <| wM <| wE oNd <| wE (oFc fo134_3) <| wE (oXc ar131 1) <| wE (oCa sh129) <| wR (oLa sh42) <| wE (oCl (q_scaled e10 e11 e12 (ql_up hqe10 (by decide)) (ql_up hqe11 (by decide)) (ql_up hqe12 (by decide)) (y / (dot3 e10 e11 e12 e10 e11 e12)) (ql_up (ql_div (k := 1002402) hy bn6 (by decide)) (by decide)))) <| wN (oAl 8 ze129 zo129) <| wT (oSt sh129) <| wZ) ?_
  refine pwp_seq <| pwp_sim (wk (l := [(0, (.d (.cptr 1000001 (Dat.cells y2) 0))), (4, (.ref 1 0)), (5, (.ref 2 0)), (6, (vin 1)), (10, (.ref 8 0)), (16, (.d (encA43 (A3.mk (ofQ x) (ofQ y) (ofQ ((1 : Int) : Rat)))))), (17, (vin 1))]) (b := [(1, some y5), (2, some y3), (8, some y4)])) ?_
  refine kx [(48, (vb false))] [] (zM <| zE oEq <| zZ) ?_
  refine pwp_cond (b := false) (by kernel_rfl) (fun h => by cases h) (fun _ => ?_)
  refine kx [] [(2, some (bx (encA43 (A3.mk (ofQ ((e00 * (x / (dot3 e00 e01 e02 e00 e01 e02))) + (e10 * (y / (dot3 e10 e11 e12 e10 e11 e12))))) (ofQ ((e01 * (x / (dot3 e00 e01 e02 e00 e01 e02))) + (e11 * (y / (dot3 e10 e11 e12 e10 e11 e12))))) (ofQ ((e02 * (x / (dot3 e00 e01 e02 e00 e01 e02))) + (e12 * (y / (dot3 e10 e11 e12 e10 e11 e12)))))))))] (zR (oLa sh129) <| zR (oLa sh129) <| zE (oCl (q_sum (e00 * (x / (dot3 e00 e01 e02 e00 e01 e02))) (e01 * (x / (dot3 e00 e01 e02 e00 e01 e02))) (e02 * (x / (dot3 e00 e01 e02 e00 e01 e02))) (ql_up bn3 (by decide)) (ql_up bn4 (by decide)) (ql_up bn5 (by decide)) (e10 * (y / (dot3 e10 e11 e12 e10 e11 e12))) (e11 * (y / (dot3 e10 e11 e12 e10 e11 e12))) (e12 * (y / (dot3 e10 e11 e12 e10 e11 e12))) (ql_up bn7 (by decide)) (ql_up bn8 (by decide)) (ql_up bn9 (by decide)))) <| zT (oSt sh129) <| zZ) ?_
  refine kx [(17, (vin 2))] [] (zE (oAd 2 (hr := by decide)) <| zM <| zZ) ?_
  refine pwp_again (SimImp.refl _) ?_
  refine pwp_seq <| kx [(18, (vb true))] [] (zE (oBk true oLt) <| zZ) ?_
  refine pwp_seq <| pwp_cond (b := true) (by kernel_rfl) (fun _ => ?_) (fun h => by cases h)
  refine pwp_skip <| pwp_seq <| pwp_block <| pwp_seq <| kx [(6, (vin 2)), (7, (.ref 9 0))] [(9, some (bx (encR (ofQ ((1 : Int) : Rat)))))] (zM <| zE (oXa ar129 sh42 (fun h => by cases h) 2) <| zN (oAl 9 ze42 zo42) <| zM <| zT (oSt sh42) <| zZ) ?_
  refine pwp_seq ?_
  have bn10 : QL (dot3 e20 e21 e22 e20 e21 e22) 2402 := (ql_dot3 (n := 400) (k := 2402) hqe20 hqe21 hqe22 hqe20 hqe21 hqe22 (by decide))
  refine kd [(8, (.ref 10 0))] [(10, some (bx (encR (ofQ (((1 : Int) : Rat) / (dot3 e20 e21 e22 e20 e21 e22))))))] mo (wR (oLa sh42) <| wM <| wM <| wE oNd <| wE (oFc fo134_3) <| wE (oXc ar131 2) <| wE (oCa sh129) <| wM <| wM <| wE oNd <| wE (oFc fo134_3) <| wE (oXc ar131 2) <| wE (oCa sh129) <| wE (oCl (q_dot e20 e21 e22 (ql_up hqe20 (by decide)) (ql_up hqe21 (by decide)) (ql_up hqe22 (by decide)) e20 e21 e22 (ql_up hqe20 (by decide)) (ql_up hqe21 (by decide)) (ql_up hqe22 (by decide)))) <| wE (oCl (by have h := f_divide (ofQ ((1 : Int) : Rat)) (ofQ (dot3 e20 e21 e22 e20 e21 e22)) ((1 : Int) : Rat) (dot3 e20 e21 e22 e20 e21 e22) (qok_up (qok_of bn1) (by decide)) (qok_up (qok_of bn10) (by decide)); rw [divR_ne (dot3_ne hz2), divC_ne (dot3_ne hz2)] at h; exact h)) <| wM <| wE oEx <| wE oEx <| wN (oAl 10 ze42 zo42) <| wT (oSt sh42) <| wM <| wZ) ?_
  refine pwp_seq ?_
  have bn11 : QL (e20 * (((1 : Int) : Rat) / (dot3 e20 e21 e22 e20 e21 e22))) 2803 := (ql_mul (k := 2803) hqe20 (ql_div (k := 2403) bn1 bn10 (by decide)) (by decide))
  have bn12 : QL (e21 * (((1 : Int) : Rat) / (dot3 e20 e21 e22 e20 e21 e22))) 2803 := (ql_mul (k := 2803) hqe21 (ql_div (k := 2403) bn1 bn10 (by decide)) (by decide))
  have bn13 : QL (e22 * (((1 : Int) : Rat) / (dot3 e20 e21 e22 e20 e21 e22))) 2803 := (ql_mul (k := 2803) hqe22 (ql_div (k := 2403) bn1 bn10 (by decide)) (by decide))
  refine kd [(10, (.ref 11 0))] [(11, some (bx (encA43 (A3.mk (ofQ (e20 * (((1 : Int) : Rat) / (dot3 e20 e21 e22 e20 e21 e22)))) (ofQ (e21 * (((1 : Int) : Rat) / (dot3 e20 e21 e22 e20 e21 e22)))) (ofQ (e22 * (((1 : Int) : Rat) / (dot3 e20 e21 e22 e20 e21 e22))))))))] mo (wM <| wM <| wE oNd <| wE (oFc fo134_3) <| wE (oXc ar131 2) <| wE (oCa sh129) <| wR (oLa sh42) <| wE (oCl (q_scaled e20 e21 e22 (ql_up hqe20 (by decide)) (ql_up hqe21 (by decide)) (ql_up hqe22 (by decide)) (((1 : Int) : Rat) / (dot3 e20 e21 e22 e20 e21 e22)) (ql_up (ql_div (k := 2403) bn1 bn10 (by decide)) (by decide)))) <| wN (oAl 11 ze129 zo129) <| wT (oSt sh129) <| wZ) ?_
  refine pwp_seq <| kx [(48, (vb false))] [] (zM <| zE oEq <| zZ) ?_
  refine pwp_cond (b := false) (by kernel_rfl) (fun h => by cases h) (fun _ => ?_)
  have bn14 : QL (((e00 * (x / (dot3 e00 e01 e02 e00 e01 e02))) + (e10 * (y / (dot3 e10 e11 e12 e10 e11 e12)))) + (e20 * (((1 : Int) : Rat) / (dot3 e20 e21 e22 e20 e21 e22)))) 2008409 := (ql_add (k := 2008409) (ql_add (k := 2005605) bn3 bn7 (by decide)) bn11 (by decide))
  have bn15 : QL (((e01 * (x / (dot3 e00 e01 e02 e00 e01 e02))) + (e11 * (y / (dot3 e10 e11 e12 e10 e11 e12)))) + (e21 * (((1 : Int) : Rat) / (dot3 e20 e21 e22 e20 e21 e22)))) 2008409 := (ql_add (k := 2008409) (ql_add (k := 2005605) bn4 bn8 (by decide)) bn12 (by decide))
  have bn16 : QL (((e02 * (x / (dot3 e00 e01 e02 e00 e01 e02))) + (e12 * (y / (dot3 e10 e11 e12 e10 e11 e12)))) + (e22 * (((1 : Int) : Rat) / (dot3 e20 e21 e22 e20 e21 e22)))) 2008409 := (ql_add (k := 2008409) (ql_add (k := 2005605) bn5 bn9 (by decide)) bn13 (by decide))
  refine kx [] [(2, some y1)] (zR (oLa sh129) <| zR (oLa sh129) <| zE (oCl (q_sum ((e00 * (x / (dot3 e00 e01 e02 e00 e01 e02))) + (e10 * (y / (dot3 e10 e11 e12 e10 e11 e12)))) ((e01 * (x / (dot3 e00 e01 e02 e00 e01 e02))) + (e11 * (y / (dot3 e10 e11 e12 e10 e11 e12)))) ((e02 * (x / (dot3 e00 e01 e02 e00 e01 e02))) + (e12 * (y / (dot3 e10 e11 e12 e10 e11 e12)))) (ql_up (ql_add (k := 2005605) bn3 bn7 (by decide)) (by decide)) (ql_up (ql_add (k := 2005605) bn4 bn8 (by decide)) (by decide)) (ql_up (ql_add (k := 2005605) bn5 bn9 (by decide)) (by decide)) (e20 * (((1 : Int) : Rat) / (dot3 e20 e21 e22 e20 e21 e22))) (e21 * (((1 : Int) : Rat) / (dot3 e20 e21 e22 e20 e21 e22))) (e22 * (((1 : Int) : Rat) / (dot3 e20 e21 e22 e20 e21 e22))) (ql_up bn11 (by decide)) (ql_up bn12 (by decide)) (ql_up bn13 (by decide)))) <| zT (oSt sh129) <| zZ) ?_
  refine kx [(17, (vin 3))] [] (zE (oAd 3 (hr := by decide)) <| zM <| zZ) ?_
  refine pwp_again (SimImp.refl _) ?_
  refine pwp_seq <| kx [(18, (vb false))] [] (zE (oBk false oLt) <| zZ) ?_
  refine pwp_seq <| pwp_cond (b := false) (by kernel_rfl) (fun h => by cases h) (fun _ => ?_)
  refine pwp_exit <| pwp_seq <| kx [] [(1, some y1)] (zR (oLa sh129) <| zT (oSt sh129) <| zZ) ?_
  refine pwp_ret ⟨_, (res_a (cs := (bx (encA43 (A3.mk (ofQ (((e00 * (x / (dot3 e00 e01 e02 e00 e01 e02))) + (e10 * (y / (dot3 e10 e11 e12 e10 e11 e12)))) + (e20 * (((1 : Int) : Rat) / (dot3 e20 e21 e22 e20 e21 e22))))) (ofQ (((e01 * (x / (dot3 e00 e01 e02 e00 e01 e02))) + (e11 * (y / (dot3 e10 e11 e12 e10 e11 e12)))) + (e21 * (((1 : Int) : Rat) / (dot3 e20 e21 e22 e20 e21 e22))))) (ofQ (((e02 * (x / (dot3 e00 e01 e02 e00 e01 e02))) + (e12 * (y / (dot3 e10 e11 e12 e10 e11 e12)))) + (e22 * (((1 : Int) : Rat) / (dot3 e20 e21 e22 e20 e21 e22))))))))) (d := (encA43 (A3.mk (ofQ (((e00 * (x / (dot3 e00 e01 e02 e00 e01 e02))) + (e10 * (y / (dot3 e10 e11 e12 e10 e11 e12)))) + (e20 * (((1 : Int) : Rat) / (dot3 e20 e21 e22 e20 e21 e22))))) (ofQ (((e01 * (x / (dot3 e00 e01 e02 e00 e01 e02))) + (e11 * (y / (dot3 e10 e11 e12 e10 e11 e12)))) + (e21 * (((1 : Int) : Rat) / (dot3 e20 e21 e22 e20 e21 e22))))) (ofQ (((e02 * (x / (dot3 e00 e01 e02 e00 e01 e02))) + (e12 * (y / (dot3 e10 e11 e12 e10 e11 e12)))) + (e22 * (((1 : Int) : Rat) / (dot3 e20 e21 e22 e20 e21 e22)))))))) rfl rfl sh129 rfl rfl .nil), ?_⟩
  rfl
end Go.Proofs.YtbecgnplakngdaaGreat
