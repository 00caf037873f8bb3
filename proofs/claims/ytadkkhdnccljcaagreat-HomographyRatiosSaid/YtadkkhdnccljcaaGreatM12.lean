/- Part 12 of a proof: rules, plain facts, and functions walked. -/
import Derived.Test.YtadkkhdnccljcaaGreatM11
import Derived.Test.YtadkkhdnccljcaaGreatM4
import Derived.Test.YtadkkhdnccljcaaGreatM8
namespace Go.Proofs.YtadkkhdnccljcaaGreat
open Go.Fid
set_option maxRecDepth 4000
set_option linter.unusedVariables false
set_option linter.unusedSimpArgs false
theorem ar80 : arrB Tryz.prog 80 = some (9, 3, 1) := by kernel_rfl
theorem cb11 : callB Tryz.prog 11 = true := by kernel_rfl
theorem cb15 : callB Tryz.prog 15 = true := by kernel_rfl
theorem cb16 : callB Tryz.prog 16 = true := by kernel_rfl
theorem cb19 : callB Tryz.prog 19 = true := by kernel_rfl
theorem cb20 : callB Tryz.prog 20 = true := by kernel_rfl
theorem cb41 : callB Tryz.prog 41 = true := by kernel_rfl
theorem cb47 : callB Tryz.prog 47 = true := by kernel_rfl
theorem cb63 : callB Tryz.prog 63 = true := by kernel_rfl
theorem cb76 : callB Tryz.prog 76 = true := by kernel_rfl
theorem el49 : elemB Tryz.prog 49 = some (32, 18) := by kernel_rfl
theorem el65 : elemB Tryz.prog 65 = some (44, 6) := by kernel_rfl
theorem pl23 : placesB Tryz.prog 23 = some [(0, 1), (1, 1)] := by kernel_rfl
theorem pl25 : placesB Tryz.prog 25 = some [(0, 2), (2, 2)] := by kernel_rfl
theorem sh80 : shapeB Tryz.prog 80 = some (true, 9) := by kernel_rfl
theorem ze23 : zeroB Tryz.prog 23 = some [.int .i64 0, .int .i64 0] := by kernel_rfl
theorem ze26 : zeroB Tryz.prog 26 = some [.int .i64 0, .int .i64 0, .int .i64 0, .int .i64 0, .int .i64 0, .int .i64 0, .int .i64 0, .int .i64 0, .int .i64 0, .int .i64 0, .int .i64 0, .int .i64 0, .int .i64 0, .int .i64 0, .int .i64 0, .int .i64 0] := by kernel_rfl
theorem ze80 : zeroB Tryz.prog 80 = some [.int .i64 0, .int .i64 0, .int .i64 0, .int .i64 0, .int .i64 0, .int .i64 0, .int .i64 0, .int .i64 0, .int .i64 0] := by kernel_rfl
theorem zo23 : ZOk [.int .i64 0, .int .i64 0] [.val (.int .i64 0), .val (.int .i64 0)] := by simp [ZOk, Value.oneCell']
theorem zo26 : ZOk [.int .i64 0, .int .i64 0, .int .i64 0, .int .i64 0, .int .i64 0, .int .i64 0, .int .i64 0, .int .i64 0, .int .i64 0, .int .i64 0, .int .i64 0, .int .i64 0, .int .i64 0, .int .i64 0, .int .i64 0, .int .i64 0] [.val (.int .i64 0), .val (.int .i64 0), .val (.int .i64 0), .val (.int .i64 0), .val (.int .i64 0), .val (.int .i64 0), .val (.int .i64 0), .val (.int .i64 0), .val (.int .i64 0), .val (.int .i64 0), .val (.int .i64 0), .val (.int .i64 0), .val (.int .i64 0), .val (.int .i64 0), .val (.int .i64 0), .val (.int .i64 0)] := by simp [ZOk, Value.oneCell']
theorem zo80 : ZOk [.int .i64 0, .int .i64 0, .int .i64 0, .int .i64 0, .int .i64 0, .int .i64 0, .int .i64 0, .int .i64 0, .int .i64 0] [.val (.int .i64 0), .val (.int .i64 0), .val (.int .i64 0), .val (.int .i64 0), .val (.int .i64 0), .val (.int .i64 0), .val (.int .i64 0), .val (.int .i64 0), .val (.int .i64 0)] := by simp [ZOk, Value.oneCell']
theorem l_sameT3 (p : A3 RInt) (p0 p1 p2 : Int) (hp0 : IOk p.a0 p0 1000000) (hp1 : IOk p.a1 p1 1000000) (hp2 : IOk p.a2 p2 1000000) (q : A3 RInt) (q0 q1 q2 : Int) (hq0 : IOk q.a0 q0 1000000) (hq1 : IOk q.a1 q1 1000000) (hq2 : IOk q.a2 q2 1000000) (hv0 : validI p.a0 = true) (hv1 : validI p.a1 = true) (hv2 : validI p.a2 = true) (hs0 : sameI p.a0 q.a0 = true) (hs1 : sameI p.a1 q.a1 = true) (hs2 : sameI p.a2 q.a2 = true) : Takes Tryz.prog 16 [(encA43 p), (encA43 q)] (.val (.bool (true))) := by
  refine fn_intro Tryz.func16 rfl cb16 rfl ?_
  show PWp _ _ _ _ ⟨[(0, (.d (encA43 p))), (1, (.d (encA43 q)))], []⟩
  refine pwp_seq <| kx [(2, (.ref 0 0)), (3, (.ref 1 0))] [(0, some (bx (encA43 p))), (1, some (bx (encA43 q)))] (zN (oBx 0) <| zN (oBx 1) <| zM <| zZ) ?_
  refine pwp_seq <| pwp_seq <| kx [(6, (vin 0))] [] (zM <| zZ) ?_
  refine pwp_block <| pwp_rounds 20 ?_
  refine pwp_round <| pwp_seq <| kx [(7, (vb true))] [] (zE (oBk true oLt) <| zZ) ?_
  refine pwp_seq <| pwp_cond (b := true) (by kernel_rfl) (fun _ => ?_) (fun h => by cases h)
  refine pwp_skip <| pwp_seq <| pwp_block <| pwp_seq <| kx [(5, (vin 0))] [] (zM <| zM <| zZ) ?_
  refine pwp_seq <| kd [(23, (vb false))] [] mo (wM <| wE (oXr ar44 0) <| wR (oLa sh30) <| wE (oBk true (oCl (r_valid p.a0 (Nat.le_trans hp0.l (by decide)))) (by exact hv0)) <| wE oNt <| wM <| wM <| wE (oXr ar44 0) <| wR (oLa sh30) <| wM <| wE (oXr ar44 0) <| wR (oLa sh30) <| wE (oBk true (oCl (r_same p.a0 q.a0 (Nat.le_trans hp0.l (by decide)) (Nat.le_trans hq0.l (by decide)))) (by exact hs0)) <| wE oNt <| wE oPf <| wZ) ?_
  refine pwp_cond (b := false) (by kernel_rfl) (fun h => by cases h) (fun _ => ?_)
  refine pwp_skip <| kx [(6, (vin 1))] [] (zE (oAd 1 (hr := by decide)) <| zM <| zZ) ?_
  refine pwp_again (SimImp.refl _) ?_
  refine pwp_seq <| kx [(7, (vb true))] [] (zE (oBk true oLt) <| zZ) ?_
  refine pwp_seq <| pwp_cond (b := true) (by kernel_rfl) (fun _ => ?_) (fun h => by cases h)
  refine pwp_skip <| pwp_seq <| pwp_block <| pwp_seq <| kx [(5, (vin 1))] [] (zM <| zM <| zZ) ?_
  refine pwp_seq <| kd [(23, (vb false))] [] mo (wM <| wE (oXr ar44 1) <| wR (oLa sh30) <| wE (oBk true (oCl (r_valid p.a1 (Nat.le_trans hp1.l (by decide)))) (by exact hv1)) <| wE oNt <| wM <| wM <| wE (oXr ar44 1) <| wR (oLa sh30) <| wM <| wE (oXr ar44 1) <| wR (oLa sh30) <| wE (oBk true (oCl (r_same p.a1 q.a1 (Nat.le_trans hp1.l (by decide)) (Nat.le_trans hq1.l (by decide)))) (by exact hs1)) <| wE oNt <| wE oPf <| wZ) ?_
  refine pwp_cond (b := false) (by kernel_rfl) (fun h => by cases h) (fun _ => ?_)
  refine pwp_skip <| kx [(6, (vin 2))] [] (zE (oAd 2 (hr := by decide)) <| zM <| zZ) ?_
  refine pwp_again (SimImp.refl _) ?_
  refine pwp_seq <| kx [(7, (vb true))] [] (zE (oBk true oLt) <| zZ) ?_
  refine pwp_seq <| pwp_cond (b := true) (by kernel_rfl) (fun _ => ?_) (fun h => by cases h)
  refine pwp_skip <| pwp_seq <| pwp_block <| pwp_seq <| kx [(5, (vin 2))] [] (zM <| zM <| zZ) ?_
  refine pwp_seq <| kd [(23, (vb false))] [] mo (wM <| wE (oXr ar44 2) <| wR (oLa sh30) <| wE (oBk true (oCl (r_valid p.a2 (Nat.le_trans hp2.l (by decide)))) (by exact hv2)) <| wE oNt <| wM <| wM <| wE (oXr ar44 2) <| wR (oLa sh30) <| wM <| wE (oXr ar44 2) <| wR (oLa sh30) <| wE (oBk true (oCl (r_same p.a2 q.a2 (Nat.le_trans hp2.l (by decide)) (Nat.le_trans hq2.l (by decide)))) (by exact hs2)) <| wE oNt <| wE oPf <| wZ) ?_
  refine pwp_cond (b := false) (by kernel_rfl) (fun h => by cases h) (fun _ => ?_)
  refine pwp_skip <| kx [(6, (vin 3))] [] (zE (oAd 3 (hr := by decide)) <| zM <| zZ) ?_
  refine pwp_again (SimImp.refl _) ?_
  refine pwp_seq <| pwp_sim (wk (l := [(2, (.ref 0 0)), (3, (.ref 1 0)), (6, (vin 3))]) (b := [(0, some (bx (encA43 p))), (1, some (bx (encA43 q)))])) ?_
  refine kx [(7, (vb false))] [] (zE (oBk false oLt) <| zZ) ?_
  refine pwp_seq <| pwp_cond (b := false) (by kernel_rfl) (fun h => by cases h) (fun _ => ?_)
  refine pwp_exit <| pwp_seq <| kx [(4, (vb true))] [] (zM <| zZ) ?_
  refine pwp_ret ⟨_, (.tmp (d := (.val (.bool (true)))) rfl .nil), ?_⟩
  rfl
theorem l_sameT9 (p : A9 RInt) (p0 p1 p2 p3 p4 p5 p6 p7 p8 : Int) (hp0 : IOk p.a0 p0 1000000) (hp1 : IOk p.a1 p1 1000000) (hp2 : IOk p.a2 p2 1000000) (hp3 : IOk p.a3 p3 1000000) (hp4 : IOk p.a4 p4 1000000) (hp5 : IOk p.a5 p5 1000000) (hp6 : IOk p.a6 p6 1000000) (hp7 : IOk p.a7 p7 1000000) (hp8 : IOk p.a8 p8 1000000) (q : A9 RInt) (q0 q1 q2 q3 q4 q5 q6 q7 q8 : Int) (hq0 : IOk q.a0 q0 1000000) (hq1 : IOk q.a1 q1 1000000) (hq2 : IOk q.a2 q2 1000000) (hq3 : IOk q.a3 q3 1000000) (hq4 : IOk q.a4 q4 1000000) (hq5 : IOk q.a5 q5 1000000) (hq6 : IOk q.a6 q6 1000000) (hq7 : IOk q.a7 q7 1000000) (hq8 : IOk q.a8 q8 1000000) (hv0 : validI p.a0 = true) (hv1 : validI p.a1 = true) (hv2 : validI p.a2 = true) (hv3 : validI p.a3 = true) (hv4 : validI p.a4 = true) (hv5 : validI p.a5 = true) (hv6 : validI p.a6 = true) (hv7 : validI p.a7 = true) (hv8 : validI p.a8 = true) (hs0 : sameI p.a0 q.a0 = true) (hs1 : sameI p.a1 q.a1 = true) (hs2 : sameI p.a2 q.a2 = true) (hs3 : sameI p.a3 q.a3 = true) (hs4 : sameI p.a4 q.a4 = true) (hs5 : sameI p.a5 q.a5 = true) (hs6 : sameI p.a6 q.a6 = true) (hs7 : sameI p.a7 q.a7 = true) (hs8 : sameI p.a8 q.a8 = true) : Takes Tryz.prog 15 [(encA31 p), (encA31 q)] (.val (.bool (true))) := by
  refine fn_intro Tryz.func15 rfl cb15 rfl ?_
  show PWp _ _ _ _ ⟨[(0, (.d (encA31 p))), (1, (.d (encA31 q)))], []⟩
  refine pwp_seq <| kx [(2, (.ref 0 0)), (3, (.ref 1 0))] [(0, some (bx (encA31 p))), (1, some (bx (encA31 q)))] (zN (oBx 0) <| zN (oBx 1) <| zM <| zZ) ?_
  refine pwp_seq <| pwp_seq <| kx [(6, (vin 0))] [] (zM <| zZ) ?_
  refine pwp_block <| pwp_rounds 20 ?_
  refine pwp_round <| pwp_seq <| kx [(7, (vb true))] [] (zE (oBk true oLt) <| zZ) ?_
  refine pwp_seq <| pwp_cond (b := true) (by kernel_rfl) (fun _ => ?_) (fun h => by cases h)
  refine pwp_skip <| pwp_seq <| pwp_block <| pwp_seq <| kx [(5, (vin 0))] [] (zM <| zM <| zZ) ?_
  refine pwp_seq <| kd [(23, (vb false))] [] mo (wM <| wE (oXr ar32 0) <| wR (oLa sh30) <| wE (oBk true (oCl (r_valid p.a0 (Nat.le_trans hp0.l (by decide)))) (by exact hv0)) <| wE oNt <| wM <| wM <| wE (oXr ar32 0) <| wR (oLa sh30) <| wM <| wE (oXr ar32 0) <| wR (oLa sh30) <| wE (oBk true (oCl (r_same p.a0 q.a0 (Nat.le_trans hp0.l (by decide)) (Nat.le_trans hq0.l (by decide)))) (by exact hs0)) <| wE oNt <| wE oPf <| wZ) ?_
  refine pwp_cond (b := false) (by kernel_rfl) (fun h => by cases h) (fun _ => ?_)
  refine pwp_skip <| kx [(6, (vin 1))] [] (zE (oAd 1 (hr := by decide)) <| zM <| zZ) ?_
  refine pwp_again (SimImp.refl _) ?_
  refine pwp_seq <| kx [(7, (vb true))] [] (zE (oBk true oLt) <| zZ) ?_
  refine pwp_seq <| pwp_cond (b := true) (by kernel_rfl) (fun _ => ?_) (fun h => by cases h)
  refine pwp_skip <| pwp_seq <| pwp_block <| pwp_seq <| kx [(5, (vin 1))] [] (zM <| zM <| zZ) ?_
  refine pwp_seq <| kd [(23, (vb false))] [] mo (wM <| wE (oXr ar32 1) <| wR (oLa sh30) <| wE (oBk true (oCl (r_valid p.a1 (Nat.le_trans hp1.l (by decide)))) (by exact hv1)) <| wE oNt <| wM <| wM <| wE (oXr ar32 1) <| wR (oLa sh30) <| wM <| wE (oXr ar32 1) <| wR (oLa sh30) <| wE (oBk true (oCl (r_same p.a1 q.a1 (Nat.le_trans hp1.l (by decide)) (Nat.le_trans hq1.l (by decide)))) (by exact hs1)) <| wE oNt <| wE oPf <| wZ) ?_
  refine pwp_cond (b := false) (by kernel_rfl) (fun h => by cases h) (fun _ => ?_)
  refine pwp_skip <| kx [(6, (vin 2))] [] (zE (oAd 2 (hr := by decide)) <| zM <| zZ) ?_
  refine pwp_again (SimImp.refl _) ?_
  refine pwp_seq <| kx [(7, (vb true))] [] (zE (oBk true oLt) <| zZ) ?_
  refine pwp_seq <| pwp_cond (b := true) (by kernel_rfl) (fun _ => ?_) (fun h => by cases h)
  refine pwp_skip <| pwp_seq <| pwp_block <| pwp_seq <| kx [(5, (vin 2))] [] (zM <| zM <| zZ) ?_
  refine pwp_seq <| kd [(23, (vb false))] [] mo (wM <| wE (oXr ar32 2) <| wR (oLa sh30) <| wE (oBk true (oCl (r_valid p.a2 (Nat.le_trans hp2.l (by decide)))) (by exact hv2)) <| wE oNt <| wM <| wM <| wE (oXr ar32 2) <| wR (oLa sh30) <| wM <| wE (oXr ar32 2) <| wR (oLa sh30) <| wE (oBk true (oCl (r_same p.a2 q.a2 (Nat.le_trans hp2.l (by decide)) (Nat.le_trans hq2.l (by decide)))) (by exact hs2)) <| wE oNt <| wE oPf <| wZ) ?_
  refine pwp_cond (b := false) (by kernel_rfl) (fun h => by cases h) (fun _ => ?_)
  refine pwp_skip <| kx [(6, (vin 3))] [] (zE (oAd 3 (hr := by decide)) <| zM <| zZ) ?_
  refine pwp_again (SimImp.refl _) ?_
  refine pwp_seq <| pwp_sim (wk (l := [(2, (.ref 0 0)), (3, (.ref 1 0)), (6, (vin 3))]) (b := [(0, some (bx (encA31 p))), (1, some (bx (encA31 q)))])) ?_
  refine kx [(7, (vb true))] [] (zE (oBk true oLt) <| zZ) ?_
  refine pwp_seq <| pwp_cond (b := true) (by kernel_rfl) (fun _ => ?_) (fun h => by cases h)
  refine pwp_skip <| pwp_seq <| pwp_block <| pwp_seq <| kx [(5, (vin 3))] [] (zM <| zM <| zZ) ?_
  refine pwp_seq <| kd [(23, (vb false))] [] mo (wM <| wE (oXr ar32 3) <| wR (oLa sh30) <| wE (oBk true (oCl (r_valid p.a3 (Nat.le_trans hp3.l (by decide)))) (by exact hv3)) <| wE oNt <| wM <| wM <| wE (oXr ar32 3) <| wR (oLa sh30) <| wM <| wE (oXr ar32 3) <| wR (oLa sh30) <| wE (oBk true (oCl (r_same p.a3 q.a3 (Nat.le_trans hp3.l (by decide)) (Nat.le_trans hq3.l (by decide)))) (by exact hs3)) <| wE oNt <| wE oPf <| wZ) ?_
  refine pwp_cond (b := false) (by kernel_rfl) (fun h => by cases h) (fun _ => ?_)
  refine pwp_skip <| kx [(6, (vin 4))] [] (zE (oAd 4 (hr := by decide)) <| zM <| zZ) ?_
  refine pwp_again (SimImp.refl _) ?_
  refine pwp_seq <| kx [(7, (vb true))] [] (zE (oBk true oLt) <| zZ) ?_
  refine pwp_seq <| pwp_cond (b := true) (by kernel_rfl) (fun _ => ?_) (fun h => by cases h)
  refine pwp_skip <| pwp_seq <| pwp_block <| pwp_seq <| kx [(5, (vin 4))] [] (zM <| zM <| zZ) ?_
  refine pwp_seq <| kd [(23, (vb false))] [] mo (wM <| wE (oXr ar32 4) <| wR (oLa sh30) <| wE (oBk true (oCl (r_valid p.a4 (Nat.le_trans hp4.l (by decide)))) (by exact hv4)) <| wE oNt <| wM <| wM <| wE (oXr ar32 4) <| wR (oLa sh30) <| wM <| wE (oXr ar32 4) <| wR (oLa sh30) <| wE (oBk true (oCl (r_same p.a4 q.a4 (Nat.le_trans hp4.l (by decide)) (Nat.le_trans hq4.l (by decide)))) (by exact hs4)) <| wE oNt <| wE oPf <| wZ) ?_
  refine pwp_cond (b := false) (by kernel_rfl) (fun h => by cases h) (fun _ => ?_)
  refine pwp_skip <| kx [(6, (vin 5))] [] (zE (oAd 5 (hr := by decide)) <| zM <| zZ) ?_
  refine pwp_again (SimImp.refl _) ?_
  refine pwp_seq <| kx [(7, (vb true))] [] (zE (oBk true oLt) <| zZ) ?_
  refine pwp_seq <| pwp_cond (b := true) (by kernel_rfl) (fun _ => ?_) (fun h => by cases h)
  refine pwp_skip <| pwp_seq <| pwp_block <| pwp_seq <| kx [(5, (vin 5))] [] (zM <| zM <| zZ) ?_
  refine pwp_seq <| kd [(23, (vb false))] [] mo (wM <| wE (oXr ar32 5) <| wR (oLa sh30) <| wE (oBk true (oCl (r_valid p.a5 (Nat.le_trans hp5.l (by decide)))) (by exact hv5)) <| wE oNt <| wM <| wM <| wE (oXr ar32 5) <| wR (oLa sh30) <| wM <| wE (oXr ar32 5) <| wR (oLa sh30) <| wE (oBk true (oCl (r_same p.a5 q.a5 (Nat.le_trans hp5.l (by decide)) (Nat.le_trans hq5.l (by decide)))) (by exact hs5)) <| wE oNt <| wE oPf <| wZ) ?_
  refine pwp_cond (b := false) (by kernel_rfl) (fun h => by cases h) (fun _ => ?_)
  refine pwp_skip <| kx [(6, (vin 6))] [] (zE (oAd 6 (hr := by decide)) <| zM <| zZ) ?_
  refine pwp_again (SimImp.refl _) ?_
  refine pwp_seq <| kx [(7, (vb true))] [] (zE (oBk true oLt) <| zZ) ?_
  refine pwp_seq <| pwp_cond (b := true) (by kernel_rfl) (fun _ => ?_) (fun h => by cases h)
  refine pwp_skip <| pwp_seq <| pwp_block <| pwp_seq <| kx [(5, (vin 6))] [] (zM <| zM <| zZ) ?_
  refine pwp_seq <| pwp_sim (wk (l := [(2, (.ref 0 0)), (3, (.ref 1 0)), (5, (vin 6)), (6, (vin 6))]) (b := [(0, some (bx (encA31 p))), (1, some (bx (encA31 q)))])) ?_
  refine kd [(23, (vb false))] [] mo (wM <| wE (oXr ar32 6) <| wR (oLa sh30) <| wE (oBk true (oCl (r_valid p.a6 (Nat.le_trans hp6.l (by decide)))) (by exact hv6)) <| wE oNt <| wM <| wM <| wE (oXr ar32 6) <| wR (oLa sh30) <| wM <| wE (oXr ar32 6) <| wR (oLa sh30) <| wE (oBk true (oCl (r_same p.a6 q.a6 (Nat.le_trans hp6.l (by decide)) (Nat.le_trans hq6.l (by decide)))) (by exact hs6)) <| wE oNt <| wE oPf <| wZ) ?_
  refine pwp_cond (b := false) (by kernel_rfl) (fun h => by cases h) (fun _ => ?_)
  refine pwp_skip <| kx [(6, (vin 7))] [] (zE (oAd 7 (hr := by decide)) <| zM <| zZ) ?_
  refine pwp_again (SimImp.refl _) ?_
  refine pwp_seq <| kx [(7, (vb true))] [] (zE (oBk true oLt) <| zZ) ?_
  refine pwp_seq <| pwp_cond (b := true) (by kernel_rfl) (fun _ => ?_) (fun h => by cases h)
  refine pwp_skip <| pwp_seq <| pwp_block <| pwp_seq <| kx [(5, (vin 7))] [] (zM <| zM <| zZ) ?_
  refine pwp_seq <| kd [(23, (vb false))] [] mo (wM <| wE (oXr ar32 7) <| wR (oLa sh30) <| wE (oBk true (oCl (r_valid p.a7 (Nat.le_trans hp7.l (by decide)))) (by exact hv7)) <| wE oNt <| wM <| wM <| wE (oXr ar32 7) <| wR (oLa sh30) <| wM <| wE (oXr ar32 7) <| wR (oLa sh30) <| wE (oBk true (oCl (r_same p.a7 q.a7 (Nat.le_trans hp7.l (by decide)) (Nat.le_trans hq7.l (by decide)))) (by exact hs7)) <| wE oNt <| wE oPf <| wZ) ?_
  refine pwp_cond (b := false) (by kernel_rfl) (fun h => by cases h) (fun _ => ?_)
  refine pwp_skip <| kx [(6, (vin 8))] [] (zE (oAd 8 (hr := by decide)) <| zM <| zZ) ?_
  refine pwp_again (SimImp.refl _) ?_
  refine pwp_seq <| kx [(7, (vb true))] [] (zE (oBk true oLt) <| zZ) ?_
  refine pwp_seq <| pwp_cond (b := true) (by kernel_rfl) (fun _ => ?_) (fun h => by cases h)
  refine pwp_skip <| pwp_seq <| pwp_block <| pwp_seq <| kx [(5, (vin 8))] [] (zM <| zM <| zZ) ?_
  refine pwp_seq <| kd [(23, (vb false))] [] mo (wM <| wE (oXr ar32 8) <| wR (oLa sh30) <| wE (oBk true (oCl (r_valid p.a8 (Nat.le_trans hp8.l (by decide)))) (by exact hv8)) <| wE oNt <| wM <| wM <| wE (oXr ar32 8) <| wR (oLa sh30) <| wM <| wE (oXr ar32 8) <| wR (oLa sh30) <| wE (oBk true (oCl (r_same p.a8 q.a8 (Nat.le_trans hp8.l (by decide)) (Nat.le_trans hq8.l (by decide)))) (by exact hs8)) <| wE oNt <| wE oPf <| wZ) ?_
  refine pwp_cond (b := false) (by kernel_rfl) (fun h => by cases h) (fun _ => ?_)
  refine pwp_skip <| kx [(6, (vin 9))] [] (zE (oAd 9 (hr := by decide)) <| zM <| zZ) ?_
  refine pwp_again (SimImp.refl _) ?_
  refine pwp_seq <| kx [(7, (vb false))] [] (zE (oBk false oLt) <| zZ) ?_
  refine pwp_seq <| pwp_cond (b := false) (by kernel_rfl) (fun h => by cases h) (fun _ => ?_)
  refine pwp_exit <| pwp_seq <| kx [(4, (vb true))] [] (zM <| zZ) ?_
  refine pwp_ret ⟨_, (.tmp (d := (.val (.bool (true)))) rfl .nil), ?_⟩
  rfl
theorem l_sameF3_0 (p : A3 RInt) (p0 p1 p2 : Int) (hp0 : IOk p.a0 p0 1000000) (hp1 : IOk p.a1 p1 1000000) (hp2 : IOk p.a2 p2 1000000) (q : A3 RInt) (q0 q1 q2 : Int) (hq0 : IOk q.a0 q0 1000000) (hq1 : IOk q.a1 q1 1000000) (hq2 : IOk q.a2 q2 1000000) (hv0 : validI p.a0 = true) (hsx : sameI p.a0 q.a0 = false) : Takes Tryz.prog 16 [(encA43 p), (encA43 q)] (.val (.bool (false))) := by
  refine fn_intro Tryz.func16 rfl cb16 rfl ?_
  show PWp _ _ _ _ ⟨[(0, (.d (encA43 p))), (1, (.d (encA43 q)))], []⟩
  refine pwp_seq <| kx [(2, (.ref 0 0)), (3, (.ref 1 0))] [(0, some (bx (encA43 p))), (1, some (bx (encA43 q)))] (zN (oBx 0) <| zN (oBx 1) <| zM <| zZ) ?_
  refine pwp_seq <| pwp_seq <| kx [(6, (vin 0))] [] (zM <| zZ) ?_
  refine pwp_block <| pwp_rounds 20 ?_
  refine pwp_round <| pwp_seq <| kx [(7, (vb true))] [] (zE (oBk true oLt) <| zZ) ?_
  refine pwp_seq <| pwp_cond (b := true) (by kernel_rfl) (fun _ => ?_) (fun h => by cases h)
  refine pwp_skip <| pwp_seq <| pwp_block <| pwp_seq <| kx [(5, (vin 0))] [] (zM <| zM <| zZ) ?_
  refine pwp_seq <| kd [(23, (vb true))] [] mo (wM <| wE (oXr ar44 0) <| wR (oLa sh30) <| wE (oBk true (oCl (r_valid p.a0 (Nat.le_trans hp0.l (by decide)))) (by exact hv0)) <| wE oNt <| wM <| wM <| wE (oXr ar44 0) <| wR (oLa sh30) <| wM <| wE (oXr ar44 0) <| wR (oLa sh30) <| wE (oBk false (oCl (r_same p.a0 q.a0 (Nat.le_trans hp0.l (by decide)) (Nat.le_trans hq0.l (by decide)))) (by exact hsx)) <| wE oNt <| wE oPf <| wZ) ?_
  refine pwp_cond (b := true) (by kernel_rfl) (fun _ => ?_) (fun h => by cases h)
  refine pwp_seq <| kx [(4, (vb false))] [] (zM <| zZ) ?_
  refine pwp_ret ⟨_, (.tmp (d := (.val (.bool (false)))) rfl .nil), ?_⟩
  rfl
theorem l_sameF3_1 (p : A3 RInt) (p0 p1 p2 : Int) (hp0 : IOk p.a0 p0 1000000) (hp1 : IOk p.a1 p1 1000000) (hp2 : IOk p.a2 p2 1000000) (q : A3 RInt) (q0 q1 q2 : Int) (hq0 : IOk q.a0 q0 1000000) (hq1 : IOk q.a1 q1 1000000) (hq2 : IOk q.a2 q2 1000000) (hv0 : validI p.a0 = true) (hv1 : validI p.a1 = true) (hs0 : sameI p.a0 q.a0 = true) (hsx : sameI p.a1 q.a1 = false) : Takes Tryz.prog 16 [(encA43 p), (encA43 q)] (.val (.bool (false))) := by
  refine fn_intro Tryz.func16 rfl cb16 rfl ?_
  show PWp _ _ _ _ ⟨[(0, (.d (encA43 p))), (1, (.d (encA43 q)))], []⟩
  refine pwp_seq <| kx [(2, (.ref 0 0)), (3, (.ref 1 0))] [(0, some (bx (encA43 p))), (1, some (bx (encA43 q)))] (zN (oBx 0) <| zN (oBx 1) <| zM <| zZ) ?_
  refine pwp_seq <| pwp_seq <| kx [(6, (vin 0))] [] (zM <| zZ) ?_
  refine pwp_block <| pwp_rounds 20 ?_
  refine pwp_round <| pwp_seq <| kx [(7, (vb true))] [] (zE (oBk true oLt) <| zZ) ?_
  refine pwp_seq <| pwp_cond (b := true) (by kernel_rfl) (fun _ => ?_) (fun h => by cases h)
  refine pwp_skip <| pwp_seq <| pwp_block <| pwp_seq <| kx [(5, (vin 0))] [] (zM <| zM <| zZ) ?_
  refine pwp_seq <| kd [(23, (vb false))] [] mo (wM <| wE (oXr ar44 0) <| wR (oLa sh30) <| wE (oBk true (oCl (r_valid p.a0 (Nat.le_trans hp0.l (by decide)))) (by exact hv0)) <| wE oNt <| wM <| wM <| wE (oXr ar44 0) <| wR (oLa sh30) <| wM <| wE (oXr ar44 0) <| wR (oLa sh30) <| wE (oBk true (oCl (r_same p.a0 q.a0 (Nat.le_trans hp0.l (by decide)) (Nat.le_trans hq0.l (by decide)))) (by exact hs0)) <| wE oNt <| wE oPf <| wZ) ?_
  refine pwp_cond (b := false) (by kernel_rfl) (fun h => by cases h) (fun _ => ?_)
  refine pwp_skip <| kx [(6, (vin 1))] [] (zE (oAd 1 (hr := by decide)) <| zM <| zZ) ?_
  refine pwp_again (SimImp.refl _) ?_
  refine pwp_seq <| kx [(7, (vb true))] [] (zE (oBk true oLt) <| zZ) ?_
  refine pwp_seq <| pwp_cond (b := true) (by kernel_rfl) (fun _ => ?_) (fun h => by cases h)
  refine pwp_skip <| pwp_seq <| pwp_block <| pwp_seq <| kx [(5, (vin 1))] [] (zM <| zM <| zZ) ?_
  refine pwp_seq <| kd [(23, (vb true))] [] mo (wM <| wE (oXr ar44 1) <| wR (oLa sh30) <| wE (oBk true (oCl (r_valid p.a1 (Nat.le_trans hp1.l (by decide)))) (by exact hv1)) <| wE oNt <| wM <| wM <| wE (oXr ar44 1) <| wR (oLa sh30) <| wM <| wE (oXr ar44 1) <| wR (oLa sh30) <| wE (oBk false (oCl (r_same p.a1 q.a1 (Nat.le_trans hp1.l (by decide)) (Nat.le_trans hq1.l (by decide)))) (by exact hsx)) <| wE oNt <| wE oPf <| wZ) ?_
  refine pwp_cond (b := true) (by kernel_rfl) (fun _ => ?_) (fun h => by cases h)
  refine pwp_seq <| kx [(4, (vb false))] [] (zM <| zZ) ?_
  refine pwp_ret ⟨_, (.tmp (d := (.val (.bool (false)))) rfl .nil), ?_⟩
  rfl
theorem l_sameF3_2 (p : A3 RInt) (p0 p1 p2 : Int) (hp0 : IOk p.a0 p0 1000000) (hp1 : IOk p.a1 p1 1000000) (hp2 : IOk p.a2 p2 1000000) (q : A3 RInt) (q0 q1 q2 : Int) (hq0 : IOk q.a0 q0 1000000) (hq1 : IOk q.a1 q1 1000000) (hq2 : IOk q.a2 q2 1000000) (hv0 : validI p.a0 = true) (hv1 : validI p.a1 = true) (hv2 : validI p.a2 = true) (hs0 : sameI p.a0 q.a0 = true) (hs1 : sameI p.a1 q.a1 = true) (hsx : sameI p.a2 q.a2 = false) : Takes Tryz.prog 16 [(encA43 p), (encA43 q)] (.val (.bool (false))) := by
  refine fn_intro Tryz.func16 rfl cb16 rfl ?_
  show PWp _ _ _ _ ⟨[(0, (.d (encA43 p))), (1, (.d (encA43 q)))], []⟩
  refine pwp_seq <| kx [(2, (.ref 0 0)), (3, (.ref 1 0))] [(0, some (bx (encA43 p))), (1, some (bx (encA43 q)))] (zN (oBx 0) <| zN (oBx 1) <| zM <| zZ) ?_
  refine pwp_seq <| pwp_seq <| kx [(6, (vin 0))] [] (zM <| zZ) ?_
  refine pwp_block <| pwp_rounds 20 ?_
  refine pwp_round <| pwp_seq <| kx [(7, (vb true))] [] (zE (oBk true oLt) <| zZ) ?_
  refine pwp_seq <| pwp_cond (b := true) (by kernel_rfl) (fun _ => ?_) (fun h => by cases h)
  refine pwp_skip <| pwp_seq <| pwp_block <| pwp_seq <| kx [(5, (vin 0))] [] (zM <| zM <| zZ) ?_
  refine pwp_seq <| kd [(23, (vb false))] [] mo (wM <| wE (oXr ar44 0) <| wR (oLa sh30) <| wE (oBk true (oCl (r_valid p.a0 (Nat.le_trans hp0.l (by decide)))) (by exact hv0)) <| wE oNt <| wM <| wM <| wE (oXr ar44 0) <| wR (oLa sh30) <| wM <| wE (oXr ar44 0) <| wR (oLa sh30) <| wE (oBk true (oCl (r_same p.a0 q.a0 (Nat.le_trans hp0.l (by decide)) (Nat.le_trans hq0.l (by decide)))) (by exact hs0)) <| wE oNt <| wE oPf <| wZ) ?_
  refine pwp_cond (b := false) (by kernel_rfl) (fun h => by cases h) (fun _ => ?_)
  refine pwp_skip <| kx [(6, (vin 1))] [] (zE (oAd 1 (hr := by decide)) <| zM <| zZ) ?_
  refine pwp_again (SimImp.refl _) ?_
  refine pwp_seq <| kx [(7, (vb true))] [] (zE (oBk true oLt) <| zZ) ?_
  refine pwp_seq <| pwp_cond (b := true) (by kernel_rfl) (fun _ => ?_) (fun h => by cases h)
  refine pwp_skip <| pwp_seq <| pwp_block <| pwp_seq <| kx [(5, (vin 1))] [] (zM <| zM <| zZ) ?_
  refine pwp_seq <| kd [(23, (vb false))] [] mo (wM <| wE (oXr ar44 1) <| wR (oLa sh30) <| wE (oBk true (oCl (r_valid p.a1 (Nat.le_trans hp1.l (by decide)))) (by exact hv1)) <| wE oNt <| wM <| wM <| wE (oXr ar44 1) <| wR (oLa sh30) <| wM <| wE (oXr ar44 1) <| wR (oLa sh30) <| wE (oBk true (oCl (r_same p.a1 q.a1 (Nat.le_trans hp1.l (by decide)) (Nat.le_trans hq1.l (by decide)))) (by exact hs1)) <| wE oNt <| wE oPf <| wZ) ?_
  refine pwp_cond (b := false) (by kernel_rfl) (fun h => by cases h) (fun _ => ?_)
  refine pwp_skip <| kx [(6, (vin 2))] [] (zE (oAd 2 (hr := by decide)) <| zM <| zZ) ?_
  refine pwp_again (SimImp.refl _) ?_
  refine pwp_seq <| kx [(7, (vb true))] [] (zE (oBk true oLt) <| zZ) ?_
  refine pwp_seq <| pwp_cond (b := true) (by kernel_rfl) (fun _ => ?_) (fun h => by cases h)
  refine pwp_skip <| pwp_seq <| pwp_block <| pwp_seq <| kx [(5, (vin 2))] [] (zM <| zM <| zZ) ?_
  refine pwp_seq <| kd [(23, (vb true))] [] mo (wM <| wE (oXr ar44 2) <| wR (oLa sh30) <| wE (oBk true (oCl (r_valid p.a2 (Nat.le_trans hp2.l (by decide)))) (by exact hv2)) <| wE oNt <| wM <| wM <| wE (oXr ar44 2) <| wR (oLa sh30) <| wM <| wE (oXr ar44 2) <| wR (oLa sh30) <| wE (oBk false (oCl (r_same p.a2 q.a2 (Nat.le_trans hp2.l (by decide)) (Nat.le_trans hq2.l (by decide)))) (by exact hsx)) <| wE oNt <| wE oPf <| wZ) ?_
  refine pwp_cond (b := true) (by kernel_rfl) (fun _ => ?_) (fun h => by cases h)
  refine pwp_seq <| kx [(4, (vb false))] [] (zM <| zZ) ?_
  refine pwp_ret ⟨_, (.tmp (d := (.val (.bool (false)))) rfl .nil), ?_⟩
  rfl
theorem l_short4 (tau : Nat) (l : List RInt) (zs : List Int) (hl : LOk 140737488355328 l zs) (hb : l.length ≤ 1000000) : Takes Tryz.prog 76 [(.sl tau 2 (List.map encI l))] (.val (.bool ((List.all l short4)))) := by
  refine fn_intro Tryz.func76 rfl cb76 rfl ?_
  show PWp _ _ _ _ ⟨[(0, (vl tau 2 encI l))], []⟩
  refine pwp_seq <| kx [] [] (zM <| zZ) ?_
  refine pwp_seq <| pwp_seq <| kx [(5, (vl tau 2 encI l)), (6, (vin l.length)), (7, (vin 0))] [] (zM <| zE (oLm el40) <| zM <| zZ) ?_
  refine pwp_block <| pwp_loop (α := Nat) (fun i => ⟨[(5, (vl tau 2 encI l)), (6, (vin l.length)), (7, (vin i))], []⟩) (fun i => i ≤ l.length ∧ (l.take i).all short4 = true) (fun i => l.length - i) 0 wk ⟨Nat.zero_le _, by simp⟩ ?_
  rintro i ⟨hi, hal⟩
  refine pwp_seq <| kx [(8, (vb (decide (((i : Nat) : Int) < ((l.length : Nat) : Int)))))] [] (zE oLt <| zZ) ?_
  refine pwp_seq <| pwp_cond rfl (fun h1 => ?_) (fun h1 => ?_)
  · replace h1 := of_decide_eq_true h1
    refine pwp_skip <| pwp_seq <| pwp_block <| pwp_seq <| kx [(4, (.ref 0 0))] [(0, some (bx (encI (l.getD i (RInt.mk false [])))))] (zE (oXl el40 i (RInt.mk false [])) <| zE (oCa sh30) <| zN (oAl 0 ze30 zo30) <| zT (oSt sh30) <| zZ) ?_
    refine pwp_seq <| kx [(14, (vb (decide (4 < ((((l.getD i (RInt.mk false [])).gs).length : Nat) : Int)))))] [] (zE (oFr fo30_1) <| zR (oL1 sh28) <| zE (oLm el28 (L := (l.getD i (RInt.mk false [])).gs)) <| zE oGt <| zZ) ?_
    refine pwp_cond rfl (fun h2 => ?_) (fun h2 => ?_)
    · replace h2 := of_decide_eq_true h2
      refine pwp_seq <| kx [(2, (vb false))] [] (zM <| zZ) ?_
      refine pwp_ret ⟨_, (.tmp (d := (.val (.bool (false)))) rfl .nil), ?_⟩
      rw [all_not (f := short4) (l := l) (i := i) (d := RInt.mk false []) (by omega) (short4_no h2)]; rfl
    · replace h2 := of_decide_eq_false h2
      refine pwp_skip <| kx [(7, (vin (i + 1)))] [] (zE (oAd (i + 1)) <| zM <| zZ) ?_
      exact ⟨(i + 1), wk, ⟨by omega, all_take (d := ⟨false, []⟩) (by omega) hal (short4_yes h2)⟩, (by first | omega | (dsimp only; omega))⟩
  · replace h1 := of_decide_eq_false h1
    have hie : i = l.length := by omega
    rw [hie, List.take_length] at hal
    refine pwp_exit <| pwp_seq <| kx [(2, (vb true))] [] (zM <| zZ) ?_
    refine pwp_ret ⟨_, (.tmp (d := (.val (.bool (true)))) rfl .nil), ?_⟩
    rw [hal]; rfl
theorem l_reduce (h : A9 RInt) (h0 h1 h2 h3 h4 h5 h6 h7 h8 : Int) (hh0 : IOk h.a0 h0 1000000) (hh1 : IOk h.a1 h1 1000000) (hh2 : IOk h.a2 h2 1000000) (hh3 : IOk h.a3 h3 1000000) (hh4 : IOk h.a4 h4 1000000) (hh5 : IOk h.a5 h5 1000000) (hh6 : IOk h.a6 h6 1000000) (hh7 : IOk h.a7 h7 1000000) (hh8 : IOk h.a8 h8 1000000) (c0 c1 c2 c3 c4 c5 c6 c7 c8 : Int) (hc : redL [h0, h1, h2, h3, h4, h5, h6, h7, h8] = [c0, c1, c2, c3, c4, c5, c6, c7, c8]) (hnz : sgnL [h0, h1, h2, h3, h4, h5, h6, h7, h8] ≠ 0) (hd : signI (det3 h0 h1 h2 h3 h4 h5 h6 h7 h8) ≠ 0) : Takes Tryz.prog 47 [(encA31 h)] (.tup [(encA31 (A9.mk (ofZ c0) (ofZ c1) (ofZ c2) (ofZ c3) (ofZ c4) (ofZ c5) (ofZ c6) (ofZ c7) (ofZ c8))), (.val (.bool (true)))]) := by
  refine fn_intro Tryz.func47 rfl cb47 rfl ?_
  show PWp _ _ _ _ ⟨[(0, (.d (encA31 h)))], []⟩
  refine pwp_seq <| kx [(1, (.ref 0 0)), (2, (.ref 1 0))] [(0, some (bx (encA31 h))), (1, some (bx (encA31 (A9.mk (RInt.mk false []) (RInt.mk false []) (RInt.mk false []) (RInt.mk false []) (RInt.mk false []) (RInt.mk false []) (RInt.mk false []) (RInt.mk false []) (RInt.mk false [])))))] (zN (oBx 0) <| zN (oAl 1 ze32 zo32) <| zM <| zZ) ?_
  refine pwp_seq ?_
  have bn1 : ∀ c ∈ [c0, c1, c2, c3, c4, c5, c6, c7, c8], IOk (ofZ c) c 1000000 := red_iok (n := 1000000) (.cons hh0 (.cons hh1 (.cons hh2 (.cons hh3 (.cons hh4 (.cons hh5 (.cons hh6 (.cons hh7 (.cons hh8 .nil))))))))) hc
  refine kx [(4, (vl 30 2 encI [(ofZ c0), (ofZ c1), (ofZ c2), (ofZ c3), (ofZ c4), (ofZ c5), (ofZ c6), (ofZ c7), (ofZ c8)]))] [] (zE (e_slv (by exact rfl) ar32 (by exact rfl) (by kernel_rfl) (by kernel_rfl)) <| zR ⟨(bx (encA31 h)), e_clv (es := List.map encI [h.a0, h.a1, h.a2, h.a3, h.a4, h.a5, h.a6, h.a7, h.a8]) (by have h := l_red 1000000 [h.a0, h.a1, h.a2, h.a3, h.a4, h.a5, h.a6, h.a7, h.a8] [h0, h1, h2, h3, h4, h5, h6, h7, h8] (.cons hh0 (.cons hh1 (.cons hh2 (.cons hh3 (.cons hh4 (.cons hh5 (.cons hh6 (.cons hh7 (.cons hh8 .nil))))))))) (Nat.le_of_ble_eq_true rfl) hnz; rw [hc] at h; exact h) (by exact rfl) (by kernel_rfl) (by exact rfl) (.v .nil) (pubs_cells _ _ (fun _ => rfl)) (by kernel_rfl) (by kernel_rfl) (avo_sl_30 (by decide) (by decide) _), by kernel_rfl⟩ <| zM <| zZ) ?_
  refine pwp_seq <| pwp_seq ?_
  have bn2 : IOk (ofZ (det3 h0 h1 h2 h3 h4 h5 h6 h7 h8)) (det3 h0 h1 h2 h3 h4 h5 h6 h7 h8) 3000003 := (iok_det3 (n := 1000000) (k := 3000003) hh0 hh1 hh2 hh3 hh4 hh5 hh6 hh7 hh8 (by decide))
  refine kd [(18, (vb false))] [] mo (wM <| wE (oNf el40) <| wM <| wR (oLa sh32) <| wE (oCl (l_row0 h h0 h1 h2 h3 h4 h5 h6 h7 h8 (iu hh0) (iu hh1) (iu hh2) (iu hh3) (iu hh4) (iu hh5) (iu hh6) (iu hh7) (iu hh8))) <| wR (oLa sh32) <| wE (oCl (l_row1 h h0 h1 h2 h3 h4 h5 h6 h7 h8 (iu hh0) (iu hh1) (iu hh2) (iu hh3) (iu hh4) (iu hh5) (iu hh6) (iu hh7) (iu hh8))) <| wR (oLa sh32) <| wE (oCl (l_row2 h h0 h1 h2 h3 h4 h5 h6 h7 h8 (iu hh0) (iu hh1) (iu hh2) (iu hh3) (iu hh4) (iu hh5) (iu hh6) (iu hh7) (iu hh8))) <| wE (oCl (l_det (A3.mk h.a0 h.a1 h.a2) h0 h1 h2 hh0 hh1 hh2 (A3.mk h.a3 h.a4 h.a5) h3 h4 h5 hh3 hh4 hh5 (A3.mk h.a6 h.a7 h.a8) h6 h7 h8 hh6 hh7 hh8)) <| wE (oBk false (oCl (l_zero (ofZ (det3 h0 h1 h2 h3 h4 h5 h6 h7 h8)) (det3 h0 h1 h2 h3 h4 h5 h6 h7 h8) (iu bn2))) (by exact beq_eq_false_iff_ne.2 hd)) <| wE oPf <| wZ) ?_
  refine pwp_cond (b := false) (by kernel_rfl) (fun h => by cases h) (fun _ => ?_)
  refine pwp_skip <| pwp_seq <| kx [(3, (vb true))] [(1, some (bx (encA31 (A9.mk (ofZ c0) (ofZ c1) (ofZ c2) (ofZ c3) (ofZ c4) (ofZ c5) (ofZ c6) (ofZ c7) (ofZ c8)))))] (zM <| zE (e_sap (cs := (Dat.cells (encA31 (A9.mk (ofZ c0) (ofZ c1) (ofZ c2) (ofZ c3) (ofZ c4) (ofZ c5) (ofZ c6) (ofZ c7) (ofZ c8))))) (by exact rfl) ar32 (by exact rfl) (by kernel_rfl) (by kernel_rfl) (by kernel_rfl)) <| zE (oCa sh32) <| zT (oSt sh32) <| zM <| zZ) ?_
  refine pwp_ret ⟨_, (res_a (cs := (bx (encA31 (A9.mk (ofZ c0) (ofZ c1) (ofZ c2) (ofZ c3) (ofZ c4) (ofZ c5) (ofZ c6) (ofZ c7) (ofZ c8))))) (d := (encA31 (A9.mk (ofZ c0) (ofZ c1) (ofZ c2) (ofZ c3) (ofZ c4) (ofZ c5) (ofZ c6) (ofZ c7) (ofZ c8)))) rfl rfl sh32 rfl rfl (.tmp (d := (.val (.bool (true)))) rfl .nil)), ?_⟩
  rfl
theorem l_made (n0 n1 n2 n3 n4 n5 n6 n7 n8 : Int) (hn0 : -1048576 ≤ n0 ∧ n0 ≤ 1048576) (hn1 : -1048576 ≤ n1 ∧ n1 ≤ 1048576) (hn2 : -1048576 ≤ n2 ∧ n2 ≤ 1048576) (hn3 : -1048576 ≤ n3 ∧ n3 ≤ 1048576) (hn4 : -1048576 ≤ n4 ∧ n4 ≤ 1048576) (hn5 : -1048576 ≤ n5 ∧ n5 ≤ 1048576) (hn6 : -1048576 ≤ n6 ∧ n6 ≤ 1048576) (hn7 : -1048576 ≤ n7 ∧ n7 ≤ 1048576) (hn8 : -1048576 ≤ n8 ∧ n8 ≤ 1048576) (c0 c1 c2 c3 c4 c5 c6 c7 c8 : Int) (hc : redL [n0, n1, n2, n3, n4, n5, n6, n7, n8] = [c0, c1, c2, c3, c4, c5, c6, c7, c8]) (hnz : sgnL [n0, n1, n2, n3, n4, n5, n6, n7, n8] ≠ 0) (hd : signI (det3 n0 n1 n2 n3 n4 n5 n6 n7 n8) ≠ 0) : Takes Tryz.prog 41 [(encA80 (A9.mk n0 n1 n2 n3 n4 n5 n6 n7 n8))] (.tup [(encA31 (A9.mk (ofZ c0) (ofZ c1) (ofZ c2) (ofZ c3) (ofZ c4) (ofZ c5) (ofZ c6) (ofZ c7) (ofZ c8))), (.val (.bool (true)))]) := by
  let y1 := (bx (encA31 (A9.mk (RInt.mk false []) (RInt.mk false []) (RInt.mk false []) (RInt.mk false []) (RInt.mk false []) (RInt.mk false []) (RInt.mk false []) (RInt.mk false []) (RInt.mk false []))))
  refine fn_intro Tryz.func41 rfl cb41 rfl ?_
  show PWp _ _ _ _ ⟨[(0, (.d (encA80 (A9.mk n0 n1 n2 n3 n4 n5 n6 n7 n8))))], []⟩
  refine pwp_seq <| kx [(1, (.ref 0 0)), (2, (.ref 1 0))] [(0, some (bx (encA80 (A9.mk n0 n1 n2 n3 n4 n5 n6 n7 n8)))), (1, some y1)] (zN (oBx 0) <| zN (oAl 1 ze32 zo32) <| zM <| zZ) ?_
  refine pwp_seq <| kx [(4, (.ref 2 0))] [(2, some y1)] (zE (oBa ar32 ze32 zo32) <| zN (oAl 2 ze32 zo32) <| zT (oSt sh32) <| zZ) ?_
  refine pwp_seq <| pwp_seq <| kx [(8, (.d (encA80 (A9.mk n0 n1 n2 n3 n4 n5 n6 n7 n8)))), (9, (vin 0))] [] (zR (oLa sh80) <| zM <| zZ) ?_
  refine pwp_block <| pwp_rounds 20 ?_
  refine pwp_round <| pwp_seq <| kx [(10, (vb true))] [] (zE (oBk true oLt) <| zZ) ?_
  refine pwp_seq <| pwp_cond (b := true) (by kernel_rfl) (fun _ => ?_) (fun h => by cases h)
  refine pwp_skip <| pwp_seq <| pwp_block <| pwp_seq <| kx [(5, (vin 0)), (6, (vi n0))] [] (zM <| zE (oXa ar80 sh3 (fun _ => rfl) 0) <| zM <| zM <| zZ) ?_
  refine kx [] [(2, some (bx (encA31 (A9.mk (ofZ n0) (RInt.mk false []) (RInt.mk false []) (RInt.mk false []) (RInt.mk false []) (RInt.mk false []) (RInt.mk false []) (RInt.mk false []) (RInt.mk false [])))))] (zM <| zM <| zE (oCl (l_wholeI n0 (by omega) (by omega))) <| zE (oXr ar32 0) <| zT (oSt sh30) <| zZ) ?_
  refine kx [(9, (vin 1))] [] (zE (oAd 1 (hr := by decide)) <| zM <| zZ) ?_
  refine pwp_again (SimImp.refl _) ?_
  refine pwp_seq <| kx [(10, (vb true))] [] (zE (oBk true oLt) <| zZ) ?_
  refine pwp_seq <| pwp_cond (b := true) (by kernel_rfl) (fun _ => ?_) (fun h => by cases h)
  refine pwp_skip <| pwp_seq <| pwp_block <| pwp_seq <| kx [(5, (vin 1)), (6, (vi n1))] [] (zM <| zE (oXa ar80 sh3 (fun _ => rfl) 1) <| zM <| zM <| zZ) ?_
  refine kx [] [(2, some (bx (encA31 (A9.mk (ofZ n0) (ofZ n1) (RInt.mk false []) (RInt.mk false []) (RInt.mk false []) (RInt.mk false []) (RInt.mk false []) (RInt.mk false []) (RInt.mk false [])))))] (zM <| zM <| zE (oCl (l_wholeI n1 (by omega) (by omega))) <| zE (oXr ar32 1) <| zT (oSt sh30) <| zZ) ?_
  refine kx [(9, (vin 2))] [] (zE (oAd 2 (hr := by decide)) <| zM <| zZ) ?_
  refine pwp_again (SimImp.refl _) ?_
  refine pwp_seq <| kx [(10, (vb true))] [] (zE (oBk true oLt) <| zZ) ?_
  refine pwp_seq <| pwp_cond (b := true) (by kernel_rfl) (fun _ => ?_) (fun h => by cases h)
  refine pwp_skip <| pwp_seq <| pwp_block <| pwp_seq <| kx [(5, (vin 2)), (6, (vi n2))] [] (zM <| zE (oXa ar80 sh3 (fun _ => rfl) 2) <| zM <| zM <| zZ) ?_
  refine kx [] [(2, some (bx (encA31 (A9.mk (ofZ n0) (ofZ n1) (ofZ n2) (RInt.mk false []) (RInt.mk false []) (RInt.mk false []) (RInt.mk false []) (RInt.mk false []) (RInt.mk false [])))))] (zM <| zM <| zE (oCl (l_wholeI n2 (by omega) (by omega))) <| zE (oXr ar32 2) <| zT (oSt sh30) <| zZ) ?_
  refine pwp_sim (wk (l := [(2, (.ref 1 0)), (4, (.ref 2 0)), (8, (.d (encA80 (A9.mk n0 n1 n2 n3 n4 n5 n6 n7 n8)))), (9, (vin 2))]) (b := [(1, some y1), (2, some (bx (encA31 (A9.mk (ofZ n0) (ofZ n1) (ofZ n2) (RInt.mk false []) (RInt.mk false []) (RInt.mk false []) (RInt.mk false []) (RInt.mk false []) (RInt.mk false [])))))])) ?_
  refine kx [(9, (vin 3))] [] (zE (oAd 3 (hr := by decide)) <| zM <| zZ) ?_
  refine pwp_again (SimImp.refl _) ?_
  refine pwp_seq <| kx [(10, (vb true))] [] (zE (oBk true oLt) <| zZ) ?_
  refine pwp_seq <| pwp_cond (b := true) (by kernel_rfl) (fun _ => ?_) (fun h => by cases h)
  refine pwp_skip <| pwp_seq <| pwp_block <| pwp_seq <| kx [(5, (vin 3)), (6, (vi n3))] [] (zM <| zE (oXa ar80 sh3 (fun _ => rfl) 3) <| zM <| zM <| zZ) ?_
  refine kx [] [(2, some (bx (encA31 (A9.mk (ofZ n0) (ofZ n1) (ofZ n2) (ofZ n3) (RInt.mk false []) (RInt.mk false []) (RInt.mk false []) (RInt.mk false []) (RInt.mk false [])))))] (zM <| zM <| zE (oCl (l_wholeI n3 (by omega) (by omega))) <| zE (oXr ar32 3) <| zT (oSt sh30) <| zZ) ?_
  refine kx [(9, (vin 4))] [] (zE (oAd 4 (hr := by decide)) <| zM <| zZ) ?_
  refine pwp_again (SimImp.refl _) ?_
  refine pwp_seq <| kx [(10, (vb true))] [] (zE (oBk true oLt) <| zZ) ?_
  refine pwp_seq <| pwp_cond (b := true) (by kernel_rfl) (fun _ => ?_) (fun h => by cases h)
  refine pwp_skip <| pwp_seq <| pwp_block <| pwp_seq <| kx [(5, (vin 4)), (6, (vi n4))] [] (zM <| zE (oXa ar80 sh3 (fun _ => rfl) 4) <| zM <| zM <| zZ) ?_
  refine kx [] [(2, some (bx (encA31 (A9.mk (ofZ n0) (ofZ n1) (ofZ n2) (ofZ n3) (ofZ n4) (RInt.mk false []) (RInt.mk false []) (RInt.mk false []) (RInt.mk false [])))))] (zM <| zM <| zE (oCl (l_wholeI n4 (by omega) (by omega))) <| zE (oXr ar32 4) <| zT (oSt sh30) <| zZ) ?_
  refine kx [(9, (vin 5))] [] (zE (oAd 5 (hr := by decide)) <| zM <| zZ) ?_
  refine pwp_again (SimImp.refl _) ?_
  refine pwp_seq <| kx [(10, (vb true))] [] (zE (oBk true oLt) <| zZ) ?_
  refine pwp_seq <| pwp_cond (b := true) (by kernel_rfl) (fun _ => ?_) (fun h => by cases h)
  refine pwp_skip <| pwp_seq <| pwp_block <| pwp_seq <| kx [(5, (vin 5)), (6, (vi n5))] [] (zM <| zE (oXa ar80 sh3 (fun _ => rfl) 5) <| zM <| zM <| zZ) ?_
  refine kx [] [(2, some (bx (encA31 (A9.mk (ofZ n0) (ofZ n1) (ofZ n2) (ofZ n3) (ofZ n4) (ofZ n5) (RInt.mk false []) (RInt.mk false []) (RInt.mk false [])))))] (zM <| zM <| zE (oCl (l_wholeI n5 (by omega) (by omega))) <| zE (oXr ar32 5) <| zT (oSt sh30) <| zZ) ?_
  refine kx [(9, (vin 6))] [] (zE (oAd 6 (hr := by decide)) <| zM <| zZ) ?_
  refine pwp_again (SimImp.refl _) ?_
  refine pwp_seq <| kx [(10, (vb true))] [] (zE (oBk true oLt) <| zZ) ?_
  refine pwp_seq <| pwp_cond (b := true) (by kernel_rfl) (fun _ => ?_) (fun h => by cases h)
  refine pwp_skip <| pwp_seq <| pwp_block <| pwp_seq <| pwp_sim (wk (l := [(2, (.ref 1 0)), (4, (.ref 2 0)), (8, (.d (encA80 (A9.mk n0 n1 n2 n3 n4 n5 n6 n7 n8)))), (9, (vin 6)), (10, (vb true))]) (b := [(1, some y1), (2, some (bx (encA31 (A9.mk (ofZ n0) (ofZ n1) (ofZ n2) (ofZ n3) (ofZ n4) (ofZ n5) (RInt.mk false []) (RInt.mk false []) (RInt.mk false [])))))])) ?_
  refine kx [(5, (vin 6)), (6, (vi n6))] [] (zM <| zE (oXa ar80 sh3 (fun _ => rfl) 6) <| zM <| zM <| zZ) ?_
  refine kx [] [(2, some (bx (encA31 (A9.mk (ofZ n0) (ofZ n1) (ofZ n2) (ofZ n3) (ofZ n4) (ofZ n5) (ofZ n6) (RInt.mk false []) (RInt.mk false [])))))] (zM <| zM <| zE (oCl (l_wholeI n6 (by omega) (by omega))) <| zE (oXr ar32 6) <| zT (oSt sh30) <| zZ) ?_
  refine kx [(9, (vin 7))] [] (zE (oAd 7 (hr := by decide)) <| zM <| zZ) ?_
  refine pwp_again (SimImp.refl _) ?_
  refine pwp_seq <| kx [(10, (vb true))] [] (zE (oBk true oLt) <| zZ) ?_
  refine pwp_seq <| pwp_cond (b := true) (by kernel_rfl) (fun _ => ?_) (fun h => by cases h)
  refine pwp_skip <| pwp_seq <| pwp_block <| pwp_seq <| kx [(5, (vin 7)), (6, (vi n7))] [] (zM <| zE (oXa ar80 sh3 (fun _ => rfl) 7) <| zM <| zM <| zZ) ?_
  refine kx [] [(2, some (bx (encA31 (A9.mk (ofZ n0) (ofZ n1) (ofZ n2) (ofZ n3) (ofZ n4) (ofZ n5) (ofZ n6) (ofZ n7) (RInt.mk false [])))))] (zM <| zM <| zE (oCl (l_wholeI n7 (by omega) (by omega))) <| zE (oXr ar32 7) <| zT (oSt sh30) <| zZ) ?_
  refine kx [(9, (vin 8))] [] (zE (oAd 8 (hr := by decide)) <| zM <| zZ) ?_
  refine pwp_again (SimImp.refl _) ?_
  refine pwp_seq <| kx [(10, (vb true))] [] (zE (oBk true oLt) <| zZ) ?_
  refine pwp_seq <| pwp_cond (b := true) (by kernel_rfl) (fun _ => ?_) (fun h => by cases h)
  refine pwp_skip <| pwp_seq <| pwp_block <| pwp_seq <| kx [(5, (vin 8)), (6, (vi n8))] [] (zM <| zE (oXa ar80 sh3 (fun _ => rfl) 8) <| zM <| zM <| zZ) ?_
  refine kx [] [(2, some (bx (encA31 (A9.mk (ofZ n0) (ofZ n1) (ofZ n2) (ofZ n3) (ofZ n4) (ofZ n5) (ofZ n6) (ofZ n7) (ofZ n8)))))] (zM <| zM <| zE (oCl (l_wholeI n8 (by omega) (by omega))) <| zE (oXr ar32 8) <| zT (oSt sh30) <| zZ) ?_
  refine kx [(9, (vin 9))] [] (zE (oAd 9 (hr := by decide)) <| zM <| zZ) ?_
  refine pwp_again (SimImp.refl _) ?_
  refine pwp_seq <| kx [(10, (vb false))] [] (zE (oBk false oLt) <| zZ) ?_
  refine pwp_seq <| pwp_cond (b := false) (by kernel_rfl) (fun h => by cases h) (fun _ => ?_)
  refine pwp_exit <| pwp_seq ?_
  have bn1 : ∀ c ∈ [c0, c1, c2, c3, c4, c5, c6, c7, c8], IOk (ofZ c) c 3 := red_iok (n := 3) (.cons (iok_int (z := n0) (by omega) (by omega)) (.cons (iok_int (z := n1) (by omega) (by omega)) (.cons (iok_int (z := n2) (by omega) (by omega)) (.cons (iok_int (z := n3) (by omega) (by omega)) (.cons (iok_int (z := n4) (by omega) (by omega)) (.cons (iok_int (z := n5) (by omega) (by omega)) (.cons (iok_int (z := n6) (by omega) (by omega)) (.cons (iok_int (z := n7) (by omega) (by omega)) (.cons (iok_int (z := n8) (by omega) (by omega)) .nil))))))))) hc
  refine kx [(3, (vb true))] [(1, some (bx (encA31 (A9.mk (ofZ c0) (ofZ c1) (ofZ c2) (ofZ c3) (ofZ c4) (ofZ c5) (ofZ c6) (ofZ c7) (ofZ c8)))))] (zR (oLa sh32) <| zE (oCl (l_reduce (A9.mk (ofZ n0) (ofZ n1) (ofZ n2) (ofZ n3) (ofZ n4) (ofZ n5) (ofZ n6) (ofZ n7) (ofZ n8)) n0 n1 n2 n3 n4 n5 n6 n7 n8 (iok_up (iok_int (z := n0) (by omega) (by omega)) (by decide)) (iok_up (iok_int (z := n1) (by omega) (by omega)) (by decide)) (iok_up (iok_int (z := n2) (by omega) (by omega)) (by decide)) (iok_up (iok_int (z := n3) (by omega) (by omega)) (by decide)) (iok_up (iok_int (z := n4) (by omega) (by omega)) (by decide)) (iok_up (iok_int (z := n5) (by omega) (by omega)) (by decide)) (iok_up (iok_int (z := n6) (by omega) (by omega)) (by decide)) (iok_up (iok_int (z := n7) (by omega) (by omega)) (by decide)) (iok_up (iok_int (z := n8) (by omega) (by omega)) (by decide)) c0 c1 c2 c3 c4 c5 c6 c7 c8 hc hnz hd)) <| zE oEx <| zE oEx <| zT (oSt sh32) <| zM <| zZ) ?_
  refine pwp_ret ⟨_, (res_a (cs := (bx (encA31 (A9.mk (ofZ c0) (ofZ c1) (ofZ c2) (ofZ c3) (ofZ c4) (ofZ c5) (ofZ c6) (ofZ c7) (ofZ c8))))) (d := (encA31 (A9.mk (ofZ c0) (ofZ c1) (ofZ c2) (ofZ c3) (ofZ c4) (ofZ c5) (ofZ c6) (ofZ c7) (ofZ c8)))) rfl rfl sh32 rfl rfl (.tmp (d := (.val (.bool (true)))) rfl .nil)), ?_⟩
  rfl
theorem l_Reduced (a : Int) (hal : -1048576 ≤ a) (hah : a ≤ 1048576) (b : Int) (hbl : -1048576 ≤ b) (hbh : b ≤ 1048576) (d : Int) (hdl : -1048576 ≤ d) (hdh : d ≤ 1048576) (c0 c1 c2 : Int) (hc : redL [a, b, d] = [c0, c1, c2]) (hnz : sgnL [a, b, d] ≠ 0) : Takes Tryz.prog 63 [(.val (.int .i64 (a))), (.val (.int .i64 (b))), (.val (.int .i64 (d)))] (.tup [(encA43 (A3.mk (ofZ c0) (ofZ c1) (ofZ c2))), (.val (.bool (true)))]) := by
  refine fn_intro Tryz.func63 rfl cb63 rfl ?_
  show PWp _ _ _ _ ⟨[(0, (vi a)), (1, (vi b)), (2, (vi d))], []⟩
  refine pwp_seq <| kx [(6, (.ref 0 0))] [(0, some (bx (encA43 (A3.mk (RInt.mk false []) (RInt.mk false []) (RInt.mk false [])))))] (zN (oAl 0 ze44 zo44) <| zM <| zZ) ?_
  refine pwp_seq ?_
  have bn1 : ∀ c ∈ [c0, c1, c2], IOk (ofZ c) c 3 := red_iok (n := 3) (.cons (iok_int (z := a) (by omega) (by omega)) (.cons (iok_int (z := b) (by omega) (by omega)) (.cons (iok_int (z := d) (by omega) (by omega)) .nil))) hc
  refine kx [(7, (vb true))] [(0, some (bx (encA43 (A3.mk (ofZ c0) (ofZ c1) (ofZ c2)))))] (zM <| zE (oCl (l_wholeI a (by omega) (by omega))) <| zM <| zE (oCl (l_wholeI b (by omega) (by omega))) <| zM <| zE (oCl (l_wholeI d (by omega) (by omega))) <| zE (oBf ar44 ze44 zo44) <| zE (oCl (l_trip (A3.mk (ofZ a) (ofZ b) (ofZ d)) a b d (iok_up (iok_int (z := a) (by omega) (by omega)) (by decide)) (iok_up (iok_int (z := b) (by omega) (by omega)) (by decide)) (iok_up (iok_int (z := d) (by omega) (by omega)) (by decide)) c0 c1 c2 hc hnz)) <| zE oEx <| zE oEx <| zT (oSt sh44) <| zM <| zZ) ?_
  refine pwp_ret ⟨_, (res_a (cs := (bx (encA43 (A3.mk (ofZ c0) (ofZ c1) (ofZ c2))))) (d := (encA43 (A3.mk (ofZ c0) (ofZ c1) (ofZ c2)))) rfl rfl sh44 rfl rfl (.tmp (d := (.val (.bool (true)))) rfl .nil)), ?_⟩
  rfl
set_option maxHeartbeats 4000000 in
theorem l_known27  : Takes Tryz.prog 11 [] (.val (.bool (true))) := by
  let y1 := (A9.mk (ofZ 4) (ofZ 0) (ofZ 0) (ofZ 0) (ofZ 4) (ofZ 0) (ofZ (-1)) (ofZ (-1)) (ofZ 3))
  refine fn_intro Tryz.func11 rfl cb11 rfl ?_
  show PWp _ _ _ _ ⟨[], []⟩
  refine pwp_seq <| kx [] [] (zM <| zZ) ?_
  refine pwp_seq <| kx [(1, (.ref 0 0))] [(0, some (bx (encA31 (A9.mk (ofZ 1) (ofZ 0) (ofZ 32) (ofZ 0) (ofZ 1) (ofZ 0) (ofZ 0) (ofZ 0) (ofZ 1)))))] (zE (oBf ar80 ze80 zo80) <| zE (oCl (l_made ((1 : Nat) : Int) ((0 : Nat) : Int) ((32 : Nat) : Int) ((0 : Nat) : Int) ((1 : Nat) : Int) ((0 : Nat) : Int) ((0 : Nat) : Int) ((0 : Nat) : Int) ((1 : Nat) : Int) (by omega) (by omega) (by omega) (by omega) (by omega) (by omega) (by omega) (by omega) (by omega) 1 0 32 0 1 0 0 0 1 (by decide +kernel) (by decide +kernel) (by decide +kernel))) <| zM <| zE oEx <| zE oEx <| zN (oAl 0 ze32 zo32) <| zT (oSt sh32) <| zM <| zZ) ?_
  refine pwp_seq <| kx [(3, (.ref 1 0))] [(1, some (bx (encA43 (A3.mk (ofZ 1) (ofZ 2) (ofZ 1)))))] (zE (oCl (l_Reduced ((1 : Nat) : Int) (by omega) (by omega) ((2 : Nat) : Int) (by omega) (by omega) ((1 : Nat) : Int) (by omega) (by omega) 1 2 1 (by decide +kernel) (by decide +kernel))) <| zM <| zE oEx <| zE oEx <| zN (oAl 1 ze44 zo44) <| zT (oSt sh44) <| zM <| zZ) ?_
  refine pwp_seq <| kx [(5, (.ref 2 0))] [(2, some (bx (encA43 (A3.mk (ofZ 33) (ofZ 2) (ofZ 1)))))] (zE (oCl (l_Reduced ((33 : Nat) : Int) (by omega) (by omega) ((2 : Nat) : Int) (by omega) (by omega) ((1 : Nat) : Int) (by omega) (by omega) 33 2 1 (by decide +kernel) (by decide +kernel))) <| zM <| zE oEx <| zE oEx <| zN (oAl 2 ze44 zo44) <| zT (oSt sh44) <| zM <| zZ) ?_
  refine pwp_seq <| kx [(7, (.ref 3 0)), (8, (vi 0))] [(3, some (bx (encA43 (A3.mk (ofZ 33) (ofZ 2) (ofZ 1)))))] (zR (oLa sh32) <| zR (oLa sh44) <| zE (oCl (d_apply (A9.mk (ofZ 1) (ofZ 0) (ofZ 32) (ofZ 0) (ofZ 1) (ofZ 0) (ofZ 0) (ofZ 0) (ofZ 1)) 1 0 32 0 1 0 0 0 1 (iok_up (iok_small (z := 1) (by decide)) (by decide)) (iok_up (iok_small (z := 0) (by decide)) (by decide)) (iok_up (iok_small (z := 32) (by decide)) (by decide)) (iok_up (iok_small (z := 0) (by decide)) (by decide)) (iok_up (iok_small (z := 1) (by decide)) (by decide)) (iok_up (iok_small (z := 0) (by decide)) (by decide)) (iok_up (iok_small (z := 0) (by decide)) (by decide)) (iok_up (iok_small (z := 0) (by decide)) (by decide)) (iok_up (iok_small (z := 1) (by decide)) (by decide)) (A3.mk (ofZ 1) (ofZ 2) (ofZ 1)) 1 2 1 (iok_up (iok_small (z := 1) (by decide)) (by decide)) (iok_up (iok_small (z := 2) (by decide)) (by decide)) (iok_up (iok_small (z := 1) (by decide)) (by decide)) 33 2 1 (by decide +kernel) (valH_closed [1, 0, 32, 0, 1, 0, 0, 0, 1] _ (by decide +kernel)) (redB_closed [1, 2, 1] (by decide +kernel)) (by decide +kernel))) <| zM <| zE oEx <| zE oEx <| zN (oAl 3 ze44 zo44) <| zT (oSt sh44) <| zM <| zZ) ?_
  refine pwp_seq <| kx [(9, (.ref 4 0)), (10, (vi 0))] [(4, some (bx (encA31 y1)))] (zE (oBd pl25 ze25 zo25) <| zE (oBd pl23 ze23 zo23) <| zE (oBd pl23 ze23 zo23) <| zE (oBd pl25 ze25 zo25) <| zE (oBd pl23 ze23 zo23) <| zE (oBd pl23 ze23 zo23) <| zE (oBd pl25 ze25 zo25) <| zE (oBd pl23 ze23 zo23) <| zE (oBd pl23 ze23 zo23) <| zE (oBd pl25 ze25 zo25) <| zE (oBf ar26 ze26 zo26) <| zE (oCl (d_four 0 0 0 0 ((1 : Nat) : Int) 0 ((2 : Nat) : Int) 0 0 ((1 : Nat) : Int) 0 ((2 : Nat) : Int) ((1 : Nat) : Int) ((1 : Nat) : Int) ((4 : Nat) : Int) ((4 : Nat) : Int) (by omega) (by omega) (by omega) (by omega) (by omega) (by omega) (by omega) (by omega) (by omega) (by omega) (by omega) (by omega) (by omega) (by omega) (by omega) (by omega) (-1) (by decide +kernel) 1 (by decide +kernel) 1 (by decide +kernel) 1 (by decide +kernel) (-12) (by decide +kernel) 8 (by decide +kernel) 8 (by decide +kernel) 4 (by decide +kernel) 0 (by decide +kernel) 1 (by decide +kernel) 0 (by decide +kernel) 0 (by decide +kernel) 0 (by decide +kernel) 1 (by decide +kernel) (-1) (by decide +kernel) 1 (by decide +kernel) 1 (by decide +kernel) 0 (by decide +kernel) 16 (by decide +kernel) 0 (by decide +kernel) 0 (by decide +kernel) 0 (by decide +kernel) 16 (by decide +kernel) (-12) (by decide +kernel) 8 (by decide +kernel) 8 (by decide +kernel) 4 0 0 0 4 0 (-1) (-1) 3 (by decide +kernel) (by decide +kernel) (by decide +kernel) (by decide +kernel) (by decide +kernel) (by decide +kernel) (by decide +kernel) (by decide +kernel) (by decide +kernel) (by decide +kernel))) <| zM <| zE oEx <| zE oEx <| zN (oAl 4 ze32 zo32) <| zT (oSt sh32) <| zM <| zZ) ?_
  refine pwp_seq <| kx [(11, (.ref 5 0))] [(5, some (bx (encA31 y1)))] (zE (oBf ar80 ze80 zo80) <| zE (oCl (l_made ((4 : Nat) : Int) ((0 : Nat) : Int) ((0 : Nat) : Int) ((0 : Nat) : Int) ((4 : Nat) : Int) ((0 : Nat) : Int) (-1) (-1) ((3 : Nat) : Int) (by omega) (by omega) (by omega) (by omega) (by omega) (by omega) (by omega) (by omega) (by omega) 4 0 0 0 4 0 (-1) (-1) 3 (by decide +kernel) (by decide +kernel) (by decide +kernel))) <| zM <| zE oEx <| zE oEx <| zN (oAl 5 ze32 zo32) <| zT (oSt sh32) <| zM <| zZ) ?_
  refine pwp_seq <| kx [(0, (vb true))] [] (zM <| zE oEq <| zM <| zM <| zE oEq <| zE oPt <| zM <| zR (oLa sh44) <| zR (oLa sh44) <| zE (oCl (l_sameT3 (A3.mk (ofZ 33) (ofZ 2) (ofZ 1)) 33 2 1 (iok_up (iok_small (z := 33) (by decide)) (by decide)) (iok_up (iok_small (z := 2) (by decide)) (by decide)) (iok_up (iok_small (z := 1) (by decide)) (by decide)) (A3.mk (ofZ 33) (ofZ 2) (ofZ 1)) 33 2 1 (iok_up (iok_small (z := 33) (by decide)) (by decide)) (iok_up (iok_small (z := 2) (by decide)) (by decide)) (iok_up (iok_small (z := 1) (by decide)) (by decide)) (validI_ofZ _) (validI_ofZ _) (validI_ofZ _) (sameI_self _) (sameI_self _) (sameI_self _))) <| zE oPt <| zM <| zR (oLa sh32) <| zR (oLa sh32) <| zE (oCl (l_sameT9 y1 4 0 0 0 4 0 (-1) (-1) 3 (iok_up (iok_small (z := 4) (by decide)) (by decide)) (iok_up (iok_small (z := 0) (by decide)) (by decide)) (iok_up (iok_small (z := 0) (by decide)) (by decide)) (iok_up (iok_small (z := 0) (by decide)) (by decide)) (iok_up (iok_small (z := 4) (by decide)) (by decide)) (iok_up (iok_small (z := 0) (by decide)) (by decide)) (iok_up (iok_small (z := (-1)) (by decide)) (by decide)) (iok_up (iok_small (z := (-1)) (by decide)) (by decide)) (iok_up (iok_small (z := 3) (by decide)) (by decide)) y1 4 0 0 0 4 0 (-1) (-1) 3 (iok_up (iok_small (z := 4) (by decide)) (by decide)) (iok_up (iok_small (z := 0) (by decide)) (by decide)) (iok_up (iok_small (z := 0) (by decide)) (by decide)) (iok_up (iok_small (z := 0) (by decide)) (by decide)) (iok_up (iok_small (z := 4) (by decide)) (by decide)) (iok_up (iok_small (z := 0) (by decide)) (by decide)) (iok_up (iok_small (z := (-1)) (by decide)) (by decide)) (iok_up (iok_small (z := (-1)) (by decide)) (by decide)) (iok_up (iok_small (z := 3) (by decide)) (by decide)) (validI_ofZ _) (validI_ofZ _) (validI_ofZ _) (validI_ofZ _) (validI_ofZ _) (validI_ofZ _) (validI_ofZ _) (validI_ofZ _) (validI_ofZ _) (sameI_self _) (sameI_self _) (sameI_self _) (sameI_self _) (sameI_self _) (sameI_self _) (sameI_self _) (sameI_self _) (sameI_self _))) <| zE oPt <| zM <| zR (oLa sh32) <| zE (oBk true (oCl (d_valid (A9.mk (ofZ 1) (ofZ 0) (ofZ 32) (ofZ 0) (ofZ 1) (ofZ 0) (ofZ 0) (ofZ 0) (ofZ 1)) 1 0 32 0 1 0 0 0 1 (iok_up (iok_small (z := 1) (by decide)) (by decide)) (iok_up (iok_small (z := 0) (by decide)) (by decide)) (iok_up (iok_small (z := 32) (by decide)) (by decide)) (iok_up (iok_small (z := 0) (by decide)) (by decide)) (iok_up (iok_small (z := 1) (by decide)) (by decide)) (iok_up (iok_small (z := 0) (by decide)) (by decide)) (iok_up (iok_small (z := 0) (by decide)) (by decide)) (iok_up (iok_small (z := 0) (by decide)) (by decide)) (iok_up (iok_small (z := 1) (by decide)) (by decide)))) (by exact (valH_closed [1, 0, 32, 0, 1, 0, 0, 0, 1] _ (by decide +kernel)))) <| zE oPt <| zM <| zE (oBa ar44 ze44 zo44) <| zE (oBk false (oCl (d_proper (A3.mk (RInt.mk false []) (RInt.mk false []) (RInt.mk false [])) 0 0 0 (iu iok_zero) (iu iok_zero) (iu iok_zero))) (by exact (by decide +kernel))) <| zE oNt <| zE oPt <| zM <| zZ) ?_
  refine pwp_ret ⟨_, (.tmp (d := (.val (.bool (true)))) rfl .nil), ?_⟩
  rfl
theorem l_map1 (h : A9 RInt) (h0 h1 h2 h3 h4 h5 h6 h7 h8 : Int) (hh0 : IOk h.a0 h0 140737488355328) (hh1 : IOk h.a1 h1 140737488355328) (hh2 : IOk h.a2 h2 140737488355328) (hh3 : IOk h.a3 h3 140737488355328) (hh4 : IOk h.a4 h4 140737488355328) (hh5 : IOk h.a5 h5 140737488355328) (hh6 : IOk h.a6 h6 140737488355328) (hh7 : IOk h.a7 h7 140737488355328) (hh8 : IOk h.a8 h8 140737488355328) : Takes Tryz.prog 20 [(encA31 h)] (.sl 32 18 (List.map encA31 [h])) := by
  refine fn_intro Tryz.func20 rfl cb20 rfl ?_
  show PWp _ _ _ _ ⟨[(0, (.d (encA31 h)))], []⟩
  refine pwp_seq <| kx [(1, (.ref 0 0))] [(0, some (bx (encA31 h)))] (zN (oBx 0) <| zE (oNl 32 18) <| zZ) ?_
  refine pwp_seq <| kx [(2, (vl 32 18 encA31 [h]))] [] (zR (oLa sh32) <| zE (oBs el49 ze32 zo32) <| zM <| zZ) ?_
  refine pwp_ret ⟨_, (.tmp (d := (.sl 32 18 (List.map encA31 [h]))) rfl .nil), ?_⟩
  rfl
theorem l_briefT14 (h : A9 RInt) (h0 h1 h2 h3 h4 h5 h6 h7 h8 : Int) (hh0 : IOk h.a0 h0 140737488355328) (hh1 : IOk h.a1 h1 140737488355328) (hh2 : IOk h.a2 h2 140737488355328) (hh3 : IOk h.a3 h3 140737488355328) (hh4 : IOk h.a4 h4 140737488355328) (hh5 : IOk h.a5 h5 140737488355328) (hh6 : IOk h.a6 h6 140737488355328) (hh7 : IOk h.a7 h7 140737488355328) (hh8 : IOk h.a8 h8 140737488355328) (p : A3 RInt) (p0 p1 p2 : Int) (hp0 : IOk p.a0 p0 140737488355328) (hp1 : IOk p.a1 p1 140737488355328) (hp2 : IOk p.a2 p2 140737488355328) (q : A3 RInt) (q0 q1 q2 : Int) (hq0 : IOk q.a0 q0 140737488355328) (hq1 : IOk q.a1 q1 140737488355328) (hq2 : IOk q.a2 q2 140737488355328) (r : A3 RInt) (r0 r1 r2 : Int) (hr0 : IOk r.a0 r0 140737488355328) (hr1 : IOk r.a1 r1 140737488355328) (hr2 : IOk r.a2 r2 140737488355328) (s : A3 RInt) (s0 s1 s2 : Int) (hs0 : IOk s.a0 s0 140737488355328) (hs1 : IOk s.a1 s1 140737488355328) (hs2 : IOk s.a2 s2 140737488355328) (hb0 : List.all [h.a0, h.a1, h.a2, h.a3, h.a4, h.a5, h.a6, h.a7, h.a8] short4 = true) (hb1 : List.all [p.a0, p.a1, p.a2] short4 = true) (hb2 : List.all [q.a0, q.a1, q.a2] short4 = true) (hb3 : List.all [r.a0, r.a1, r.a2] short4 = true) (hb4 : List.all [s.a0, s.a1, s.a2] short4 = true) : Takes Tryz.prog 19 [(.sl 32 18 (List.map encA31 [h])), (.sl 44 6 (List.map encA43 [p, q, r, s]))] (.val (.bool (true))) := by
  refine fn_intro Tryz.func19 rfl cb19 rfl ?_
  show PWp _ _ _ _ ⟨[(0, (vl 32 18 encA31 [h])), (1, (vl 44 6 encA43 [p, q, r, s]))], []⟩
  refine pwp_seq <| kx [] [] (zM <| zZ) ?_
  refine pwp_seq <| pwp_seq <| kx [(9, (vl 32 18 encA31 [h])), (10, (vin 1)), (11, (vin 0))] [] (zM <| zE (oLn el49 1) <| zM <| zZ) ?_
  refine pwp_block <| pwp_rounds 20 ?_
  refine pwp_round <| pwp_seq <| kx [(12, (vb true))] [] (zE (oBk true oLt) <| zZ) ?_
  refine pwp_seq <| pwp_cond (b := true) (by kernel_rfl) (fun _ => ?_) (fun h => by cases h)
  refine pwp_skip <| pwp_seq <| pwp_block <| pwp_seq <| kx [(6, (.ref 0 0))] [(0, some (bx (encA31 h)))] (zE (oXs el49 0) <| zE (oCa sh32) <| zN (oAl 0 ze32 zo32) <| zT (oSt sh32) <| zZ) ?_
  refine pwp_seq <| kx [(17, (vb false))] [] (zE (e_slv (by exact rfl) ar32 (by exact rfl) (by kernel_rfl) (by kernel_rfl)) <| zR ⟨(bx (encA31 h)), e_clv (es := List.map encI [h.a0, h.a1, h.a2, h.a3, h.a4, h.a5, h.a6, h.a7, h.a8]) (l_short4 1000000 [h.a0, h.a1, h.a2, h.a3, h.a4, h.a5, h.a6, h.a7, h.a8] [h0, h1, h2, h3, h4, h5, h6, h7, h8] (.cons hh0 (.cons hh1 (.cons hh2 (.cons hh3 (.cons hh4 (.cons hh5 (.cons hh6 (.cons hh7 (.cons hh8 .nil))))))))) (Nat.le_of_ble_eq_true rfl)) (by exact rfl) (by kernel_rfl) (by exact rfl) (.v .nil) (pubs_cells _ _ (fun _ => rfl)) (by kernel_rfl) (by kernel_rfl) (.val _), by kernel_rfl⟩ <| zE (oBk false oNt (by exact congrArg (!·) hb0)) <| zZ) ?_
  refine pwp_cond (b := false) (by kernel_rfl) (fun h => by cases h) (fun _ => ?_)
  refine pwp_skip <| kx [(11, (vin 1))] [] (zE (oAd 1 (hr := by decide)) <| zM <| zZ) ?_
  refine pwp_again (SimImp.refl _) ?_
  refine pwp_seq <| kx [(12, (vb false))] [] (zE (oBk false oLt) <| zZ) ?_
  refine pwp_seq <| pwp_cond (b := false) (by kernel_rfl) (fun h => by cases h) (fun _ => ?_)
  refine pwp_exit <| pwp_seq <| pwp_seq <| kx [(19, (vl 44 6 encA43 [p, q, r, s])), (20, (vin 4)), (21, (vin 0))] [] (zM <| zE (oLn el65 4) <| zM <| zZ) ?_
  refine pwp_block <| pwp_rounds 20 ?_
  refine pwp_round <| pwp_seq <| kx [(22, (vb true))] [] (zE (oBk true oLt) <| zZ) ?_
  refine pwp_seq <| pwp_cond (b := true) (by kernel_rfl) (fun _ => ?_) (fun h => by cases h)
  refine pwp_skip <| pwp_seq <| pwp_block <| pwp_seq <| kx [(8, (.ref 1 0))] [(1, some (bx (encA43 p)))] (zE (oXs el65 0) <| zE (oCa sh44) <| zN (oAl 1 ze44 zo44) <| zT (oSt sh44) <| zZ) ?_
  refine pwp_seq <| kx [(27, (vb false))] [] (zE (e_slv (by exact rfl) ar44 (by exact rfl) (by kernel_rfl) (by kernel_rfl)) <| zR ⟨(bx (encA43 p)), e_clv (es := List.map encI [p.a0, p.a1, p.a2]) (l_short4 1000000 [p.a0, p.a1, p.a2] [p0, p1, p2] (.cons hp0 (.cons hp1 (.cons hp2 .nil))) (Nat.le_of_ble_eq_true rfl)) (by exact rfl) (by kernel_rfl) (by exact rfl) (.v .nil) (pubs_cells _ _ (fun _ => rfl)) (by kernel_rfl) (by kernel_rfl) (.val _), by kernel_rfl⟩ <| zE (oBk false oNt (by exact congrArg (!·) hb1)) <| zZ) ?_
  refine pwp_cond (b := false) (by kernel_rfl) (fun h => by cases h) (fun _ => ?_)
  refine pwp_skip <| kx [(21, (vin 1))] [] (zE (oAd 1 (hr := by decide)) <| zM <| zZ) ?_
  refine pwp_again (SimImp.refl _) ?_
  refine pwp_seq <| kx [(22, (vb true))] [] (zE (oBk true oLt) <| zZ) ?_
  refine pwp_seq <| pwp_cond (b := true) (by kernel_rfl) (fun _ => ?_) (fun h => by cases h)
  refine pwp_skip <| pwp_seq <| pwp_block <| pwp_seq <| kx [(8, (.ref 2 0))] [(2, some (bx (encA43 q)))] (zE (oXs el65 1) <| zE (oCa sh44) <| zN (oAl 2 ze44 zo44) <| zT (oSt sh44) <| zZ) ?_
  refine pwp_seq <| pwp_sim (wk (l := [(8, (.ref 2 0)), (19, (vl 44 6 encA43 [p, q, r, s])), (20, (vin 4)), (21, (vin 1))]) (b := [(2, some (bx (encA43 q)))])) ?_
  refine kx [(27, (vb false))] [] (zE (e_slv (by exact rfl) ar44 (by exact rfl) (by kernel_rfl) (by kernel_rfl)) <| zR ⟨(bx (encA43 q)), e_clv (es := List.map encI [q.a0, q.a1, q.a2]) (l_short4 1000000 [q.a0, q.a1, q.a2] [q0, q1, q2] (.cons hq0 (.cons hq1 (.cons hq2 .nil))) (Nat.le_of_ble_eq_true rfl)) (by exact rfl) (by kernel_rfl) (by exact rfl) (.v .nil) (pubs_cells _ _ (fun _ => rfl)) (by kernel_rfl) (by kernel_rfl) (.val _), by kernel_rfl⟩ <| zE (oBk false oNt (by exact congrArg (!·) hb2)) <| zZ) ?_
  refine pwp_cond (b := false) (by kernel_rfl) (fun h => by cases h) (fun _ => ?_)
  refine pwp_skip <| kx [(21, (vin 2))] [] (zE (oAd 2 (hr := by decide)) <| zM <| zZ) ?_
  refine pwp_again (SimImp.refl _) ?_
  refine pwp_seq <| kx [(22, (vb true))] [] (zE (oBk true oLt) <| zZ) ?_
  refine pwp_seq <| pwp_cond (b := true) (by kernel_rfl) (fun _ => ?_) (fun h => by cases h)
  refine pwp_skip <| pwp_seq <| pwp_block <| pwp_seq <| kx [(8, (.ref 3 0))] [(3, some (bx (encA43 r)))] (zE (oXs el65 2) <| zE (oCa sh44) <| zN (oAl 3 ze44 zo44) <| zT (oSt sh44) <| zZ) ?_
  refine pwp_seq <| kx [(27, (vb false))] [] (zE (e_slv (by exact rfl) ar44 (by exact rfl) (by kernel_rfl) (by kernel_rfl)) <| zR ⟨(bx (encA43 r)), e_clv (es := List.map encI [r.a0, r.a1, r.a2]) (l_short4 1000000 [r.a0, r.a1, r.a2] [r0, r1, r2] (.cons hr0 (.cons hr1 (.cons hr2 .nil))) (Nat.le_of_ble_eq_true rfl)) (by exact rfl) (by kernel_rfl) (by exact rfl) (.v .nil) (pubs_cells _ _ (fun _ => rfl)) (by kernel_rfl) (by kernel_rfl) (.val _), by kernel_rfl⟩ <| zE (oBk false oNt (by exact congrArg (!·) hb3)) <| zZ) ?_
  refine pwp_cond (b := false) (by kernel_rfl) (fun h => by cases h) (fun _ => ?_)
  refine pwp_skip <| kx [(21, (vin 3))] [] (zE (oAd 3 (hr := by decide)) <| zM <| zZ) ?_
  refine pwp_again (SimImp.refl _) ?_
  refine pwp_seq <| kx [(22, (vb true))] [] (zE (oBk true oLt) <| zZ) ?_
  refine pwp_seq <| pwp_cond (b := true) (by kernel_rfl) (fun _ => ?_) (fun h => by cases h)
  refine pwp_skip <| pwp_seq <| pwp_block <| pwp_seq <| kx [(8, (.ref 4 0))] [(4, some (bx (encA43 s)))] (zE (oXs el65 3) <| zE (oCa sh44) <| zN (oAl 4 ze44 zo44) <| zT (oSt sh44) <| zZ) ?_
  refine pwp_seq <| kx [(27, (vb false))] [] (zE (e_slv (by exact rfl) ar44 (by exact rfl) (by kernel_rfl) (by kernel_rfl)) <| zR ⟨(bx (encA43 s)), e_clv (es := List.map encI [s.a0, s.a1, s.a2]) (l_short4 1000000 [s.a0, s.a1, s.a2] [s0, s1, s2] (.cons hs0 (.cons hs1 (.cons hs2 .nil))) (Nat.le_of_ble_eq_true rfl)) (by exact rfl) (by kernel_rfl) (by exact rfl) (.v .nil) (pubs_cells _ _ (fun _ => rfl)) (by kernel_rfl) (by kernel_rfl) (.val _), by kernel_rfl⟩ <| zE (oBk false oNt (by exact congrArg (!·) hb4)) <| zZ) ?_
  refine pwp_cond (b := false) (by kernel_rfl) (fun h => by cases h) (fun _ => ?_)
  refine pwp_skip <| kx [(21, (vin 4))] [] (zE (oAd 4 (hr := by decide)) <| zM <| zZ) ?_
  refine pwp_again (SimImp.refl _) ?_
  refine pwp_seq <| kx [(22, (vb false))] [] (zE (oBk false oLt) <| zZ) ?_
  refine pwp_seq <| pwp_cond (b := false) (by kernel_rfl) (fun h => by cases h) (fun _ => ?_)
  refine pwp_exit <| pwp_seq <| kx [(4, (vb true))] [] (zM <| zZ) ?_
  refine pwp_ret ⟨_, (.tmp (d := (.val (.bool (true)))) rfl .nil), ?_⟩
  rfl
theorem l_briefF14_0 (h : A9 RInt) (h0 h1 h2 h3 h4 h5 h6 h7 h8 : Int) (hh0 : IOk h.a0 h0 140737488355328) (hh1 : IOk h.a1 h1 140737488355328) (hh2 : IOk h.a2 h2 140737488355328) (hh3 : IOk h.a3 h3 140737488355328) (hh4 : IOk h.a4 h4 140737488355328) (hh5 : IOk h.a5 h5 140737488355328) (hh6 : IOk h.a6 h6 140737488355328) (hh7 : IOk h.a7 h7 140737488355328) (hh8 : IOk h.a8 h8 140737488355328) (p : A3 RInt) (p0 p1 p2 : Int) (hp0 : IOk p.a0 p0 140737488355328) (hp1 : IOk p.a1 p1 140737488355328) (hp2 : IOk p.a2 p2 140737488355328) (q : A3 RInt) (q0 q1 q2 : Int) (hq0 : IOk q.a0 q0 140737488355328) (hq1 : IOk q.a1 q1 140737488355328) (hq2 : IOk q.a2 q2 140737488355328) (r : A3 RInt) (r0 r1 r2 : Int) (hr0 : IOk r.a0 r0 140737488355328) (hr1 : IOk r.a1 r1 140737488355328) (hr2 : IOk r.a2 r2 140737488355328) (s : A3 RInt) (s0 s1 s2 : Int) (hs0 : IOk s.a0 s0 140737488355328) (hs1 : IOk s.a1 s1 140737488355328) (hs2 : IOk s.a2 s2 140737488355328) (hbx : List.all [h.a0, h.a1, h.a2, h.a3, h.a4, h.a5, h.a6, h.a7, h.a8] short4 = false) : Takes Tryz.prog 19 [(.sl 32 18 (List.map encA31 [h])), (.sl 44 6 (List.map encA43 [p, q, r, s]))] (.val (.bool (false))) := by
  refine fn_intro Tryz.func19 rfl cb19 rfl ?_
  show PWp _ _ _ _ ⟨[(0, (vl 32 18 encA31 [h])), (1, (vl 44 6 encA43 [p, q, r, s]))], []⟩
  refine pwp_seq <| kx [] [] (zM <| zZ) ?_
  refine pwp_seq <| pwp_seq <| kx [(9, (vl 32 18 encA31 [h])), (10, (vin 1)), (11, (vin 0))] [] (zM <| zE (oLn el49 1) <| zM <| zZ) ?_
  refine pwp_block <| pwp_rounds 20 ?_
  refine pwp_round <| pwp_seq <| kx [(12, (vb true))] [] (zE (oBk true oLt) <| zZ) ?_
  refine pwp_seq <| pwp_cond (b := true) (by kernel_rfl) (fun _ => ?_) (fun h => by cases h)
  refine pwp_skip <| pwp_seq <| pwp_block <| pwp_seq <| kx [(6, (.ref 0 0))] [(0, some (bx (encA31 h)))] (zE (oXs el49 0) <| zE (oCa sh32) <| zN (oAl 0 ze32 zo32) <| zT (oSt sh32) <| zZ) ?_
  refine pwp_seq <| kx [(17, (vb true))] [] (zE (e_slv (by exact rfl) ar32 (by exact rfl) (by kernel_rfl) (by kernel_rfl)) <| zR ⟨(bx (encA31 h)), e_clv (es := List.map encI [h.a0, h.a1, h.a2, h.a3, h.a4, h.a5, h.a6, h.a7, h.a8]) (l_short4 1000000 [h.a0, h.a1, h.a2, h.a3, h.a4, h.a5, h.a6, h.a7, h.a8] [h0, h1, h2, h3, h4, h5, h6, h7, h8] (.cons hh0 (.cons hh1 (.cons hh2 (.cons hh3 (.cons hh4 (.cons hh5 (.cons hh6 (.cons hh7 (.cons hh8 .nil))))))))) (Nat.le_of_ble_eq_true rfl)) (by exact rfl) (by kernel_rfl) (by exact rfl) (.v .nil) (pubs_cells _ _ (fun _ => rfl)) (by kernel_rfl) (by kernel_rfl) (.val _), by kernel_rfl⟩ <| zE (oBk true oNt (by exact congrArg (!·) hbx)) <| zZ) ?_
  refine pwp_cond (b := true) (by kernel_rfl) (fun _ => ?_) (fun h => by cases h)
  refine pwp_seq <| kx [(4, (vb false))] [] (zM <| zZ) ?_
  refine pwp_ret ⟨_, (.tmp (d := (.val (.bool (false)))) rfl .nil), ?_⟩
  rfl
theorem l_briefF14_1 (h : A9 RInt) (h0 h1 h2 h3 h4 h5 h6 h7 h8 : Int) (hh0 : IOk h.a0 h0 140737488355328) (hh1 : IOk h.a1 h1 140737488355328) (hh2 : IOk h.a2 h2 140737488355328) (hh3 : IOk h.a3 h3 140737488355328) (hh4 : IOk h.a4 h4 140737488355328) (hh5 : IOk h.a5 h5 140737488355328) (hh6 : IOk h.a6 h6 140737488355328) (hh7 : IOk h.a7 h7 140737488355328) (hh8 : IOk h.a8 h8 140737488355328) (p : A3 RInt) (p0 p1 p2 : Int) (hp0 : IOk p.a0 p0 140737488355328) (hp1 : IOk p.a1 p1 140737488355328) (hp2 : IOk p.a2 p2 140737488355328) (q : A3 RInt) (q0 q1 q2 : Int) (hq0 : IOk q.a0 q0 140737488355328) (hq1 : IOk q.a1 q1 140737488355328) (hq2 : IOk q.a2 q2 140737488355328) (r : A3 RInt) (r0 r1 r2 : Int) (hr0 : IOk r.a0 r0 140737488355328) (hr1 : IOk r.a1 r1 140737488355328) (hr2 : IOk r.a2 r2 140737488355328) (s : A3 RInt) (s0 s1 s2 : Int) (hs0 : IOk s.a0 s0 140737488355328) (hs1 : IOk s.a1 s1 140737488355328) (hs2 : IOk s.a2 s2 140737488355328) (hb0 : List.all [h.a0, h.a1, h.a2, h.a3, h.a4, h.a5, h.a6, h.a7, h.a8] short4 = true) (hbx : List.all [p.a0, p.a1, p.a2] short4 = false) : Takes Tryz.prog 19 [(.sl 32 18 (List.map encA31 [h])), (.sl 44 6 (List.map encA43 [p, q, r, s]))] (.val (.bool (false))) := by
  refine fn_intro Tryz.func19 rfl cb19 rfl ?_
  show PWp _ _ _ _ ⟨[(0, (vl 32 18 encA31 [h])), (1, (vl 44 6 encA43 [p, q, r, s]))], []⟩
  refine pwp_seq <| kx [] [] (zM <| zZ) ?_
  refine pwp_seq <| pwp_seq <| kx [(9, (vl 32 18 encA31 [h])), (10, (vin 1)), (11, (vin 0))] [] (zM <| zE (oLn el49 1) <| zM <| zZ) ?_
  refine pwp_block <| pwp_rounds 20 ?_
  refine pwp_round <| pwp_seq <| kx [(12, (vb true))] [] (zE (oBk true oLt) <| zZ) ?_
  refine pwp_seq <| pwp_cond (b := true) (by kernel_rfl) (fun _ => ?_) (fun h => by cases h)
  refine pwp_skip <| pwp_seq <| pwp_block <| pwp_seq <| kx [(6, (.ref 0 0))] [(0, some (bx (encA31 h)))] (zE (oXs el49 0) <| zE (oCa sh32) <| zN (oAl 0 ze32 zo32) <| zT (oSt sh32) <| zZ) ?_
  refine pwp_seq <| kx [(17, (vb false))] [] (zE (e_slv (by exact rfl) ar32 (by exact rfl) (by kernel_rfl) (by kernel_rfl)) <| zR ⟨(bx (encA31 h)), e_clv (es := List.map encI [h.a0, h.a1, h.a2, h.a3, h.a4, h.a5, h.a6, h.a7, h.a8]) (l_short4 1000000 [h.a0, h.a1, h.a2, h.a3, h.a4, h.a5, h.a6, h.a7, h.a8] [h0, h1, h2, h3, h4, h5, h6, h7, h8] (.cons hh0 (.cons hh1 (.cons hh2 (.cons hh3 (.cons hh4 (.cons hh5 (.cons hh6 (.cons hh7 (.cons hh8 .nil))))))))) (Nat.le_of_ble_eq_true rfl)) (by exact rfl) (by kernel_rfl) (by exact rfl) (.v .nil) (pubs_cells _ _ (fun _ => rfl)) (by kernel_rfl) (by kernel_rfl) (.val _), by kernel_rfl⟩ <| zE (oBk false oNt (by exact congrArg (!·) hb0)) <| zZ) ?_
  refine pwp_cond (b := false) (by kernel_rfl) (fun h => by cases h) (fun _ => ?_)
  refine pwp_skip <| kx [(11, (vin 1))] [] (zE (oAd 1 (hr := by decide)) <| zM <| zZ) ?_
  refine pwp_again (SimImp.refl _) ?_
  refine pwp_seq <| kx [(12, (vb false))] [] (zE (oBk false oLt) <| zZ) ?_
  refine pwp_seq <| pwp_cond (b := false) (by kernel_rfl) (fun h => by cases h) (fun _ => ?_)
  refine pwp_exit <| pwp_seq <| pwp_seq <| kx [(19, (vl 44 6 encA43 [p, q, r, s])), (20, (vin 4)), (21, (vin 0))] [] (zM <| zE (oLn el65 4) <| zM <| zZ) ?_
  refine pwp_block <| pwp_rounds 20 ?_
  refine pwp_round <| pwp_seq <| kx [(22, (vb true))] [] (zE (oBk true oLt) <| zZ) ?_
  refine pwp_seq <| pwp_cond (b := true) (by kernel_rfl) (fun _ => ?_) (fun h => by cases h)
  refine pwp_skip <| pwp_seq <| pwp_block <| pwp_seq <| kx [(8, (.ref 1 0))] [(1, some (bx (encA43 p)))] (zE (oXs el65 0) <| zE (oCa sh44) <| zN (oAl 1 ze44 zo44) <| zT (oSt sh44) <| zZ) ?_
  refine pwp_seq <| kx [(27, (vb true))] [] (zE (e_slv (by exact rfl) ar44 (by exact rfl) (by kernel_rfl) (by kernel_rfl)) <| zR ⟨(bx (encA43 p)), e_clv (es := List.map encI [p.a0, p.a1, p.a2]) (l_short4 1000000 [p.a0, p.a1, p.a2] [p0, p1, p2] (.cons hp0 (.cons hp1 (.cons hp2 .nil))) (Nat.le_of_ble_eq_true rfl)) (by exact rfl) (by kernel_rfl) (by exact rfl) (.v .nil) (pubs_cells _ _ (fun _ => rfl)) (by kernel_rfl) (by kernel_rfl) (.val _), by kernel_rfl⟩ <| zE (oBk true oNt (by exact congrArg (!·) hbx)) <| zZ) ?_
  refine pwp_cond (b := true) (by kernel_rfl) (fun _ => ?_) (fun h => by cases h)
  refine pwp_seq <| kx [(4, (vb false))] [] (zM <| zZ) ?_
  refine pwp_ret ⟨_, (.tmp (d := (.val (.bool (false)))) rfl .nil), ?_⟩
  rfl
theorem l_briefF14_2 (h : A9 RInt) (h0 h1 h2 h3 h4 h5 h6 h7 h8 : Int) (hh0 : IOk h.a0 h0 140737488355328) (hh1 : IOk h.a1 h1 140737488355328) (hh2 : IOk h.a2 h2 140737488355328) (hh3 : IOk h.a3 h3 140737488355328) (hh4 : IOk h.a4 h4 140737488355328) (hh5 : IOk h.a5 h5 140737488355328) (hh6 : IOk h.a6 h6 140737488355328) (hh7 : IOk h.a7 h7 140737488355328) (hh8 : IOk h.a8 h8 140737488355328) (p : A3 RInt) (p0 p1 p2 : Int) (hp0 : IOk p.a0 p0 140737488355328) (hp1 : IOk p.a1 p1 140737488355328) (hp2 : IOk p.a2 p2 140737488355328) (q : A3 RInt) (q0 q1 q2 : Int) (hq0 : IOk q.a0 q0 140737488355328) (hq1 : IOk q.a1 q1 140737488355328) (hq2 : IOk q.a2 q2 140737488355328) (r : A3 RInt) (r0 r1 r2 : Int) (hr0 : IOk r.a0 r0 140737488355328) (hr1 : IOk r.a1 r1 140737488355328) (hr2 : IOk r.a2 r2 140737488355328) (s : A3 RInt) (s0 s1 s2 : Int) (hs0 : IOk s.a0 s0 140737488355328) (hs1 : IOk s.a1 s1 140737488355328) (hs2 : IOk s.a2 s2 140737488355328) (hb0 : List.all [h.a0, h.a1, h.a2, h.a3, h.a4, h.a5, h.a6, h.a7, h.a8] short4 = true) (hb1 : List.all [p.a0, p.a1, p.a2] short4 = true) (hbx : List.all [q.a0, q.a1, q.a2] short4 = false) : Takes Tryz.prog 19 [(.sl 32 18 (List.map encA31 [h])), (.sl 44 6 (List.map encA43 [p, q, r, s]))] (.val (.bool (false))) := by
  refine fn_intro Tryz.func19 rfl cb19 rfl ?_
  show PWp _ _ _ _ ⟨[(0, (vl 32 18 encA31 [h])), (1, (vl 44 6 encA43 [p, q, r, s]))], []⟩
  refine pwp_seq <| kx [] [] (zM <| zZ) ?_
  refine pwp_seq <| pwp_seq <| kx [(9, (vl 32 18 encA31 [h])), (10, (vin 1)), (11, (vin 0))] [] (zM <| zE (oLn el49 1) <| zM <| zZ) ?_
  refine pwp_block <| pwp_rounds 20 ?_
  refine pwp_round <| pwp_seq <| kx [(12, (vb true))] [] (zE (oBk true oLt) <| zZ) ?_
  refine pwp_seq <| pwp_cond (b := true) (by kernel_rfl) (fun _ => ?_) (fun h => by cases h)
  refine pwp_skip <| pwp_seq <| pwp_block <| pwp_seq <| kx [(6, (.ref 0 0))] [(0, some (bx (encA31 h)))] (zE (oXs el49 0) <| zE (oCa sh32) <| zN (oAl 0 ze32 zo32) <| zT (oSt sh32) <| zZ) ?_
  refine pwp_seq <| kx [(17, (vb false))] [] (zE (e_slv (by exact rfl) ar32 (by exact rfl) (by kernel_rfl) (by kernel_rfl)) <| zR ⟨(bx (encA31 h)), e_clv (es := List.map encI [h.a0, h.a1, h.a2, h.a3, h.a4, h.a5, h.a6, h.a7, h.a8]) (l_short4 1000000 [h.a0, h.a1, h.a2, h.a3, h.a4, h.a5, h.a6, h.a7, h.a8] [h0, h1, h2, h3, h4, h5, h6, h7, h8] (.cons hh0 (.cons hh1 (.cons hh2 (.cons hh3 (.cons hh4 (.cons hh5 (.cons hh6 (.cons hh7 (.cons hh8 .nil))))))))) (Nat.le_of_ble_eq_true rfl)) (by exact rfl) (by kernel_rfl) (by exact rfl) (.v .nil) (pubs_cells _ _ (fun _ => rfl)) (by kernel_rfl) (by kernel_rfl) (.val _), by kernel_rfl⟩ <| zE (oBk false oNt (by exact congrArg (!·) hb0)) <| zZ) ?_
  refine pwp_cond (b := false) (by kernel_rfl) (fun h => by cases h) (fun _ => ?_)
  refine pwp_skip <| kx [(11, (vin 1))] [] (zE (oAd 1 (hr := by decide)) <| zM <| zZ) ?_
  refine pwp_again (SimImp.refl _) ?_
  refine pwp_seq <| kx [(12, (vb false))] [] (zE (oBk false oLt) <| zZ) ?_
  refine pwp_seq <| pwp_cond (b := false) (by kernel_rfl) (fun h => by cases h) (fun _ => ?_)
  refine pwp_exit <| pwp_seq <| pwp_seq <| kx [(19, (vl 44 6 encA43 [p, q, r, s])), (20, (vin 4)), (21, (vin 0))] [] (zM <| zE (oLn el65 4) <| zM <| zZ) ?_
  refine pwp_block <| pwp_rounds 20 ?_
  refine pwp_round <| pwp_seq <| kx [(22, (vb true))] [] (zE (oBk true oLt) <| zZ) ?_
  refine pwp_seq <| pwp_cond (b := true) (by kernel_rfl) (fun _ => ?_) (fun h => by cases h)
  refine pwp_skip <| pwp_seq <| pwp_block <| pwp_seq <| kx [(8, (.ref 1 0))] [(1, some (bx (encA43 p)))] (zE (oXs el65 0) <| zE (oCa sh44) <| zN (oAl 1 ze44 zo44) <| zT (oSt sh44) <| zZ) ?_
  refine pwp_seq <| kx [(27, (vb false))] [] (zE (e_slv (by exact rfl) ar44 (by exact rfl) (by kernel_rfl) (by kernel_rfl)) <| zR ⟨(bx (encA43 p)), e_clv (es := List.map encI [p.a0, p.a1, p.a2]) (l_short4 1000000 [p.a0, p.a1, p.a2] [p0, p1, p2] (.cons hp0 (.cons hp1 (.cons hp2 .nil))) (Nat.le_of_ble_eq_true rfl)) (by exact rfl) (by kernel_rfl) (by exact rfl) (.v .nil) (pubs_cells _ _ (fun _ => rfl)) (by kernel_rfl) (by kernel_rfl) (.val _), by kernel_rfl⟩ <| zE (oBk false oNt (by exact congrArg (!·) hb1)) <| zZ) ?_
  refine pwp_cond (b := false) (by kernel_rfl) (fun h => by cases h) (fun _ => ?_)
  refine pwp_skip <| kx [(21, (vin 1))] [] (zE (oAd 1 (hr := by decide)) <| zM <| zZ) ?_
  refine pwp_again (SimImp.refl _) ?_
  refine pwp_seq <| kx [(22, (vb true))] [] (zE (oBk true oLt) <| zZ) ?_
  refine pwp_seq <| pwp_cond (b := true) (by kernel_rfl) (fun _ => ?_) (fun h => by cases h)
  refine pwp_skip <| pwp_seq <| pwp_block <| pwp_seq <| kx [(8, (.ref 2 0))] [(2, some (bx (encA43 q)))] (zE (oXs el65 1) <| zE (oCa sh44) <| zN (oAl 2 ze44 zo44) <| zT (oSt sh44) <| zZ) ?_
  refine pwp_seq <| pwp_sim (wk (l := [(8, (.ref 2 0)), (19, (vl 44 6 encA43 [p, q, r, s])), (20, (vin 4)), (21, (vin 1))]) (b := [(2, some (bx (encA43 q)))])) ?_
  refine kx [(27, (vb true))] [] (zE (e_slv (by exact rfl) ar44 (by exact rfl) (by kernel_rfl) (by kernel_rfl)) <| zR ⟨(bx (encA43 q)), e_clv (es := List.map encI [q.a0, q.a1, q.a2]) (l_short4 1000000 [q.a0, q.a1, q.a2] [q0, q1, q2] (.cons hq0 (.cons hq1 (.cons hq2 .nil))) (Nat.le_of_ble_eq_true rfl)) (by exact rfl) (by kernel_rfl) (by exact rfl) (.v .nil) (pubs_cells _ _ (fun _ => rfl)) (by kernel_rfl) (by kernel_rfl) (.val _), by kernel_rfl⟩ <| zE (oBk true oNt (by exact congrArg (!·) hbx)) <| zZ) ?_
  refine pwp_cond (b := true) (by kernel_rfl) (fun _ => ?_) (fun h => by cases h)
  refine pwp_seq <| kx [(4, (vb false))] [] (zM <| zZ) ?_
  refine pwp_ret ⟨_, (.tmp (d := (.val (.bool (false)))) rfl .nil), ?_⟩
  rfl
theorem l_briefF14_3 (h : A9 RInt) (h0 h1 h2 h3 h4 h5 h6 h7 h8 : Int) (hh0 : IOk h.a0 h0 140737488355328) (hh1 : IOk h.a1 h1 140737488355328) (hh2 : IOk h.a2 h2 140737488355328) (hh3 : IOk h.a3 h3 140737488355328) (hh4 : IOk h.a4 h4 140737488355328) (hh5 : IOk h.a5 h5 140737488355328) (hh6 : IOk h.a6 h6 140737488355328) (hh7 : IOk h.a7 h7 140737488355328) (hh8 : IOk h.a8 h8 140737488355328) (p : A3 RInt) (p0 p1 p2 : Int) (hp0 : IOk p.a0 p0 140737488355328) (hp1 : IOk p.a1 p1 140737488355328) (hp2 : IOk p.a2 p2 140737488355328) (q : A3 RInt) (q0 q1 q2 : Int) (hq0 : IOk q.a0 q0 140737488355328) (hq1 : IOk q.a1 q1 140737488355328) (hq2 : IOk q.a2 q2 140737488355328) (r : A3 RInt) (r0 r1 r2 : Int) (hr0 : IOk r.a0 r0 140737488355328) (hr1 : IOk r.a1 r1 140737488355328) (hr2 : IOk r.a2 r2 140737488355328) (s : A3 RInt) (s0 s1 s2 : Int) (hs0 : IOk s.a0 s0 140737488355328) (hs1 : IOk s.a1 s1 140737488355328) (hs2 : IOk s.a2 s2 140737488355328) (hb0 : List.all [h.a0, h.a1, h.a2, h.a3, h.a4, h.a5, h.a6, h.a7, h.a8] short4 = true) (hb1 : List.all [p.a0, p.a1, p.a2] short4 = true) (hb2 : List.all [q.a0, q.a1, q.a2] short4 = true) (hbx : List.all [r.a0, r.a1, r.a2] short4 = false) : Takes Tryz.prog 19 [(.sl 32 18 (List.map encA31 [h])), (.sl 44 6 (List.map encA43 [p, q, r, s]))] (.val (.bool (false))) := by
  refine fn_intro Tryz.func19 rfl cb19 rfl ?_
  show PWp _ _ _ _ ⟨[(0, (vl 32 18 encA31 [h])), (1, (vl 44 6 encA43 [p, q, r, s]))], []⟩
  refine pwp_seq <| kx [] [] (zM <| zZ) ?_
  refine pwp_seq <| pwp_seq <| kx [(9, (vl 32 18 encA31 [h])), (10, (vin 1)), (11, (vin 0))] [] (zM <| zE (oLn el49 1) <| zM <| zZ) ?_
  refine pwp_block <| pwp_rounds 20 ?_
  refine pwp_round <| pwp_seq <| kx [(12, (vb true))] [] (zE (oBk true oLt) <| zZ) ?_
  refine pwp_seq <| pwp_cond (b := true) (by kernel_rfl) (fun _ => ?_) (fun h => by cases h)
  refine pwp_skip <| pwp_seq <| pwp_block <| pwp_seq <| kx [(6, (.ref 0 0))] [(0, some (bx (encA31 h)))] (zE (oXs el49 0) <| zE (oCa sh32) <| zN (oAl 0 ze32 zo32) <| zT (oSt sh32) <| zZ) ?_
  refine pwp_seq <| kx [(17, (vb false))] [] (zE (e_slv (by exact rfl) ar32 (by exact rfl) (by kernel_rfl) (by kernel_rfl)) <| zR ⟨(bx (encA31 h)), e_clv (es := List.map encI [h.a0, h.a1, h.a2, h.a3, h.a4, h.a5, h.a6, h.a7, h.a8]) (l_short4 1000000 [h.a0, h.a1, h.a2, h.a3, h.a4, h.a5, h.a6, h.a7, h.a8] [h0, h1, h2, h3, h4, h5, h6, h7, h8] (.cons hh0 (.cons hh1 (.cons hh2 (.cons hh3 (.cons hh4 (.cons hh5 (.cons hh6 (.cons hh7 (.cons hh8 .nil))))))))) (Nat.le_of_ble_eq_true rfl)) (by exact rfl) (by kernel_rfl) (by exact rfl) (.v .nil) (pubs_cells _ _ (fun _ => rfl)) (by kernel_rfl) (by kernel_rfl) (.val _), by kernel_rfl⟩ <| zE (oBk false oNt (by exact congrArg (!·) hb0)) <| zZ) ?_
  refine pwp_cond (b := false) (by kernel_rfl) (fun h => by cases h) (fun _ => ?_)
  refine pwp_skip <| kx [(11, (vin 1))] [] (zE (oAd 1 (hr := by decide)) <| zM <| zZ) ?_
  refine pwp_again (SimImp.refl _) ?_
  refine pwp_seq <| kx [(12, (vb false))] [] (zE (oBk false oLt) <| zZ) ?_
  refine pwp_seq <| pwp_cond (b := false) (by kernel_rfl) (fun h => by cases h) (fun _ => ?_)
  refine pwp_exit <| pwp_seq <| pwp_seq <| kx [(19, (vl 44 6 encA43 [p, q, r, s])), (20, (vin 4)), (21, (vin 0))] [] (zM <| zE (oLn el65 4) <| zM <| zZ) ?_
  refine pwp_block <| pwp_rounds 20 ?_
  refine pwp_round <| pwp_seq <| kx [(22, (vb true))] [] (zE (oBk true oLt) <| zZ) ?_
  refine pwp_seq <| pwp_cond (b := true) (by kernel_rfl) (fun _ => ?_) (fun h => by cases h)
  refine pwp_skip <| pwp_seq <| pwp_block <| pwp_seq <| kx [(8, (.ref 1 0))] [(1, some (bx (encA43 p)))] (zE (oXs el65 0) <| zE (oCa sh44) <| zN (oAl 1 ze44 zo44) <| zT (oSt sh44) <| zZ) ?_
  refine pwp_seq <| kx [(27, (vb false))] [] (zE (e_slv (by exact rfl) ar44 (by exact rfl) (by kernel_rfl) (by kernel_rfl)) <| zR ⟨(bx (encA43 p)), e_clv (es := List.map encI [p.a0, p.a1, p.a2]) (l_short4 1000000 [p.a0, p.a1, p.a2] [p0, p1, p2] (.cons hp0 (.cons hp1 (.cons hp2 .nil))) (Nat.le_of_ble_eq_true rfl)) (by exact rfl) (by kernel_rfl) (by exact rfl) (.v .nil) (pubs_cells _ _ (fun _ => rfl)) (by kernel_rfl) (by kernel_rfl) (.val _), by kernel_rfl⟩ <| zE (oBk false oNt (by exact congrArg (!·) hb1)) <| zZ) ?_
  refine pwp_cond (b := false) (by kernel_rfl) (fun h => by cases h) (fun _ => ?_)
  refine pwp_skip <| kx [(21, (vin 1))] [] (zE (oAd 1 (hr := by decide)) <| zM <| zZ) ?_
  refine pwp_again (SimImp.refl _) ?_
  refine pwp_seq <| kx [(22, (vb true))] [] (zE (oBk true oLt) <| zZ) ?_
  refine pwp_seq <| pwp_cond (b := true) (by kernel_rfl) (fun _ => ?_) (fun h => by cases h)
  refine pwp_skip <| pwp_seq <| pwp_block <| pwp_seq <| kx [(8, (.ref 2 0))] [(2, some (bx (encA43 q)))] (zE (oXs el65 1) <| zE (oCa sh44) <| zN (oAl 2 ze44 zo44) <| zT (oSt sh44) <| zZ) ?_
  refine pwp_seq <| pwp_sim (wk (l := [(8, (.ref 2 0)), (19, (vl 44 6 encA43 [p, q, r, s])), (20, (vin 4)), (21, (vin 1))]) (b := [(2, some (bx (encA43 q)))])) ?_
  refine kx [(27, (vb false))] [] (zE (e_slv (by exact rfl) ar44 (by exact rfl) (by kernel_rfl) (by kernel_rfl)) <| zR ⟨(bx (encA43 q)), e_clv (es := List.map encI [q.a0, q.a1, q.a2]) (l_short4 1000000 [q.a0, q.a1, q.a2] [q0, q1, q2] (.cons hq0 (.cons hq1 (.cons hq2 .nil))) (Nat.le_of_ble_eq_true rfl)) (by exact rfl) (by kernel_rfl) (by exact rfl) (.v .nil) (pubs_cells _ _ (fun _ => rfl)) (by kernel_rfl) (by kernel_rfl) (.val _), by kernel_rfl⟩ <| zE (oBk false oNt (by exact congrArg (!·) hb2)) <| zZ) ?_
  refine pwp_cond (b := false) (by kernel_rfl) (fun h => by cases h) (fun _ => ?_)
  refine pwp_skip <| kx [(21, (vin 2))] [] (zE (oAd 2 (hr := by decide)) <| zM <| zZ) ?_
  refine pwp_again (SimImp.refl _) ?_
  refine pwp_seq <| kx [(22, (vb true))] [] (zE (oBk true oLt) <| zZ) ?_
  refine pwp_seq <| pwp_cond (b := true) (by kernel_rfl) (fun _ => ?_) (fun h => by cases h)
  refine pwp_skip <| pwp_seq <| pwp_block <| pwp_seq <| kx [(8, (.ref 3 0))] [(3, some (bx (encA43 r)))] (zE (oXs el65 2) <| zE (oCa sh44) <| zN (oAl 3 ze44 zo44) <| zT (oSt sh44) <| zZ) ?_
  refine pwp_seq <| kx [(27, (vb true))] [] (zE (e_slv (by exact rfl) ar44 (by exact rfl) (by kernel_rfl) (by kernel_rfl)) <| zR ⟨(bx (encA43 r)), e_clv (es := List.map encI [r.a0, r.a1, r.a2]) (l_short4 1000000 [r.a0, r.a1, r.a2] [r0, r1, r2] (.cons hr0 (.cons hr1 (.cons hr2 .nil))) (Nat.le_of_ble_eq_true rfl)) (by exact rfl) (by kernel_rfl) (by exact rfl) (.v .nil) (pubs_cells _ _ (fun _ => rfl)) (by kernel_rfl) (by kernel_rfl) (.val _), by kernel_rfl⟩ <| zE (oBk true oNt (by exact congrArg (!·) hbx)) <| zZ) ?_
  refine pwp_cond (b := true) (by kernel_rfl) (fun _ => ?_) (fun h => by cases h)
  refine pwp_seq <| kx [(4, (vb false))] [] (zM <| zZ) ?_
  refine pwp_ret ⟨_, (.tmp (d := (.val (.bool (false)))) rfl .nil), ?_⟩
  rfl
theorem l_briefF14_4 (h : A9 RInt) (h0 h1 h2 h3 h4 h5 h6 h7 h8 : Int) (hh0 : IOk h.a0 h0 140737488355328) (hh1 : IOk h.a1 h1 140737488355328) (hh2 : IOk h.a2 h2 140737488355328) (hh3 : IOk h.a3 h3 140737488355328) (hh4 : IOk h.a4 h4 140737488355328) (hh5 : IOk h.a5 h5 140737488355328) (hh6 : IOk h.a6 h6 140737488355328) (hh7 : IOk h.a7 h7 140737488355328) (hh8 : IOk h.a8 h8 140737488355328) (p : A3 RInt) (p0 p1 p2 : Int) (hp0 : IOk p.a0 p0 140737488355328) (hp1 : IOk p.a1 p1 140737488355328) (hp2 : IOk p.a2 p2 140737488355328) (q : A3 RInt) (q0 q1 q2 : Int) (hq0 : IOk q.a0 q0 140737488355328) (hq1 : IOk q.a1 q1 140737488355328) (hq2 : IOk q.a2 q2 140737488355328) (r : A3 RInt) (r0 r1 r2 : Int) (hr0 : IOk r.a0 r0 140737488355328) (hr1 : IOk r.a1 r1 140737488355328) (hr2 : IOk r.a2 r2 140737488355328) (s : A3 RInt) (s0 s1 s2 : Int) (hs0 : IOk s.a0 s0 140737488355328) (hs1 : IOk s.a1 s1 140737488355328) (hs2 : IOk s.a2 s2 140737488355328) (hb0 : List.all [h.a0, h.a1, h.a2, h.a3, h.a4, h.a5, h.a6, h.a7, h.a8] short4 = true) (hb1 : List.all [p.a0, p.a1, p.a2] short4 = true) (hb2 : List.all [q.a0, q.a1, q.a2] short4 = true) (hb3 : List.all [r.a0, r.a1, r.a2] short4 = true) (hbx : List.all [s.a0, s.a1, s.a2] short4 = false) : Takes Tryz.prog 19 [(.sl 32 18 (List.map encA31 [h])), (.sl 44 6 (List.map encA43 [p, q, r, s]))] (.val (.bool (false))) := by
  refine fn_intro Tryz.func19 rfl cb19 rfl ?_
  show PWp _ _ _ _ ⟨[(0, (vl 32 18 encA31 [h])), (1, (vl 44 6 encA43 [p, q, r, s]))], []⟩
  refine pwp_seq <| kx [] [] (zM <| zZ) ?_
  refine pwp_seq <| pwp_seq <| kx [(9, (vl 32 18 encA31 [h])), (10, (vin 1)), (11, (vin 0))] [] (zM <| zE (oLn el49 1) <| zM <| zZ) ?_
  refine pwp_block <| pwp_rounds 20 ?_
  refine pwp_round <| pwp_seq <| kx [(12, (vb true))] [] (zE (oBk true oLt) <| zZ) ?_
  refine pwp_seq <| pwp_cond (b := true) (by kernel_rfl) (fun _ => ?_) (fun h => by cases h)
  refine pwp_skip <| pwp_seq <| pwp_block <| pwp_seq <| kx [(6, (.ref 0 0))] [(0, some (bx (encA31 h)))] (zE (oXs el49 0) <| zE (oCa sh32) <| zN (oAl 0 ze32 zo32) <| zT (oSt sh32) <| zZ) ?_
  refine pwp_seq <| kx [(17, (vb false))] [] (zE (e_slv (by exact rfl) ar32 (by exact rfl) (by kernel_rfl) (by kernel_rfl)) <| zR ⟨(bx (encA31 h)), e_clv (es := List.map encI [h.a0, h.a1, h.a2, h.a3, h.a4, h.a5, h.a6, h.a7, h.a8]) (l_short4 1000000 [h.a0, h.a1, h.a2, h.a3, h.a4, h.a5, h.a6, h.a7, h.a8] [h0, h1, h2, h3, h4, h5, h6, h7, h8] (.cons hh0 (.cons hh1 (.cons hh2 (.cons hh3 (.cons hh4 (.cons hh5 (.cons hh6 (.cons hh7 (.cons hh8 .nil))))))))) (Nat.le_of_ble_eq_true rfl)) (by exact rfl) (by kernel_rfl) (by exact rfl) (.v .nil) (pubs_cells _ _ (fun _ => rfl)) (by kernel_rfl) (by kernel_rfl) (.val _), by kernel_rfl⟩ <| zE (oBk false oNt (by exact congrArg (!·) hb0)) <| zZ) ?_
  refine pwp_cond (b := false) (by kernel_rfl) (fun h => by cases h) (fun _ => ?_)
  refine pwp_skip <| kx [(11, (vin 1))] [] (zE (oAd 1 (hr := by decide)) <| zM <| zZ) ?_
  refine pwp_again (SimImp.refl _) ?_
  refine pwp_seq <| kx [(12, (vb false))] [] (zE (oBk false oLt) <| zZ) ?_
  refine pwp_seq <| pwp_cond (b := false) (by kernel_rfl) (fun h => by cases h) (fun _ => ?_)
  refine pwp_exit <| pwp_seq <| pwp_seq <| kx [(19, (vl 44 6 encA43 [p, q, r, s])), (20, (vin 4)), (21, (vin 0))] [] (zM <| zE (oLn el65 4) <| zM <| zZ) ?_
  refine pwp_block <| pwp_rounds 20 ?_
  refine pwp_round <| pwp_seq <| kx [(22, (vb true))] [] (zE (oBk true oLt) <| zZ) ?_
  refine pwp_seq <| pwp_cond (b := true) (by kernel_rfl) (fun _ => ?_) (fun h => by cases h)
  refine pwp_skip <| pwp_seq <| pwp_block <| pwp_seq <| kx [(8, (.ref 1 0))] [(1, some (bx (encA43 p)))] (zE (oXs el65 0) <| zE (oCa sh44) <| zN (oAl 1 ze44 zo44) <| zT (oSt sh44) <| zZ) ?_
  refine pwp_seq <| kx [(27, (vb false))] [] (zE (e_slv (by exact rfl) ar44 (by exact rfl) (by kernel_rfl) (by kernel_rfl)) <| zR ⟨(bx (encA43 p)), e_clv (es := List.map encI [p.a0, p.a1, p.a2]) (l_short4 1000000 [p.a0, p.a1, p.a2] [p0, p1, p2] (.cons hp0 (.cons hp1 (.cons hp2 .nil))) (Nat.le_of_ble_eq_true rfl)) (by exact rfl) (by kernel_rfl) (by exact rfl) (.v .nil) (pubs_cells _ _ (fun _ => rfl)) (by kernel_rfl) (by kernel_rfl) (.val _), by kernel_rfl⟩ <| zE (oBk false oNt (by exact congrArg (!·) hb1)) <| zZ) ?_
  refine pwp_cond (b := false) (by kernel_rfl) (fun h => by cases h) (fun _ => ?_)
  refine pwp_skip <| kx [(21, (vin 1))] [] (zE (oAd 1 (hr := by decide)) <| zM <| zZ) ?_
  refine pwp_again (SimImp.refl _) ?_
  refine pwp_seq <| kx [(22, (vb true))] [] (zE (oBk true oLt) <| zZ) ?_
  refine pwp_seq <| pwp_cond (b := true) (by kernel_rfl) (fun _ => ?_) (fun h => by cases h)
  refine pwp_skip <| pwp_seq <| pwp_block <| pwp_seq <| kx [(8, (.ref 2 0))] [(2, some (bx (encA43 q)))] (zE (oXs el65 1) <| zE (oCa sh44) <| zN (oAl 2 ze44 zo44) <| zT (oSt sh44) <| zZ) ?_
  refine pwp_seq <| pwp_sim (wk (l := [(8, (.ref 2 0)), (19, (vl 44 6 encA43 [p, q, r, s])), (20, (vin 4)), (21, (vin 1))]) (b := [(2, some (bx (encA43 q)))])) ?_
  refine kx [(27, (vb false))] [] (zE (e_slv (by exact rfl) ar44 (by exact rfl) (by kernel_rfl) (by kernel_rfl)) <| zR ⟨(bx (encA43 q)), e_clv (es := List.map encI [q.a0, q.a1, q.a2]) (l_short4 1000000 [q.a0, q.a1, q.a2] [q0, q1, q2] (.cons hq0 (.cons hq1 (.cons hq2 .nil))) (Nat.le_of_ble_eq_true rfl)) (by exact rfl) (by kernel_rfl) (by exact rfl) (.v .nil) (pubs_cells _ _ (fun _ => rfl)) (by kernel_rfl) (by kernel_rfl) (.val _), by kernel_rfl⟩ <| zE (oBk false oNt (by exact congrArg (!·) hb2)) <| zZ) ?_
  refine pwp_cond (b := false) (by kernel_rfl) (fun h => by cases h) (fun _ => ?_)
  refine pwp_skip <| kx [(21, (vin 2))] [] (zE (oAd 2 (hr := by decide)) <| zM <| zZ) ?_
  refine pwp_again (SimImp.refl _) ?_
  refine pwp_seq <| kx [(22, (vb true))] [] (zE (oBk true oLt) <| zZ) ?_
  refine pwp_seq <| pwp_cond (b := true) (by kernel_rfl) (fun _ => ?_) (fun h => by cases h)
  refine pwp_skip <| pwp_seq <| pwp_block <| pwp_seq <| kx [(8, (.ref 3 0))] [(3, some (bx (encA43 r)))] (zE (oXs el65 2) <| zE (oCa sh44) <| zN (oAl 3 ze44 zo44) <| zT (oSt sh44) <| zZ) ?_
  refine pwp_seq <| kx [(27, (vb false))] [] (zE (e_slv (by exact rfl) ar44 (by exact rfl) (by kernel_rfl) (by kernel_rfl)) <| zR ⟨(bx (encA43 r)), e_clv (es := List.map encI [r.a0, r.a1, r.a2]) (l_short4 1000000 [r.a0, r.a1, r.a2] [r0, r1, r2] (.cons hr0 (.cons hr1 (.cons hr2 .nil))) (Nat.le_of_ble_eq_true rfl)) (by exact rfl) (by kernel_rfl) (by exact rfl) (.v .nil) (pubs_cells _ _ (fun _ => rfl)) (by kernel_rfl) (by kernel_rfl) (.val _), by kernel_rfl⟩ <| zE (oBk false oNt (by exact congrArg (!·) hb3)) <| zZ) ?_
  refine pwp_cond (b := false) (by kernel_rfl) (fun h => by cases h) (fun _ => ?_)
  refine pwp_skip <| kx [(21, (vin 3))] [] (zE (oAd 3 (hr := by decide)) <| zM <| zZ) ?_
  refine pwp_again (SimImp.refl _) ?_
  refine pwp_seq <| kx [(22, (vb true))] [] (zE (oBk true oLt) <| zZ) ?_
  refine pwp_seq <| pwp_cond (b := true) (by kernel_rfl) (fun _ => ?_) (fun h => by cases h)
  refine pwp_skip <| pwp_seq <| pwp_block <| pwp_seq <| kx [(8, (.ref 4 0))] [(4, some (bx (encA43 s)))] (zE (oXs el65 3) <| zE (oCa sh44) <| zN (oAl 4 ze44 zo44) <| zT (oSt sh44) <| zZ) ?_
  refine pwp_seq <| kx [(27, (vb true))] [] (zE (e_slv (by exact rfl) ar44 (by exact rfl) (by kernel_rfl) (by kernel_rfl)) <| zR ⟨(bx (encA43 s)), e_clv (es := List.map encI [s.a0, s.a1, s.a2]) (l_short4 1000000 [s.a0, s.a1, s.a2] [s0, s1, s2] (.cons hs0 (.cons hs1 (.cons hs2 .nil))) (Nat.le_of_ble_eq_true rfl)) (by exact rfl) (by kernel_rfl) (by exact rfl) (.v .nil) (pubs_cells _ _ (fun _ => rfl)) (by kernel_rfl) (by kernel_rfl) (.val _), by kernel_rfl⟩ <| zE (oBk true oNt (by exact congrArg (!·) hbx)) <| zZ) ?_
  refine pwp_cond (b := true) (by kernel_rfl) (fun _ => ?_) (fun h => by cases h)
  refine pwp_seq <| kx [(4, (vb false))] [] (zM <| zZ) ?_
  refine pwp_ret ⟨_, (.tmp (d := (.val (.bool (false)))) rfl .nil), ?_⟩
  rfl
end Go.Proofs.YtadkkhdnccljcaaGreat
namespace Go.Proofs.YtadkkhdnccljcaaGreat
open Go.Fid
set_option maxRecDepth 4000
set_option linter.unusedVariables false
set_option linter.unusedSimpArgs false
end Go.Proofs.YtadkkhdnccljcaaGreat
set_option linter.unusedVariables false
set_option linter.unusedSimpArgs false
namespace Go.Fid
theorem sgnL_zero {zs : List Int} : sgnL zs = 0 ↔ ∀ z ∈ zs, z = 0 := by
  constructor
  · intro h z hz
    rcases Int.decEq z 0 with h0 | h0
    · exact absurd h (sgnL_of hz h0)
    · exact h0
  · intro h
    rcases Int.decEq (sgnL zs) 0 with h0 | h0
    · obtain ⟨z, hz, h1⟩ := sgnL_ne h0
      exact absurd (h z hz) h1
    · exact h0
theorem sgn3_zero {a b c : Int} : sgnL [a, b, c] = 0 ↔ a = 0 ∧ b = 0 ∧ c = 0 := by rw [sgnL_zero]; simp
theorem valH_det {l : List RInt} {d : Int} (h : valH l d = true) : d ≠ 0 := fun e => by
  unfold valH at h; rw [e] at h; simp [signI_zero] at h
theorem redB_nz {l : List RInt} (h : redB l = true) : sgnL (l.map toZ) ≠ 0 := by
  unfold redB at h
  rw [Bool.and_eq_true, Bool.and_eq_true, decide_eq_true_eq] at h
  exact h.2.1
theorem redB_one {l : List RInt} (h : redB l = true) : dvL (l.map toZ) = 1 := by
  unfold redB at h
  rw [Bool.and_eq_true, Bool.and_eq_true, decide_eq_true_eq, decide_eq_true_eq] at h
  exact h.2.2
theorem redB_val {l : List RInt} (h : redB l = true) : List.all l validI = true := by
  unfold redB at h
  rw [Bool.and_eq_true] at h
  exact h.1
theorem mul_zero_of {d z : Int} (hd : d ≠ 0) (h : d * z = 0) : z = 0 := by
  rcases Int.mul_eq_zero.1 h with h | h
  · exact absurd h hd
  · exact h
theorem app_nz {h0 h1 h2 h3 h4 h5 h6 h7 h8 p0 p1 p2 : Int} (hd : det3 h0 h1 h2 h3 h4 h5 h6 h7 h8 ≠ 0) (hp : sgnL [p0, p1, p2] ≠ 0) :
    sgnL [h0 * p0 + h1 * p1 + h2 * p2, h3 * p0 + h4 * p1 + h5 * p2, h6 * p0 + h7 * p1 + h8 * p2] ≠ 0 := fun e => by
  obtain ⟨e0, e1, e2⟩ := sgn3_zero.1 e
  refine hp (sgn3_zero.2 ⟨mul_zero_of hd ?_, mul_zero_of hd ?_, mul_zero_of hd ?_⟩)
  · have : det3 h0 h1 h2 h3 h4 h5 h6 h7 h8 * p0 = (h4 * h8 - h5 * h7) * (h0 * p0 + h1 * p1 + h2 * p2) + (h2 * h7 - h1 * h8) * (h3 * p0 + h4 * p1 + h5 * p2) + (h1 * h5 - h2 * h4) * (h6 * p0 + h7 * p1 + h8 * p2) := by unfold det3; grind
    rw [this, e0, e1, e2]; simp
  · have : det3 h0 h1 h2 h3 h4 h5 h6 h7 h8 * p1 = (h5 * h6 - h3 * h8) * (h0 * p0 + h1 * p1 + h2 * p2) + (h0 * h8 - h2 * h6) * (h3 * p0 + h4 * p1 + h5 * p2) + (h2 * h3 - h0 * h5) * (h6 * p0 + h7 * p1 + h8 * p2) := by unfold det3; grind
    rw [this, e0, e1, e2]; simp
  · have : det3 h0 h1 h2 h3 h4 h5 h6 h7 h8 * p2 = (h3 * h7 - h4 * h6) * (h0 * p0 + h1 * p1 + h2 * p2) + (h1 * h6 - h0 * h7) * (h3 * p0 + h4 * p1 + h5 * p2) + (h0 * h4 - h1 * h3) * (h6 * p0 + h7 * p1 + h8 * p2) := by unfold det3; grind
    rw [this, e0, e1, e2]; simp
theorem cof_det (h0 h1 h2 h3 h4 h5 h6 h7 h8 : Int) : det3 (h4 * h8 - h5 * h7) (h5 * h6 - h3 * h8) (h3 * h7 - h4 * h6) (h7 * h2 - h8 * h1) (h8 * h0 - h6 * h2) (h6 * h1 - h7 * h0) (h1 * h5 - h2 * h4) (h2 * h3 - h0 * h5) (h0 * h4 - h1 * h3)
    = det3 h0 h1 h2 h3 h4 h5 h6 h7 h8 * det3 h0 h1 h2 h3 h4 h5 h6 h7 h8 := by unfold det3; grind
theorem cof_ne {h0 h1 h2 h3 h4 h5 h6 h7 h8 : Int} (hd : det3 h0 h1 h2 h3 h4 h5 h6 h7 h8 ≠ 0) : det3 (h4 * h8 - h5 * h7) (h5 * h6 - h3 * h8) (h3 * h7 - h4 * h6) (h7 * h2 - h8 * h1) (h8 * h0 - h6 * h2) (h6 * h1 - h7 * h0) (h1 * h5 - h2 * h4) (h2 * h3 - h0 * h5) (h0 * h4 - h1 * h3) ≠ 0 := by
  rw [cof_det]; exact Int.mul_ne_zero hd hd
theorem short4_len {x : RInt} (h : short4 x = true) : x.gs.length ≤ 4 := of_decide_eq_true h
theorem iok_short {x : RInt} (h : short4 x = true) : IOk x (toZ x) 4 := iok_raw (short4_len h)
theorem prop_red {P Q : List Int} {k m : Int} (hk : k ≠ 0) (hm : m ≠ 0) (h : P.map (m * ·) = Q.map (k * ·)) (hP : sgnL P ≠ 0) (hQ : sgnL Q ≠ 0) : redL P = redL Q := by
  rw [← redL_scale hm hP, h, redL_scale hk hQ]
theorem cross_same {p0 p1 p2 q0 q1 q2 : Int} (hP : sgnL [p0, p1, p2] ≠ 0) (hQ : sgnL [q0, q1, q2] ≠ 0) (dP : dvL [p0, p1, p2] = 1) (dQ : dvL [q0, q1, q2] = 1)
    (h : sgnL [p1 * q2 - p2 * q1, p2 * q0 - p0 * q2, p0 * q1 - p1 * q0] = 0) : p0 = q0 ∧ p1 = q1 ∧ p2 = q2 := by
  obtain ⟨e0, e1, e2⟩ := sgn3_zero.1 h
  have key : ∀ k m : Int, k ≠ 0 → (m = 0 → q0 = 0 ∧ q1 = 0 ∧ q2 = 0) → m * p0 = k * q0 → m * p1 = k * q1 → m * p2 = k * q2 → p0 = q0 ∧ p1 = q1 ∧ p2 = q2 := by
    intro k m hk hm a b c
    have hm0 : m ≠ 0 := fun e => hQ (sgn3_zero.2 (hm e))
    have hr := prop_red (P := [p0, p1, p2]) (Q := [q0, q1, q2]) hk hm0 (by simp [a, b, c]) hP hQ
    rw [redL_one dP, redL_one dQ] at hr
    simpa using hr
  by_cases h0 : p0 = 0
  · by_cases h1 : p1 = 0
    · have h2 : p2 ≠ 0 := fun h2 => hP (sgn3_zero.2 ⟨h0, h1, h2⟩)
      refine key p2 q2 h2 (fun e => ⟨?_, ?_, e⟩) (by grind) (by grind) (by grind)
      · exact mul_zero_of h2 (by grind)
      · exact mul_zero_of h2 (by grind)
    · refine key p1 q1 h1 (fun e => ⟨?_, e, ?_⟩) (by grind) (by grind) (by grind)
      · exact mul_zero_of h1 (by grind)
      · exact mul_zero_of h1 (by grind)
  · refine key p0 q0 h0 (fun e => ⟨e, ?_, ?_⟩) (by grind) (by grind) (by grind)
    · exact mul_zero_of h0 (by grind)
    · exact mul_zero_of h0 (by grind)
theorem red3_back {z0 z1 z2 c0 c1 c2 : Int} (hnz : sgnL [z0, z1, z2] ≠ 0) (hc : redL [z0, z1, z2] = [c0, c1, c2]) : ∃ d : Int, d ≠ 0 ∧ z0 = d * c0 ∧ z1 = d * c1 ∧ z2 = d * c2 ∧ sgnL [c0, c1, c2] ≠ 0 ∧ dvL [c0, c1, c2] = 1 := by
  refine ⟨dvL [z0, z1, z2], dvL_ne hnz, ?_⟩
  have h1 := redL_back hnz
  rw [hc] at h1
  simp only [List.map_cons, List.map_nil, List.cons.injEq, and_true] at h1
  exact ⟨h1.1.symm, h1.2.1.symm, h1.2.2.symm, hc ▸ redL_ne hnz, hc ▸ dvL_red hnz⟩
theorem red3_redB {c0 c1 c2 : Int} (h : sgnL [c0, c1, c2] ≠ 0) (hd : dvL [c0, c1, c2] = 1) : redB [ofZ c0, ofZ c1, ofZ c2] = true := redB_closed [c0, c1, c2] ⟨h, hd⟩
theorem iok_ex {x : RInt} (h : short4 x = true) : ∃ z, toZ x = z ∧ IOk x z 4 := ⟨_, rfl, iok_short h⟩
theorem redB3 {x0 x1 x2 : RInt} {p0 p1 p2 : Int} (e0 : toZ x0 = p0) (e1 : toZ x1 = p1) (e2 : toZ x2 = p2) (h : redB [x0, x1, x2] = true) : sgnL [p0, p1, p2] ≠ 0 ∧ dvL [p0, p1, p2] = 1 ∧ (x0 = ofZ p0 ∧ x1 = ofZ p1 ∧ x2 = ofZ p2) ∧ validI x0 = true ∧ validI x1 = true ∧ validI x2 = true := by
  have h1 := redB_nz h
  have h2 := redB_one h
  have h3 := redB_val h
  simp only [List.map_cons, List.map_nil, e0, e1, e2] at h1 h2
  simp only [List.all_cons, List.all_nil, Bool.and_true, Bool.and_eq_true] at h3
  exact ⟨h1, h2, ⟨by rw [← e0, ofZ_toZ h3.1], by rw [← e1, ofZ_toZ h3.2.1], by rw [← e2, ofZ_toZ h3.2.2]⟩, h3⟩
end Go.Fid
set_option linter.unusedVariables false
set_option linter.unusedSimpArgs false
namespace Go.Fid
end Go.Fid
set_option linter.unusedVariables false
set_option linter.unusedSimpArgs false
namespace Go.Fid
theorem den_pos (u : Rat) : ((u.den : Nat) : Int) ≠ 0 := by have := u.den_pos; omega
theorem divInt_scale {d a b : Int} (hd : d ≠ 0) (hb : b ≠ 0) : Rat.divInt (d * a) (d * b) = Rat.divInt a b := Rat.divInt_mul_left hd
end Go.Fid
namespace Go.Proofs.YtadkkhdnccljcaaGreat
open Go.Fid
set_option maxRecDepth 4000
set_option linter.unusedVariables false
set_option linter.unusedSimpArgs false
theorem cb33 : callB Tryz.prog 33 = true := by kernel_rfl
theorem cb91 : callB Tryz.prog 91 = true := by kernel_rfl
theorem cb130 : callB Tryz.prog 130 = true := by kernel_rfl
theorem f_counted (x : RInt) (a : Int) (hx : IOk x a 68719476736) : Takes Tryz.prog 130 [(encI x)] (encI (ofZ a)) := by
  refine fn_intro Tryz.func130 rfl cb130 rfl ?_
  show PWp _ _ _ _ ⟨[(0, (.d (encI x)))], []⟩
  refine pwp_seq <| kx [(1, (.ref 0 0)), (2, (.ref 1 0))] [(0, some (bx (encI x))), (1, some (bx (encI (RInt.mk false []))))] (zN (oBx 0) <| zN (oAl 1 ze30 zo30) <| zZ) ?_
  refine pwp_seq <| pwp_seq <| kx [(4, (vb (validI x)))] [] (zR (oLa sh30) <| zE (oCl (t_valid x (Nat.le_trans hx.l (by decide)))) <| zZ) ?_
  refine pwp_cond (b := (validI x)) rfl (fun h1 => ?_) (fun h1 => ?_)
  · refine pwp_seq <| kx [] [(1, some (bx (encI x)))] (zR (oLa sh30) <| zT (oSt sh30) <| zZ) ?_
    refine pwp_ret ⟨_, (res_a (cs := (bx (encI x))) (d := (encI x)) rfl rfl sh30 rfl rfl .nil), ?_⟩
    rw [← hx.v, ofZ_toZ h1]; rfl
  · refine pwp_skip <| pwp_seq <| kx [] [(1, some (bx (encI (ofZ 0))))] (zE (oCl (t_of 0 (by decide) (by decide))) <| zT (oSt sh30) <| zZ) ?_
    refine pwp_ret ⟨_, (res_a (cs := (bx (encI (ofZ 0)))) (d := (encI (ofZ 0))) rfl rfl sh30 rfl rfl .nil), ?_⟩
    rw [← hx.v, toZ_bad h1, ofZ_zero]; rfl
theorem f_newO (num : RInt) (a : Int) (hnum : IOk num a 68719476736) (den : RInt) (b : Int) (hden : IOk den b 68719476736) (hb : b ≠ 0) : Takes Tryz.prog 91 [(encI num), (encI den)] (.tup [(encR (ofQ (Rat.divInt a b))), (.val (.int .i64 (0)))]) := by
  refine fn_intro Tryz.func91 rfl cb91 rfl ?_
  show PWp _ _ _ _ ⟨[(0, (.d (encI num))), (1, (.d (encI den)))], []⟩
  refine pwp_seq <| kx [(2, (.ref 0 0)), (3, (.ref 1 0)), (4, (.ref 2 0))] [(0, some (bx (encI num))), (1, some (bx (encI den))), (2, some (bx (encR (RRat.mk (RInt.mk false []) (RInt.mk false [])))))] (zN (oBx 0) <| zN (oBx 1) <| zN (oAl 2 ze67 zo67) <| zM <| zZ) ?_
  refine pwp_seq <| kd [] [(0, some (bx (encI (ofZ a)))), (1, some (bx (encI (ofZ b))))] mo (wR (oLa sh30) <| wE (oCl (f_counted num a hnum)) <| wR (oLa sh30) <| wE (oCl (f_counted den b hden)) <| wT (oSt sh30) <| wT (oSt sh30) <| wZ) ?_
  refine pwp_seq <| pwp_seq <| kx [(12, (vb false))] [] (zR (oLa sh30) <| zE (oCl (s_sign (iok_of (IOk.ln hden)) (by decide))) <| zE (oBk false oEq (by exact beq_eq_false_iff_ne.2 (signI_ne hb))) <| zZ) ?_
  refine pwp_cond (b := false) (by kernel_rfl) (fun h => by cases h) (fun _ => ?_)
  refine pwp_skip <| pwp_seq <| kx [(5, (vin 0))] [(2, some (bx (encR (ofQ (Rat.divInt a b)))))] (zR (oLa sh30) <| zR (oLa sh30) <| zE (oCl (f_reduced (ofZ a) (ofZ b) a b (iok_of (IOk.ln hnum)) (iok_of (IOk.ln hden)) (by assumption))) <| zT (oSt sh67) <| zM <| zZ) ?_
  refine pwp_ret ⟨_, (res_a (cs := (bx (encR (ofQ (Rat.divInt a b))))) (d := (encR (ofQ (Rat.divInt a b)))) rfl rfl sh67 rfl rfl (.tmp (d := (.val (.int .i64 (0)))) rfl .nil)), ?_⟩
  rfl
theorem g_newO (num : RInt) (a : Int) (hnum : IOk num a 68719476736) (den : RInt) (b : Int) (hden : IOk den b 68719476736) (hb : b ≠ 0) : Takes Tryz.prog 93 [(encI num), (encI den)] (.tup [(encR (ofQ (Rat.divInt a b))), (.val (.int .i64 (0)))]) := by
  refine fn_intro Tryz.func93 rfl cb93 rfl ?_
  show PWp _ _ _ _ ⟨[(0, (.d (encI num))), (1, (.d (encI den)))], []⟩
  refine pwp_seq <| kx [(2, (.ref 0 0)), (3, (.ref 1 0)), (4, (.ref 2 0))] [(0, some (bx (encI num))), (1, some (bx (encI den))), (2, some (bx (encR (RRat.mk (RInt.mk false []) (RInt.mk false [])))))] (zN (oBx 0) <| zN (oBx 1) <| zN (oAl 2 ze67 zo67) <| zM <| zZ) ?_
  refine pwp_seq <| pwp_seq <| kx [(8, (vb false))] [] (zR (oLa sh30) <| zE (oCl (rs_sign hden (by decide))) <| zE (oBk false oEq (by exact beq_eq_false_iff_ne.2 (signI_ne hb))) <| zZ) ?_
  refine pwp_cond (b := false) (by kernel_rfl) (fun h => by cases h) (fun _ => ?_)
  refine pwp_skip <| pwp_seq <| kx [(5, (vin 0))] [(2, some (bx (encR (ofQ (Rat.divInt a b)))))] (zR (oLa sh30) <| zR (oLa sh30) <| zE (oCl (g_reduced num den a b hnum hden (by assumption))) <| zT (oSt sh67) <| zM <| zZ) ?_
  refine pwp_ret ⟨_, (res_a (cs := (bx (encR (ofQ (Rat.divInt a b))))) (d := (encR (ofQ (Rat.divInt a b)))) rfl rfl sh67 rfl rfl (.tmp (d := (.val (.int .i64 (0)))) rfl .nil)), ?_⟩
  rfl
theorem g_zeroT  : Takes Tryz.prog 33 [(encR (RRat.mk (RInt.mk false []) (RInt.mk false [])))] (.val (.bool (true))) := by
  refine fn_intro Tryz.func33 rfl cb33 rfl ?_
  show PWp _ _ _ _ ⟨[(0, (.d (encR (RRat.mk (RInt.mk false []) (RInt.mk false [])))))], []⟩
  refine pwp_seq <| kx [(1, (.ref 0 0))] [(0, some (bx (encR (RRat.mk (RInt.mk false []) (RInt.mk false [])))))] (zN (oBx 0) <| zM <| zZ) ?_
  refine pwp_seq <| kx [(2, (vb true))] [] (zE (oFr fo67_0) <| zE (oFr fo30_0) <| zR (oL1 sh4) <| zE oNt <| zM <| zE (oFr fo67_1) <| zE (oFr fo30_0) <| zR (oL1 sh4) <| zE oNt <| zE oPt <| zM <| zE (oFr fo67_0) <| zE (oFr fo30_1) <| zR (oL1 sh28) <| zE (oLn el28 0) <| zE oEq <| zE oPt <| zM <| zE (oFr fo67_1) <| zE (oFr fo30_1) <| zR (oL1 sh28) <| zE (oLn el28 0) <| zE oEq <| zE oPt <| zM <| zZ) ?_
  refine pwp_ret ⟨_, (.tmp (d := (.val (.bool (true)))) rfl .nil), ?_⟩
  rfl
end Go.Proofs.YtadkkhdnccljcaaGreat
namespace Go.Proofs.YtadkkhdnccljcaaGreat
open Go.Fid
set_option maxRecDepth 4000
set_option linter.unusedVariables false
set_option linter.unusedSimpArgs false
end Go.Proofs.YtadkkhdnccljcaaGreat
set_option linter.unusedVariables false
set_option linter.unusedSimpArgs false
namespace Go.Fid
theorem sameI_ofZ {a b : Int} : sameI (ofZ a) (ofZ b) = true ↔ a = b := by
  rw [sameI_iff]
  constructor
  · intro h; have := congrArg toZ h; rwa [toZ_ofZ, toZ_ofZ] at this
  · intro h; rw [h]
end Go.Fid
set_option linter.unusedVariables false
set_option linter.unusedSimpArgs false
namespace Go.Fid
theorem det_scale3 (d e f a0 a1 a2 b0 b1 b2 c0 c1 c2 : Int) : det3 (d * a0) (d * a1) (d * a2) (e * b0) (e * b1) (e * b2) (f * c0) (f * c1) (f * c2) = d * e * f * det3 a0 a1 a2 b0 b1 b2 c0 c1 c2 := by unfold det3; grind
end Go.Fid
namespace Go.Proofs.YtadkkhdnccljcaaGreat
open Go.Fid
set_option maxRecDepth 4000
set_option linter.unusedVariables false
set_option linter.unusedSimpArgs false
end Go.Proofs.YtadkkhdnccljcaaGreat
