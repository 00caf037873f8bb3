/- Part 11 of a proof: rules, plain facts, and functions walked. -/
import Derived.Test.YtadkkhdnccljcaaGreatM10
import Derived.Test.YtadkkhdnccljcaaGreatM4
import Derived.Test.YtadkkhdnccljcaaGreatM8
namespace Go.Proofs.YtadkkhdnccljcaaGreat
open Go.Fid
set_option maxRecDepth 4000
set_option linter.unusedVariables false
set_option linter.unusedSimpArgs false
theorem ar80 : arrB Tryz.prog 80 = some (9, 3, 1) := by kernel_rfl
theorem cb11 : callB Tryz.prog 11 = true := by kernel_rfl
theorem cb14 : callB Tryz.prog 14 = true := by kernel_rfl
theorem cb15 : callB Tryz.prog 15 = true := by kernel_rfl
theorem cb16 : callB Tryz.prog 16 = true := by kernel_rfl
theorem cb19 : callB Tryz.prog 19 = true := by kernel_rfl
theorem cb20 : callB Tryz.prog 20 = true := by kernel_rfl
theorem cb41 : callB Tryz.prog 41 = true := by kernel_rfl
theorem cb47 : callB Tryz.prog 47 = true := by kernel_rfl
theorem cb63 : callB Tryz.prog 63 = true := by kernel_rfl
theorem cb76 : callB Tryz.prog 76 = true := by kernel_rfl
theorem el49 : elemB Tryz.prog 49 = some (32, 18) := by kernel_rfl
theorem el65 : elemB Tryz.prog 65 = some (44, 6) := by kernel_rfl
theorem pl23 : placesB Tryz.prog 23 = some [(0, 1), (1, 1)] := by kernel_rfl
theorem pl25 : placesB Tryz.prog 25 = some [(0, 2), (2, 2)] := by kernel_rfl
theorem sh80 : shapeB Tryz.prog 80 = some (true, 9) := by kernel_rfl
theorem ze23 : zeroB Tryz.prog 23 = some [.int .i64 0, .int .i64 0] := by kernel_rfl
theorem ze26 : zeroB Tryz.prog 26 = some [.int .i64 0, .int .i64 0, .int .i64 0, .int .i64 0, .int .i64 0, .int .i64 0, .int .i64 0, .int .i64 0, .int .i64 0, .int .i64 0, .int .i64 0, .int .i64 0, .int .i64 0, .int .i64 0, .int .i64 0, .int .i64 0] := by kernel_rfl
theorem ze80 : zeroB Tryz.prog 80 = some [.int .i64 0, .int .i64 0, .int .i64 0, .int .i64 0, .int .i64 0, .int .i64 0, .int .i64 0, .int .i64 0, .int .i64 0] := by kernel_rfl
theorem zo23 : ZOk [.int .i64 0, .int .i64 0] [.val (.int .i64 0), .val (.int .i64 0)] := by simp [ZOk, Value.oneCell']
theorem zo26 : ZOk [.int .i64 0, .int .i64 0, .int .i64 0, .int .i64 0, .int .i64 0, .int .i64 0, .int .i64 0, .int .i64 0, .int .i64 0, .int .i64 0, .int .i64 0, .int .i64 0, .int .i64 0, .int .i64 0, .int .i64 0, .int .i64 0] [.val (.int .i64 0), .val (.int .i64 0), .val (.int .i64 0), .val (.int .i64 0), .val (.int .i64 0), .val (.int .i64 0), .val (.int .i64 0), .val (.int .i64 0), .val (.int .i64 0), .val (.int .i64 0), .val (.int .i64 0), .val (.int .i64 0), .val (.int .i64 0), .val (.int .i64 0), .val (.int .i64 0), .val (.int .i64 0)] := by simp [ZOk, Value.oneCell']
theorem zo80 : ZOk [.int .i64 0, .int .i64 0, .int .i64 0, .int .i64 0, .int .i64 0, .int .i64 0, .int .i64 0, .int .i64 0, .int .i64 0] [.val (.int .i64 0), .val (.int .i64 0), .val (.int .i64 0), .val (.int .i64 0), .val (.int .i64 0), .val (.int .i64 0), .val (.int .i64 0), .val (.int .i64 0), .val (.int .i64 0)] := by simp [ZOk, Value.oneCell']
theorem l_sameT3 (p : A3 RInt) (p0 p1 p2 : Int) (hp0 : IOk p.a0 p0 1000000) (hp1 : IOk p.a1 p1 1000000) (hp2 : IOk p.a2 p2 1000000) (q : A3 RInt) (q0 q1 q2 : Int) (hq0 : IOk q.a0 q0 1000000) (hq1 : IOk q.a1 q1 1000000) (hq2 : IOk q.a2 q2 1000000) (hv0 : validI p.a0 = true) (hv1 : validI p.a1 = true) (hv2 : validI p.a2 = true) (hs0 : sameI p.a0 q.a0 = true) (hs1 : sameI p.a1 q.a1 = true) (hs2 : sameI p.a2 q.a2 = true) : Takes Tryz.prog 16 [(encA43 p), (encA43 q)] (.val (.bool (true))) := by
  refine fn_intro Tryz.func16 rfl cb16 rfl ?_
  show PWp _ _ _ _ ⟨[(0, (.d (encA43 p))), (1, (.d (encA43 q)))], []⟩
  refine pwp_seq <| kx [(2, (.ref 0 0)), (3, (.ref 1 0))] [(0, some (bx (encA43 p))), (1, some (bx (encA43 q)))] (zN (oBx 0) <| zN (oBx 1) <| zM <| zZ) ?_
  refine pwp_seq <| pwp_seq <| kx [(6, (vin 0))] [] (zM <| zZ) ?_
  refine pwp_block <| pwp_rounds 20 ?_
  refine pwp_round <| pwp_seq <| kx [(7, (vb true))] [] (zE (oBk true oLt) <| zZ) ?_
  refine pwp_seq <| pwp_cond (b := true) (by kernel_rfl) (fun _ => ?_) (fun h => by cases h)
  refine pwp_skip <| pwp_seq <| pwp_block <| pwp_seq <| kx [(5, (vin 0))] [] (zM <| zM <| zZ) ?_
  refine pwp_seq <| kd [(23, (vb false))] [] mo (wM <| wE (oXr ar44 0) <| wR (oLa sh30) <| wE (oBk true (oCl (r_valid p.a0 (Nat.le_trans hp0.l (by decide)))) (by exact hv0)) <| wE oNt <| wM <| wM <| wE (oXr ar44 0) <| wR (oLa sh30) <| wM <| wE (oXr ar44 0) <| wR (oLa sh30) <| wE (oBk true (oCl (r_same p.a0 q.a0 (Nat.le_trans hp0.l (by decide)) (Nat.le_trans hq0.l (by decide)))) (by exact hs0)) <| wE oNt <| wE oPf <| wZ) ?_
  refine pwp_cond (b := false) (by kernel_rfl) (fun h => by cases h) (fun _ => ?_)
  refine pwp_skip <| kx [(6, (vin 1))] [] (zE (oAd 1 (hr := by decide)) <| zM <| zZ) ?_
  refine pwp_again (SimImp.refl _) ?_
  refine pwp_seq <| kx [(7, (vb true))] [] (zE (oBk true oLt) <| zZ) ?_
  refine pwp_seq <| pwp_cond (b := true) (by kernel_rfl) (fun _ => ?_) (fun h => by cases h)
  refine pwp_skip <| pwp_seq <| pwp_block <| pwp_seq <| kx [(5, (vin 1))] [] (zM <| zM <| zZ) ?_
  refine pwp_seq <| kd [(23, (vb false))] [] mo (wM <| wE (oXr ar44 1) <| wR (oLa sh30) <| wE (oBk true (oCl (r_valid p.a1 (Nat.le_trans hp1.l (by decide)))) (by exact hv1)) <| wE oNt <| wM <| wM <| wE (oXr ar44 1) <| wR (oLa sh30) <| wM <| wE (oXr ar44 1) <| wR (oLa sh30) <| wE (oBk true (oCl (r_same p.a1 q.a1 (Nat.le_trans hp1.l (by decide)) (Nat.le_trans hq1.l (by decide)))) (by exact hs1)) <| wE oNt <| wE oPf <| wZ) ?_
  refine pwp_cond (b := false) (by kernel_rfl) (fun h => by cases h) (fun _ => ?_)
  refine pwp_skip <| kx [(6, (vin 2))] [] (zE (oAd 2 (hr := by decide)) <| zM <| zZ) ?_
  refine pwp_again (SimImp.refl _) ?_
  refine pwp_seq <| kx [(7, (vb true))] [] (zE (oBk true oLt) <| zZ) ?_
  refine pwp_seq <| pwp_cond (b := true) (by kernel_rfl) (fun _ => ?_) (fun h => by cases h)
  refine pwp_skip <| pwp_seq <| pwp_block <| pwp_seq <| kx [(5, (vin 2))] [] (zM <| zM <| zZ) ?_
  refine pwp_seq <| kd [(23, (vb false))] [] mo (wM <| wE (oXr ar44 2) <| wR (oLa sh30) <| wE (oBk true (oCl (r_valid p.a2 (Nat.le_trans hp2.l (by decide)))) (by exact hv2)) <| wE oNt <| wM <| wM <| wE (oXr ar44 2) <| wR (oLa sh30) <| wM <| wE (oXr ar44 2) <| wR (oLa sh30) <| wE (oBk true (oCl (r_same p.a2 q.a2 (Nat.le_trans hp2.l (by decide)) (Nat.le_trans hq2.l (by decide)))) (by exact hs2)) <| wE oNt <| wE oPf <| wZ) ?_
  refine pwp_cond (b := false) (by kernel_rfl) (fun h => by cases h) (fun _ => ?_)
  refine pwp_skip <| kx [(6, (vin 3))] [] (zE (oAd 3 (hr := by decide)) <| zM <| zZ) ?_
  refine pwp_again (SimImp.refl _) ?_
  refine pwp_seq <| pwp_sim (wk (l := [(2, (.ref 0 0)), (3, (.ref 1 0)), (6, (vin 3))]) (b := [(0, some (bx (encA43 p))), (1, some (bx (encA43 q)))])) ?_
  refine kx [(7, (vb false))] [] (zE (oBk false oLt) <| zZ) ?_
  refine pwp_seq <| pwp_cond (b := false) (by kernel_rfl) (fun h => by cases h) (fun _ => ?_)
  refine pwp_exit <| pwp_seq <| kx [(4, (vb true))] [] (zM <| zZ) ?_
  refine pwp_ret ⟨_, (.tmp (d := (.val (.bool (true)))) rfl .nil), ?_⟩
  rfl
theorem l_sameT9 (p : A9 RInt) (p0 p1 p2 p3 p4 p5 p6 p7 p8 : Int) (hp0 : IOk p.a0 p0 1000000) (hp1 : IOk p.a1 p1 1000000) (hp2 : IOk p.a2 p2 1000000) (hp3 : IOk p.a3 p3 1000000) (hp4 : IOk p.a4 p4 1000000) (hp5 : IOk p.a5 p5 1000000) (hp6 : IOk p.a6 p6 1000000) (hp7 : IOk p.a7 p7 1000000) (hp8 : IOk p.a8 p8 1000000) (q : A9 RInt) (q0 q1 q2 q3 q4 q5 q6 q7 q8 : Int) (hq0 : IOk q.a0 q0 1000000) (hq1 : IOk q.a1 q1 1000000) (hq2 : IOk q.a2 q2 1000000) (hq3 : IOk q.a3 q3 1000000) (hq4 : IOk q.a4 q4 1000000) (hq5 : IOk q.a5 q5 1000000) (hq6 : IOk q.a6 q6 1000000) (hq7 : IOk q.a7 q7 1000000) (hq8 : IOk q.a8 q8 1000000) (hv0 : validI p.a0 = true) (hv1 : validI p.a1 = true) (hv2 : validI p.a2 = true) (hv3 : validI p.a3 = true) (hv4 : validI p.a4 = true) (hv5 : validI p.a5 = true) (hv6 : validI p.a6 = true) (hv7 : validI p.a7 = true) (hv8 : validI p.a8 = true) (hs0 : sameI p.a0 q.a0 = true) (hs1 : sameI p.a1 q.a1 = true) (hs2 : sameI p.a2 q.a2 = true) (hs3 : sameI p.a3 q.a3 = true) (hs4 : sameI p.a4 q.a4 = true) (hs5 : sameI p.a5 q.a5 = true) (hs6 : sameI p.a6 q.a6 = true) (hs7 : sameI p.a7 q.a7 = true) (hs8 : sameI p.a8 q.a8 = true) : Takes Tryz.prog 15 [(encA31 p), (encA31 q)] (.val (.bool (true))) := by
  refine fn_intro Tryz.func15 rfl cb15 rfl ?_
  show PWp _ _ _ _ ⟨[(0, (.d (encA31 p))), (1, (.d (encA31 q)))], []⟩
  refine pwp_seq <| kx [(2, (.ref 0 0)), (3, (.ref 1 0))] [(0, some (bx (encA31 p))), (1, some (bx (encA31 q)))] (zN (oBx 0) <| zN (oBx 1) <| zM <| zZ) ?_
  refine pwp_seq <| pwp_seq <| kx [(6, (vin 0))] [] (zM <| zZ) ?_
  refine pwp_block <| pwp_rounds 20 ?_
  refine pwp_round <| pwp_seq <| kx [(7, (vb true))] [] (zE (oBk true oLt) <| zZ) ?_
  refine pwp_seq <| pwp_cond (b := true) (by kernel_rfl) (fun _ => ?_) (fun h => by cases h)
  refine pwp_skip <| pwp_seq <| pwp_block <| pwp_seq <| kx [(5, (vin 0))] [] (zM <| zM <| zZ) ?_
  refine pwp_seq <| kd [(23, (vb false))] [] mo (wM <| wE (oXr ar32 0) <| wR (oLa sh30) <| wE (oBk true (oCl (r_valid p.a0 (Nat.le_trans hp0.l (by decide)))) (by exact hv0)) <| wE oNt <| wM <| wM <| wE (oXr ar32 0) <| wR (oLa sh30) <| wM <| wE (oXr ar32 0) <| wR (oLa sh30) <| wE (oBk true (oCl (r_same p.a0 q.a0 (Nat.le_trans hp0.l (by decide)) (Nat.le_trans hq0.l (by decide)))) (by exact hs0)) <| wE oNt <| wE oPf <| wZ) ?_
  refine pwp_cond (b := false) (by kernel_rfl) (fun h => by cases h) (fun _ => ?_)
  refine pwp_skip <| kx [(6, (vin 1))] [] (zE (oAd 1 (hr := by decide)) <| zM <| zZ) ?_
  refine pwp_again (SimImp.refl _) ?_
  refine pwp_seq <| kx [(7, (vb true))] [] (zE (oBk true oLt) <| zZ) ?_
  refine pwp_seq <| pwp_cond (b := true) (by kernel_rfl) (fun _ => ?_) (fun h => by cases h)
  refine pwp_skip <| pwp_seq <| pwp_block <| pwp_seq <| kx [(5, (vin 1))] [] (zM <| zM <| zZ) ?_
  refine pwp_seq <| kd [(23, (vb false))] [] mo (wM <| wE (oXr ar32 1) <| wR (oLa sh30) <| wE (oBk true (oCl (r_valid p.a1 (Nat.le_trans hp1.l (by decide)))) (by exact hv1)) <| wE oNt <| wM <| wM <| wE (oXr ar32 1) <| wR (oLa sh30) <| wM <| wE (oXr ar32 1) <| wR (oLa sh30) <| wE (oBk true (oCl (r_same p.a1 q.a1 (Nat.le_trans hp1.l (by decide)) (Nat.le_trans hq1.l (by decide)))) (by exact hs1)) <| wE oNt <| wE oPf <| wZ) ?_
  refine pwp_cond (b := false) (by kernel_rfl) (fun h => by cases h) (fun _ => ?_)
  refine pwp_skip <| kx [(6, (vin 2))] [] (zE (oAd 2 (hr := by decide)) <| zM <| zZ) ?_
  refine pwp_again (SimImp.refl _) ?_
  refine pwp_seq <| kx [(7, (vb true))] [] (zE (oBk true oLt) <| zZ) ?_
  refine pwp_seq <| pwp_cond (b := true) (by kernel_rfl) (fun _ => ?_) (fun h => by cases h)
  refine pwp_skip <| pwp_seq <| pwp_block <| pwp_seq <| kx [(5, (vin 2))] [] (zM <| zM <| zZ) ?_
  refine pwp_seq <| kd [(23, (vb false))] [] mo (wM <| wE (oXr ar32 2) <| wR (oLa sh30) <| wE (oBk true (oCl (r_valid p.a2 (Nat.le_trans hp2.l (by decide)))) (by exact hv2)) <| wE oNt <| wM <| wM <| wE (oXr ar32 2) <| wR (oLa sh30) <| wM <| wE (oXr ar32 2) <| wR (oLa sh30) <| wE (oBk true (oCl (r_same p.a2 q.a2 (Nat.le_trans hp2.l (by decide)) (Nat.le_trans hq2.l (by decide)))) (by exact hs2)) <| wE oNt <| wE oPf <| wZ) ?_
  refine pwp_cond (b := false) (by kernel_rfl) (fun h => by cases h) (fun _ => ?_)
  refine pwp_skip <| kx [(6, (vin 3))] [] (zE (oAd 3 (hr := by decide)) <| zM <| zZ) ?_
  refine pwp_again (SimImp.refl _) ?_
  refine pwp_seq <| pwp_sim (wk (l := [(2, (.ref 0 0)), (3, (.ref 1 0)), (6, (vin 3))]) (b := [(0, some (bx (encA31 p))), (1, some (bx (encA31 q)))])) ?_
  refine kx [(7, (vb true))] [] (zE (oBk true oLt) <| zZ) ?_
  refine pwp_seq <| pwp_cond (b := true) (by kernel_rfl) (fun _ => ?_) (fun h => by cases h)
  refine pwp_skip <| pwp_seq <| pwp_block <| pwp_seq <| kx [(5, (vin 3))] [] (zM <| zM <| zZ) ?_
  refine pwp_seq <| kd [(23, (vb false))] [] mo (wM <| wE (oXr ar32 3) <| wR (oLa sh30) <| wE (oBk true (oCl (r_valid p.a3 (Nat.le_trans hp3.l (by decide)))) (by exact hv3)) <| wE oNt <| wM <| wM <| wE (oXr ar32 3) <| wR (oLa sh30) <| wM <| wE (oXr ar32 3) <| wR (oLa sh30) <| wE (oBk true (oCl (r_same p.a3 q.a3 (Nat.le_trans hp3.l (by decide)) (Nat.le_trans hq3.l (by decide)))) (by exact hs3)) <| wE oNt <| wE oPf <| wZ) ?_
  refine pwp_cond (b := false) (by kernel_rfl) (fun h => by cases h) (fun _ => ?_)
  refine pwp_skip <| kx [(6, (vin 4))] [] (zE (oAd 4 (hr := by decide)) <| zM <| zZ) ?_
  refine pwp_again (SimImp.refl _) ?_
  refine pwp_seq <| kx [(7, (vb true))] [] (zE (oBk true oLt) <| zZ) ?_
  refine pwp_seq <| pwp_cond (b := true) (by kernel_rfl) (fun _ => ?_) (fun h => by cases h)
  refine pwp_skip <| pwp_seq <| pwp_block <| pwp_seq <| kx [(5, (vin 4))] [] (zM <| zM <| zZ) ?_
  refine pwp_seq <| kd [(23, (vb false))] [] mo (wM <| wE (oXr ar32 4) <| wR (oLa sh30) <| wE (oBk true (oCl (r_valid p.a4 (Nat.le_trans hp4.l (by decide)))) (by exact hv4)) <| wE oNt <| wM <| wM <| wE (oXr ar32 4) <| wR (oLa sh30) <| wM <| wE (oXr ar32 4) <| wR (oLa sh30) <| wE (oBk true (oCl (r_same p.a4 q.a4 (Nat.le_trans hp4.l (by decide)) (Nat.le_trans hq4.l (by decide)))) (by exact hs4)) <| wE oNt <| wE oPf <| wZ) ?_
  refine pwp_cond (b := false) (by kernel_rfl) (fun h => by cases h) (fun _ => ?_)
  refine pwp_skip <| kx [(6, (vin 5))] [] (zE (oAd 5 (hr := by decide)) <| zM <| zZ) ?_
  refine pwp_again (SimImp.refl _) ?_
  refine pwp_seq <| kx [(7, (vb true))] [] (zE (oBk true oLt) <| zZ) ?_
  refine pwp_seq <| pwp_cond (b := true) (by kernel_rfl) (fun _ => ?_) (fun h => by cases h)
  refine pwp_skip <| pwp_seq <| pwp_block <| pwp_seq <| kx [(5, (vin 5))] [] (zM <| zM <| zZ) ?_
  refine pwp_seq <| kd [(23, (vb false))] [] mo (wM <| wE (oXr ar32 5) <| wR (oLa sh30) <| wE (oBk true (oCl (r_valid p.a5 (Nat.le_trans hp5.l (by decide)))) (by exact hv5)) <| wE oNt <| wM <| wM <| wE (oXr ar32 5) <| wR (oLa sh30) <| wM <| wE (oXr ar32 5) <| wR (oLa sh30) <| wE (oBk true (oCl (r_same p.a5 q.a5 (Nat.le_trans hp5.l (by decide)) (Nat.le_trans hq5.l (by decide)))) (by exact hs5)) <| wE oNt <| wE oPf <| wZ) ?_
  refine pwp_cond (b := false) (by kernel_rfl) (fun h => by cases h) (fun _ => ?_)
  refine pwp_skip <| kx [(6, (vin 6))] [] (zE (oAd 6 (hr := by decide)) <| zM <| zZ) ?_
  refine pwp_again (SimImp.refl _) ?_
  refine pwp_seq <| kx [(7, (vb true))] [] (zE (oBk true oLt) <| zZ) ?_
  refine pwp_seq <| pwp_cond (b := true) (by kernel_rfl) (fun _ => ?_) (fun h => by cases h)
  refine pwp_skip <| pwp_seq <| pwp_block <| pwp_seq <| kx [(5, (vin 6))] [] (zM <| zM <| zZ) ?_
  refine pwp_seq <| pwp_sim (wk (l := [(2, (.ref 0 0)), (3, (.ref 1 0)), (5, (vin 6)), (6, (vin 6))]) (b := [(0, some (bx (encA31 p))), (1, some (bx (encA31 q)))])) ?_
  refine kd [(23, (vb false))] [] mo (wM <| wE (oXr ar32 6) <| wR (oLa sh30) <| wE (oBk true (oCl (r_valid p.a6 (Nat.le_trans hp6.l (by decide)))) (by exact hv6)) <| wE oNt <| wM <| wM <| wE (oXr ar32 6) <| wR (oLa sh30) <| wM <| wE (oXr ar32 6) <| wR (oLa sh30) <| wE (oBk true (oCl (r_same p.a6 q.a6 (Nat.le_trans hp6.l (by decide)) (Nat.le_trans hq6.l (by decide)))) (by exact hs6)) <| wE oNt <| wE oPf <| wZ) ?_
  refine pwp_cond (b := false) (by kernel_rfl) (fun h => by cases h) (fun _ => ?_)
  refine pwp_skip <| kx [(6, (vin 7))] [] (zE (oAd 7 (hr := by decide)) <| zM <| zZ) ?_
  refine pwp_again (SimImp.refl _) ?_
  refine pwp_seq <| kx [(7, (vb true))] [] (zE (oBk true oLt) <| zZ) ?_
  refine pwp_seq <| pwp_cond (b := true) (by kernel_rfl) (fun _ => ?_) (fun h => by cases h)
  refine pwp_skip <| pwp_seq <| pwp_block <| pwp_seq <| kx [(5, (vin 7))] [] (zM <| zM <| zZ) ?_
  refine pwp_seq <| kd [(23, (vb false))] [] mo (wM <| wE (oXr ar32 7) <| wR (oLa sh30) <| wE (oBk true (oCl (r_valid p.a7 (Nat.le_trans hp7.l (by decide)))) (by exact hv7)) <| wE oNt <| wM <| wM <| wE (oXr ar32 7) <| wR (oLa sh30) <| wM <| wE (oXr ar32 7) <| wR (oLa sh30) <| wE (oBk true (oCl (r_same p.a7 q.a7 (Nat.le_trans hp7.l (by decide)) (Nat.le_trans hq7.l (by decide)))) (by exact hs7)) <| wE oNt <| wE oPf <| wZ) ?_
  refine pwp_cond (b := false) (by kernel_rfl) (fun h => by cases h) (fun _ => ?_)
  refine pwp_skip <| kx [(6, (vin 8))] [] (zE (oAd 8 (hr := by decide)) <| zM <| zZ) ?_
  refine pwp_again (SimImp.refl _) ?_
  refine pwp_seq <| kx [(7, (vb true))] [] (zE (oBk true oLt) <| zZ) ?_
  refine pwp_seq <| pwp_cond (b := true) (by kernel_rfl) (fun _ => ?_) (fun h => by cases h)
  refine pwp_skip <| pwp_seq <| pwp_block <| pwp_seq <| kx [(5, (vin 8))] [] (zM <| zM <| zZ) ?_
  refine pwp_seq <| kd [(23, (vb false))] [] mo (wM <| wE (oXr ar32 8) <| wR (oLa sh30) <| wE (oBk true (oCl (r_valid p.a8 (Nat.le_trans hp8.l (by decide)))) (by exact hv8)) <| wE oNt <| wM <| wM <| wE (oXr ar32 8) <| wR (oLa sh30) <| wM <| wE (oXr ar32 8) <| wR (oLa sh30) <| wE (oBk true (oCl (r_same p.a8 q.a8 (Nat.le_trans hp8.l (by decide)) (Nat.le_trans hq8.l (by decide)))) (by exact hs8)) <| wE oNt <| wE oPf <| wZ) ?_
  refine pwp_cond (b := false) (by kernel_rfl) (fun h => by cases h) (fun _ => ?_)
  refine pwp_skip <| kx [(6, (vin 9))] [] (zE (oAd 9 (hr := by decide)) <| zM <| zZ) ?_
  refine pwp_again (SimImp.refl _) ?_
  refine pwp_seq <| kx [(7, (vb false))] [] (zE (oBk false oLt) <| zZ) ?_
  refine pwp_seq <| pwp_cond (b := false) (by kernel_rfl) (fun h => by cases h) (fun _ => ?_)
  refine pwp_exit <| pwp_seq <| kx [(4, (vb true))] [] (zM <| zZ) ?_
  refine pwp_ret ⟨_, (.tmp (d := (.val (.bool (true)))) rfl .nil), ?_⟩
  rfl
theorem l_empty (tau : Nat) (l : List RInt) (zs : List Int) (hl : LOk 1000000 l zs) (hb : l.length ≤ 1000000) (he : ∀ x ∈ l, x = RInt.mk false []) : Takes Tryz.prog 14 [(.sl tau 2 (List.map encI l))] (.val (.bool (true))) := by
  refine fn_intro Tryz.func14 rfl cb14 rfl ?_
  show PWp _ _ _ _ ⟨[(0, (vl tau 2 encI l))], []⟩
  refine pwp_seq <| kx [] [] (zM <| zZ) ?_
  refine pwp_seq <| pwp_seq <| kx [(5, (vl tau 2 encI l)), (6, (vin l.length)), (7, (vin 0))] [] (zM <| zE (oLm el40) <| zM <| zZ) ?_
  refine pwp_block <| pwp_loop (α := Nat) (fun i => ⟨[(5, (vl tau 2 encI l)), (6, (vin l.length)), (7, (vin i))], []⟩) (fun i => i ≤ l.length) (fun i => l.length - i) 0 wk (Nat.zero_le _) ?_
  rintro i hi
  have hx := all_nil he i
  refine pwp_seq <| kx [(8, (vb (decide (((i : Nat) : Int) < ((l.length : Nat) : Int)))))] [] (zE oLt <| zZ) ?_
  refine pwp_seq <| pwp_cond rfl (fun h1 => ?_) (fun h1 => ?_)
  · replace h1 := of_decide_eq_true h1
    refine pwp_skip <| pwp_seq <| pwp_block <| pwp_seq <| kx [(4, (.ref 0 0))] [(0, some (bx (encI (l.getD i (RInt.mk false [])))))] (zE (oXl el40 i (RInt.mk false [])) <| zE (oCa sh30) <| zN (oAl 0 ze30 zo30) <| zT (oSt sh30) <| zZ) ?_
    refine pwp_seq <| kx [(18, (vb ((l.getD i (RInt.mk false [])).neg || decide (0 < ((((l.getD i (RInt.mk false [])).gs).length : Nat) : Int)))))] [] ?_ ?_
    · refine zE (oFr fo30_0) <| zR (oL1 sh4) <| zE (oV (vb ((l.getD i (RInt.mk false [])).neg)) (mv_ok (by kernel_rfl))) <| ?_
      rcases hb2 : ((l.getD i (RInt.mk false [])).neg) with _ | _
      · exact zE (oFr fo30_1) <| zR (oL1 sh28) <| zE (oLm el28 (L := (l.getD i (RInt.mk false [])).gs)) <| zE oGt <| zE oPo <| zZ
      · exact zK <| zK <| zK <| zK <| zE oPt <| zZ
    refine pwp_cond rfl (fun h3 => ?_) (fun h3 => ?_)
    · exfalso; rw [hx] at h3; revert h3; decide
    · refine pwp_skip <| kx [(7, (vin (i + 1)))] [] (zE (oAd (i + 1)) <| zM <| zZ) ?_
      exact ⟨(i + 1), wk, (by show i + 1 ≤ l.length; omega), (by first | omega | (dsimp only; omega))⟩
  · replace h1 := of_decide_eq_false h1
    refine pwp_exit <| pwp_seq <| kx [(2, (vb true))] [] (zM <| zZ) ?_
    refine pwp_ret ⟨_, (.tmp (d := (.val (.bool (true)))) rfl .nil), ?_⟩
    rfl
theorem l_short4 (tau : Nat) (l : List RInt) (zs : List Int) (hl : LOk 140737488355328 l zs) (hb : l.length ≤ 1000000) : Takes Tryz.prog 76 [(.sl tau 2 (List.map encI l))] (.val (.bool ((List.all l short4)))) := by
  refine fn_intro Tryz.func76 rfl cb76 rfl ?_
  show PWp _ _ _ _ ⟨[(0, (vl tau 2 encI l))], []⟩
  refine pwp_seq <| kx [] [] (zM <| zZ) ?_
  refine pwp_seq <| pwp_seq <| kx [(5, (vl tau 2 encI l)), (6, (vin l.length)), (7, (vin 0))] [] (zM <| zE (oLm el40) <| zM <| zZ) ?_
  refine pwp_block <| pwp_loop (α := Nat) (fun i => ⟨[(5, (vl tau 2 encI l)), (6, (vin l.length)), (7, (vin i))], []⟩) (fun i => i ≤ l.length ∧ (l.take i).all short4 = true) (fun i => l.length - i) 0 wk ⟨Nat.zero_le _, by simp⟩ ?_
  rintro i ⟨hi, hal⟩
  refine pwp_seq <| kx [(8, (vb (decide (((i : Nat) : Int) < ((l.length : Nat) : Int)))))] [] (zE oLt <| zZ) ?_
  refine pwp_seq <| pwp_cond rfl (fun h1 => ?_) (fun h1 => ?_)
  · replace h1 := of_decide_eq_true h1
    refine pwp_skip <| pwp_seq <| pwp_block <| pwp_seq <| kx [(4, (.ref 0 0))] [(0, some (bx (encI (l.getD i (RInt.mk false [])))))] (zE (oXl el40 i (RInt.mk false [])) <| zE (oCa sh30) <| zN (oAl 0 ze30 zo30) <| zT (oSt sh30) <| zZ) ?_
    refine pwp_seq <| kx [(14, (vb (decide (4 < ((((l.getD i (RInt.mk false [])).gs).length : Nat) : Int)))))] [] (zE (oFr fo30_1) <| zR (oL1 sh28) <| zE (oLm el28 (L := (l.getD i (RInt.mk false [])).gs)) <| zE oGt <| zZ) ?_
    refine pwp_cond rfl (fun h2 => ?_) (fun h2 => ?_)
    · replace h2 := of_decide_eq_true h2
      refine pwp_seq <| kx [(2, (vb false))] [] (zM <| zZ) ?_
      refine pwp_ret ⟨_, (.tmp (d := (.val (.bool (false)))) rfl .nil), ?_⟩
      rw [all_not (f := short4) (l := l) (i := i) (d := RInt.mk false []) (by omega) (short4_no h2)]; rfl
    · replace h2 := of_decide_eq_false h2
      refine pwp_skip <| kx [(7, (vin (i + 1)))] [] (zE (oAd (i + 1)) <| zM <| zZ) ?_
      exact ⟨(i + 1), wk, ⟨by omega, all_take (d := ⟨false, []⟩) (by omega) hal (short4_yes h2)⟩, (by first | omega | (dsimp only; omega))⟩
  · replace h1 := of_decide_eq_false h1
    have hie : i = l.length := by omega
    rw [hie, List.take_length] at hal
    refine pwp_exit <| pwp_seq <| kx [(2, (vb true))] [] (zM <| zZ) ?_
    refine pwp_ret ⟨_, (.tmp (d := (.val (.bool (true)))) rfl .nil), ?_⟩
    rw [hal]; rfl
theorem l_reduce (h : A9 RInt) (h0 h1 h2 h3 h4 h5 h6 h7 h8 : Int) (hh0 : IOk h.a0 h0 1000000) (hh1 : IOk h.a1 h1 1000000) (hh2 : IOk h.a2 h2 1000000) (hh3 : IOk h.a3 h3 1000000) (hh4 : IOk h.a4 h4 1000000) (hh5 : IOk h.a5 h5 1000000) (hh6 : IOk h.a6 h6 1000000) (hh7 : IOk h.a7 h7 1000000) (hh8 : IOk h.a8 h8 1000000) (c0 c1 c2 c3 c4 c5 c6 c7 c8 : Int) (hc : redL [h0, h1, h2, h3, h4, h5, h6, h7, h8] = [c0, c1, c2, c3, c4, c5, c6, c7, c8]) (hnz : sgnL [h0, h1, h2, h3, h4, h5, h6, h7, h8] ≠ 0) (hd : signI (det3 h0 h1 h2 h3 h4 h5 h6 h7 h8) ≠ 0) : Takes Tryz.prog 47 [(encA31 h)] (.tup [(encA31 (A9.mk (ofZ c0) (ofZ c1) (ofZ c2) (ofZ c3) (ofZ c4) (ofZ c5) (ofZ c6) (ofZ c7) (ofZ c8))), (.val (.bool (true)))]) := by
  refine fn_intro Tryz.func47 rfl cb47 rfl ?_
  show PWp _ _ _ _ ⟨[(0, (.d (encA31 h)))], []⟩
  refine pwp_seq <| kx [(1, (.ref 0 0)), (2, (.ref 1 0))] [(0, some (bx (encA31 h))), (1, some (bx (encA31 (A9.mk (RInt.mk false []) (RInt.mk false []) (RInt.mk false []) (RInt.mk false []) (RInt.mk false []) (RInt.mk false []) (RInt.mk false []) (RInt.mk false []) (RInt.mk false [])))))] (zN (oBx 0) <| zN (oAl 1 ze32 zo32) <| zM <| zZ) ?_
  refine pwp_seq ?_
  have bn1 : ∀ c ∈ [c0, c1, c2, c3, c4, c5, c6, c7, c8], IOk (ofZ c) c 1000000 := red_iok (n := 1000000) (.cons hh0 (.cons hh1 (.cons hh2 (.cons hh3 (.cons hh4 (.cons hh5 (.cons hh6 (.cons hh7 (.cons hh8 .nil))))))))) hc
  refine kx [(4, (vl 30 2 encI [(ofZ c0), (ofZ c1), (ofZ c2), (ofZ c3), (ofZ c4), (ofZ c5), (ofZ c6), (ofZ c7), (ofZ c8)]))] [] (zE (e_slv (by exact rfl) ar32 (by exact rfl) (by kernel_rfl) (by kernel_rfl)) <| zR ⟨(bx (encA31 h)), e_clv (es := List.map encI [h.a0, h.a1, h.a2, h.a3, h.a4, h.a5, h.a6, h.a7, h.a8]) (by have h := l_red 1000000 [h.a0, h.a1, h.a2, h.a3, h.a4, h.a5, h.a6, h.a7, h.a8] [h0, h1, h2, h3, h4, h5, h6, h7, h8] (.cons hh0 (.cons hh1 (.cons hh2 (.cons hh3 (.cons hh4 (.cons hh5 (.cons hh6 (.cons hh7 (.cons hh8 .nil))))))))) (Nat.le_of_ble_eq_true rfl) hnz; rw [hc] at h; exact h) (by exact rfl) (by kernel_rfl) (by exact rfl) (.v .nil) (pubs_cells _ _ (fun _ => rfl)) (by kernel_rfl) (by kernel_rfl) (avo_sl_30 (by decide) (by decide) _), by kernel_rfl⟩ <| zM <| zZ) ?_
  refine pwp_seq <| pwp_seq ?_
  have bn2 : IOk (ofZ (det3 h0 h1 h2 h3 h4 h5 h6 h7 h8)) (det3 h0 h1 h2 h3 h4 h5 h6 h7 h8) 3000003 := (iok_det3 (n := 1000000) (k := 3000003) hh0 hh1 hh2 hh3 hh4 hh5 hh6 hh7 hh8 (by decide))
  refine kd [(18, (vb false))] [] mo (wM <| wE (oNf el40) <| wM <| wR (oLa sh32) <| wE (oCl (l_row0 h h0 h1 h2 h3 h4 h5 h6 h7 h8 (iu hh0) (iu hh1) (iu hh2) (iu hh3) (iu hh4) (iu hh5) (iu hh6) (iu hh7) (iu hh8))) <| wR (oLa sh32) <| wE (oCl (l_row1 h h0 h1 h2 h3 h4 h5 h6 h7 h8 (iu hh0) (iu hh1) (iu hh2) (iu hh3) (iu hh4) (iu hh5) (iu hh6) (iu hh7) (iu hh8))) <| wR (oLa sh32) <| wE (oCl (l_row2 h h0 h1 h2 h3 h4 h5 h6 h7 h8 (iu hh0) (iu hh1) (iu hh2) (iu hh3) (iu hh4) (iu hh5) (iu hh6) (iu hh7) (iu hh8))) <| wE (oCl (l_det (A3.mk h.a0 h.a1 h.a2) h0 h1 h2 hh0 hh1 hh2 (A3.mk h.a3 h.a4 h.a5) h3 h4 h5 hh3 hh4 hh5 (A3.mk h.a6 h.a7 h.a8) h6 h7 h8 hh6 hh7 hh8)) <| wE (oBk false (oCl (l_zero (ofZ (det3 h0 h1 h2 h3 h4 h5 h6 h7 h8)) (det3 h0 h1 h2 h3 h4 h5 h6 h7 h8) (iu bn2))) (by exact beq_eq_false_iff_ne.2 hd)) <| wE oPf <| wZ) ?_
  refine pwp_cond (b := false) (by kernel_rfl) (fun h => by cases h) (fun _ => ?_)
  refine pwp_skip <| pwp_seq <| kx [(3, (vb true))] [(1, some (bx (encA31 (A9.mk (ofZ c0) (ofZ c1) (ofZ c2) (ofZ c3) (ofZ c4) (ofZ c5) (ofZ c6) (ofZ c7) (ofZ c8)))))] (zM <| zE (e_sap (cs := (Dat.cells (encA31 (A9.mk (ofZ c0) (ofZ c1) (ofZ c2) (ofZ c3) (ofZ c4) (ofZ c5) (ofZ c6) (ofZ c7) (ofZ c8))))) (by exact rfl) ar32 (by exact rfl) (by kernel_rfl) (by kernel_rfl) (by kernel_rfl)) <| zE (oCa sh32) <| zT (oSt sh32) <| zM <| zZ) ?_
  refine pwp_ret ⟨_, (res_a (cs := (bx (encA31 (A9.mk (ofZ c0) (ofZ c1) (ofZ c2) (ofZ c3) (ofZ c4) (ofZ c5) (ofZ c6) (ofZ c7) (ofZ c8))))) (d := (encA31 (A9.mk (ofZ c0) (ofZ c1) (ofZ c2) (ofZ c3) (ofZ c4) (ofZ c5) (ofZ c6) (ofZ c7) (ofZ c8)))) rfl rfl sh32 rfl rfl (.tmp (d := (.val (.bool (true)))) rfl .nil)), ?_⟩
  rfl
theorem l_made (n0 n1 n2 n3 n4 n5 n6 n7 n8 : Int) (hn0 : -1048576 ≤ n0 ∧ n0 ≤ 1048576) (hn1 : -1048576 ≤ n1 ∧ n1 ≤ 1048576) (hn2 : -1048576 ≤ n2 ∧ n2 ≤ 1048576) (hn3 : -1048576 ≤ n3 ∧ n3 ≤ 1048576) (hn4 : -1048576 ≤ n4 ∧ n4 ≤ 1048576) (hn5 : -1048576 ≤ n5 ∧ n5 ≤ 1048576) (hn6 : -1048576 ≤ n6 ∧ n6 ≤ 1048576) (hn7 : -1048576 ≤ n7 ∧ n7 ≤ 1048576) (hn8 : -1048576 ≤ n8 ∧ n8 ≤ 1048576) (c0 c1 c2 c3 c4 c5 c6 c7 c8 : Int) (hc : redL [n0, n1, n2, n3, n4, n5, n6, n7, n8] = [c0, c1, c2, c3, c4, c5, c6, c7, c8]) (hnz : sgnL [n0, n1, n2, n3, n4, n5, n6, n7, n8] ≠ 0) (hd : signI (det3 n0 n1 n2 n3 n4 n5 n6 n7 n8) ≠ 0) : Takes Tryz.prog 41 [(encA80 (A9.mk n0 n1 n2 n3 n4 n5 n6 n7 n8))] (.tup [(encA31 (A9.mk (ofZ c0) (ofZ c1) (ofZ c2) (ofZ c3) (ofZ c4) (ofZ c5) (ofZ c6) (ofZ c7) (ofZ c8))), (.val (.bool (true)))]) := by
  let y1 := (bx (encA31 (A9.mk (RInt.mk false []) (RInt.mk false []) (RInt.mk false []) (RInt.mk false []) (RInt.mk false []) (RInt.mk false []) (RInt.mk false []) (RInt.mk false []) (RInt.mk false []))))
  refine fn_intro Tryz.func41 rfl cb41 rfl ?_
  show PWp _ _ _ _ ⟨[(0, (.d (encA80 (A9.mk n0 n1 n2 n3 n4 n5 n6 n7 n8))))], []⟩
  refine pwp_seq <| kx [(1, (.ref 0 0)), (2, (.ref 1 0))] [(0, some (bx (encA80 (A9.mk n0 n1 n2 n3 n4 n5 n6 n7 n8)))), (1, some y1)] (zN (oBx 0) <| zN (oAl 1 ze32 zo32) <| zM <| zZ) ?_
  refine pwp_seq <| kx [(4, (.ref 2 0))] [(2, some y1)] (zE (oBa ar32 ze32 zo32) <| zN (oAl 2 ze32 zo32) <| zT (oSt sh32) <| zZ) ?_
  refine pwp_seq <| pwp_seq <| kx [(8, (.d (encA80 (A9.mk n0 n1 n2 n3 n4 n5 n6 n7 n8)))), (9, (vin 0))] [] (zR (oLa sh80) <| zM <| zZ) ?_
  refine pwp_block <| pwp_rounds 20 ?_
  refine pwp_round <| pwp_seq <| kx [(10, (vb true))] [] (zE (oBk true oLt) <| zZ) ?_
  refine pwp_seq <| pwp_cond (b := true) (by kernel_rfl) (fun _ => ?_) (fun h => by cases h)
  refine pwp_skip <| pwp_seq <| pwp_block <| pwp_seq <| kx [(5, (vin 0)), (6, (vi n0))] [] (zM <| zE (oXa ar80 sh3 (fun _ => rfl) 0) <| zM <| zM <| zZ) ?_
  refine kx [] [(2, some (bx (encA31 (A9.mk (ofZ n0) (RInt.mk false []) (RInt.mk false []) (RInt.mk false []) (RInt.mk false []) (RInt.mk false []) (RInt.mk false []) (RInt.mk false []) (RInt.mk false [])))))] (zM <| zM <| zE (oCl (l_wholeI n0 (by omega) (by omega))) <| zE (oXr ar32 0) <| zT (oSt sh30) <| zZ) ?_
  refine kx [(9, (vin 1))] [] (zE (oAd 1 (hr := by decide)) <| zM <| zZ) ?_
  refine pwp_again (SimImp.refl _) ?_
  refine pwp_seq <| kx [(10, (vb true))] [] (zE (oBk true oLt) <| zZ) ?_
  refine pwp_seq <| pwp_cond (b := true) (by kernel_rfl) (fun _ => ?_) (fun h => by cases h)
  refine pwp_skip <| pwp_seq <| pwp_block <| pwp_seq <| kx [(5, (vin 1)), (6, (vi n1))] [] (zM <| zE (oXa ar80 sh3 (fun _ => rfl) 1) <| zM <| zM <| zZ) ?_
  refine kx [] [(2, some (bx (encA31 (A9.mk (ofZ n0) (ofZ n1) (RInt.mk false []) (RInt.mk false []) (RInt.mk false []) (RInt.mk false []) (RInt.mk false []) (RInt.mk false []) (RInt.mk false [])))))] (zM <| zM <| zE (oCl (l_wholeI n1 (by omega) (by omega))) <| zE (oXr ar32 1) <| zT (oSt sh30) <| zZ) ?_
  refine kx [(9, (vin 2))] [] (zE (oAd 2 (hr := by decide)) <| zM <| zZ) ?_
  refine pwp_again (SimImp.refl _) ?_
  refine pwp_seq <| kx [(10, (vb true))] [] (zE (oBk true oLt) <| zZ) ?_
  refine pwp_seq <| pwp_cond (b := true) (by kernel_rfl) (fun _ => ?_) (fun h => by cases h)
  refine pwp_skip <| pwp_seq <| pwp_block <| pwp_seq <| kx [(5, (vin 2)), (6, (vi n2))] [] (zM <| zE (oXa ar80 sh3 (fun _ => rfl) 2) <| zM <| zM <| zZ) ?_
  refine kx [] [(2, some (bx (encA31 (A9.mk (ofZ n0) (ofZ n1) (ofZ n2) (RInt.mk false []) (RInt.mk false []) (RInt.mk false []) (RInt.mk false []) (RInt.mk false []) (RInt.mk false [])))))] (zM <| zM <| zE (oCl (l_wholeI n2 (by omega) (by omega))) <| zE (oXr ar32 2) <| zT (oSt sh30) <| zZ) ?_
  refine pwp_sim (wk (l := [(2, (.ref 1 0)), (4, (.ref 2 0)), (8, (.d (encA80 (A9.mk n0 n1 n2 n3 n4 n5 n6 n7 n8)))), (9, (vin 2))]) (b := [(1, some y1), (2, some (bx (encA31 (A9.mk (ofZ n0) (ofZ n1) (ofZ n2) (RInt.mk false []) (RInt.mk false []) (RInt.mk false []) (RInt.mk false []) (RInt.mk false []) (RInt.mk false [])))))])) ?_
  refine kx [(9, (vin 3))] [] (zE (oAd 3 (hr := by decide)) <| zM <| zZ) ?_
  refine pwp_again (SimImp.refl _) ?_
  refine pwp_seq <| kx [(10, (vb true))] [] (zE (oBk true oLt) <| zZ) ?_
  refine pwp_seq <| pwp_cond (b := true) (by kernel_rfl) (fun _ => ?_) (fun h => by cases h)
  refine pwp_skip <| pwp_seq <| pwp_block <| pwp_seq <| kx [(5, (vin 3)), (6, (vi n3))] [] (zM <| zE (oXa ar80 sh3 (fun _ => rfl) 3) <| zM <| zM <| zZ) ?_
  refine kx [] [(2, some (bx (encA31 (A9.mk (ofZ n0) (ofZ n1) (ofZ n2) (ofZ n3) (RInt.mk false []) (RInt.mk false []) (RInt.mk false []) (RInt.mk false []) (RInt.mk false [])))))] (zM <| zM <| zE (oCl (l_wholeI n3 (by omega) (by omega))) <| zE (oXr ar32 3) <| zT (oSt sh30) <| zZ) ?_
  refine kx [(9, (vin 4))] [] (zE (oAd 4 (hr := by decide)) <| zM <| zZ) ?_
  refine pwp_again (SimImp.refl _) ?_
  refine pwp_seq <| kx [(10, (vb true))] [] (zE (oBk true oLt) <| zZ) ?_
  refine pwp_seq <| pwp_cond (b := true) (by kernel_rfl) (fun _ => ?_) (fun h => by cases h)
  refine pwp_skip <| pwp_seq <| pwp_block <| pwp_seq <| kx [(5, (vin 4)), (6, (vi n4))] [] (zM <| zE (oXa ar80 sh3 (fun _ => rfl) 4) <| zM <| zM <| zZ) ?_
  refine kx [] [(2, some (bx (encA31 (A9.mk (ofZ n0) (ofZ n1) (ofZ n2) (ofZ n3) (ofZ n4) (RInt.mk false []) (RInt.mk false []) (RInt.mk false []) (RInt.mk false [])))))] (zM <| zM <| zE (oCl (l_wholeI n4 (by omega) (by omega))) <| zE (oXr ar32 4) <| zT (oSt sh30) <| zZ) ?_
  refine kx [(9, (vin 5))] [] (zE (oAd 5 (hr := by decide)) <| zM <| zZ) ?_
  refine pwp_again (SimImp.refl _) ?_
  refine pwp_seq <| kx [(10, (vb true))] [] (zE (oBk true oLt) <| zZ) ?_
  refine pwp_seq <| pwp_cond (b := true) (by kernel_rfl) (fun _ => ?_) (fun h => by cases h)
  refine pwp_skip <| pwp_seq <| pwp_block <| pwp_seq <| kx [(5, (vin 5)), (6, (vi n5))] [] (zM <| zE (oXa ar80 sh3 (fun _ => rfl) 5) <| zM <| zM <| zZ) ?_
  refine kx [] [(2, some (bx (encA31 (A9.mk (ofZ n0) (ofZ n1) (ofZ n2) (ofZ n3) (ofZ n4) (ofZ n5) (RInt.mk false []) (RInt.mk false []) (RInt.mk false [])))))] (zM <| zM <| zE (oCl (l_wholeI n5 (by omega) (by omega))) <| zE (oXr ar32 5) <| zT (oSt sh30) <| zZ) ?_
  refine kx [(9, (vin 6))] [] (zE (oAd 6 (hr := by decide)) <| zM <| zZ) ?_
  refine pwp_again (SimImp.refl _) ?_
  refine pwp_seq <| kx [(10, (vb true))] [] (zE (oBk true oLt) <| zZ) ?_
  refine pwp_seq <| pwp_cond (b := true) (by kernel_rfl) (fun _ => ?_) (fun h => by cases h)
  refine pwp_skip <| pwp_seq <| pwp_block <| pwp_seq <| pwp_sim (wk (l := [(2, (.ref 1 0)), (4, (.ref 2 0)), (8, (.d (encA80 (A9.mk n0 n1 n2 n3 n4 n5 n6 n7 n8)))), (9, (vin 6)), (10, (vb true))]) (b := [(1, some y1), (2, some (bx (encA31 (A9.mk (ofZ n0) (ofZ n1) (ofZ n2) (ofZ n3) (ofZ n4) (ofZ n5) (RInt.mk false []) (RInt.mk false []) (RInt.mk false [])))))])) ?_
  refine kx [(5, (vin 6)), (6, (vi n6))] [] (zM <| zE (oXa ar80 sh3 (fun _ => rfl) 6) <| zM <| zM <| zZ) ?_
  refine kx [] [(2, some (bx (encA31 (A9.mk (ofZ n0) (ofZ n1) (ofZ n2) (ofZ n3) (ofZ n4) (ofZ n5) (ofZ n6) (RInt.mk false []) (RInt.mk false [])))))] (zM <| zM <| zE (oCl (l_wholeI n6 (by omega) (by omega))) <| zE (oXr ar32 6) <| zT (oSt sh30) <| zZ) ?_
  refine kx [(9, (vin 7))] [] (zE (oAd 7 (hr := by decide)) <| zM <| zZ) ?_
  refine pwp_again (SimImp.refl _) ?_
  refine pwp_seq <| kx [(10, (vb true))] [] (zE (oBk true oLt) <| zZ) ?_
  refine pwp_seq <| pwp_cond (b := true) (by kernel_rfl) (fun _ => ?_) (fun h => by cases h)
  refine pwp_skip <| pwp_seq <| pwp_block <| pwp_seq <| kx [(5, (vin 7)), (6, (vi n7))] [] (zM <| zE (oXa ar80 sh3 (fun _ => rfl) 7) <| zM <| zM <| zZ) ?_
  refine kx [] [(2, some (bx (encA31 (A9.mk (ofZ n0) (ofZ n1) (ofZ n2) (ofZ n3) (ofZ n4) (ofZ n5) (ofZ n6) (ofZ n7) (RInt.mk false [])))))] (zM <| zM <| zE (oCl (l_wholeI n7 (by omega) (by omega))) <| zE (oXr ar32 7) <| zT (oSt sh30) <| zZ) ?_
  refine kx [(9, (vin 8))] [] (zE (oAd 8 (hr := by decide)) <| zM <| zZ) ?_
  refine pwp_again (SimImp.refl _) ?_
  refine pwp_seq <| kx [(10, (vb true))] [] (zE (oBk true oLt) <| zZ) ?_
  refine pwp_seq <| pwp_cond (b := true) (by kernel_rfl) (fun _ => ?_) (fun h => by cases h)
  refine pwp_skip <| pwp_seq <| pwp_block <| pwp_seq <| kx [(5, (vin 8)), (6, (vi n8))] [] (zM <| zE (oXa ar80 sh3 (fun _ => rfl) 8) <| zM <| zM <| zZ) ?_
  refine kx [] [(2, some (bx (encA31 (A9.mk (ofZ n0) (ofZ n1) (ofZ n2) (ofZ n3) (ofZ n4) (ofZ n5) (ofZ n6) (ofZ n7) (ofZ n8)))))] (zM <| zM <| zE (oCl (l_wholeI n8 (by omega) (by omega))) <| zE (oXr ar32 8) <| zT (oSt sh30) <| zZ) ?_
  refine kx [(9, (vin 9))] [] (zE (oAd 9 (hr := by decide)) <| zM <| zZ) ?_
  refine pwp_again (SimImp.refl _) ?_
  refine pwp_seq <| kx [(10, (vb false))] [] (zE (oBk false oLt) <| zZ) ?_
  refine pwp_seq <| pwp_cond (b := false) (by kernel_rfl) (fun h => by cases h) (fun _ => ?_)
  refine pwp_exit <| pwp_seq ?_
  have bn1 : ∀ c ∈ [c0, c1, c2, c3, c4, c5, c6, c7, c8], IOk (ofZ c) c 3 := red_iok (n := 3) (.cons (iok_int (z := n0) (by omega) (by omega)) (.cons (iok_int (z := n1) (by omega) (by omega)) (.cons (iok_int (z := n2) (by omega) (by omega)) (.cons (iok_int (z := n3) (by omega) (by omega)) (.cons (iok_int (z := n4) (by omega) (by omega)) (.cons (iok_int (z := n5) (by omega) (by omega)) (.cons (iok_int (z := n6) (by omega) (by omega)) (.cons (iok_int (z := n7) (by omega) (by omega)) (.cons (iok_int (z := n8) (by omega) (by omega)) .nil))))))))) hc
  refine kx [(3, (vb true))] [(1, some (bx (encA31 (A9.mk (ofZ c0) (ofZ c1) (ofZ c2) (ofZ c3) (ofZ c4) (ofZ c5) (ofZ c6) (ofZ c7) (ofZ c8)))))] (zR (oLa sh32) <| zE (oCl (l_reduce (A9.mk (ofZ n0) (ofZ n1) (ofZ n2) (ofZ n3) (ofZ n4) (ofZ n5) (ofZ n6) (ofZ n7) (ofZ n8)) n0 n1 n2 n3 n4 n5 n6 n7 n8 (iok_up (iok_int (z := n0) (by omega) (by omega)) (by decide)) (iok_up (iok_int (z := n1) (by omega) (by omega)) (by decide)) (iok_up (iok_int (z := n2) (by omega) (by omega)) (by decide)) (iok_up (iok_int (z := n3) (by omega) (by omega)) (by decide)) (iok_up (iok_int (z := n4) (by omega) (by omega)) (by decide)) (iok_up (iok_int (z := n5) (by omega) (by omega)) (by decide)) (iok_up (iok_int (z := n6) (by omega) (by omega)) (by decide)) (iok_up (iok_int (z := n7) (by omega) (by omega)) (by decide)) (iok_up (iok_int (z := n8) (by omega) (by omega)) (by decide)) c0 c1 c2 c3 c4 c5 c6 c7 c8 hc hnz hd)) <| zE oEx <| zE oEx <| zT (oSt sh32) <| zM <| zZ) ?_
  refine pwp_ret ⟨_, (res_a (cs := (bx (encA31 (A9.mk (ofZ c0) (ofZ c1) (ofZ c2) (ofZ c3) (ofZ c4) (ofZ c5) (ofZ c6) (ofZ c7) (ofZ c8))))) (d := (encA31 (A9.mk (ofZ c0) (ofZ c1) (ofZ c2) (ofZ c3) (ofZ c4) (ofZ c5) (ofZ c6) (ofZ c7) (ofZ c8)))) rfl rfl sh32 rfl rfl (.tmp (d := (.val (.bool (true)))) rfl .nil)), ?_⟩
  rfl
theorem l_Reduced (a : Int) (hal : -1048576 ≤ a) (hah : a ≤ 1048576) (b : Int) (hbl : -1048576 ≤ b) (hbh : b ≤ 1048576) (d : Int) (hdl : -1048576 ≤ d) (hdh : d ≤ 1048576) (c0 c1 c2 : Int) (hc : redL [a, b, d] = [c0, c1, c2]) (hnz : sgnL [a, b, d] ≠ 0) : Takes Tryz.prog 63 [(.val (.int .i64 (a))), (.val (.int .i64 (b))), (.val (.int .i64 (d)))] (.tup [(encA43 (A3.mk (ofZ c0) (ofZ c1) (ofZ c2))), (.val (.bool (true)))]) := by
  refine fn_intro Tryz.func63 rfl cb63 rfl ?_
  show PWp _ _ _ _ ⟨[(0, (vi a)), (1, (vi b)), (2, (vi d))], []⟩
  refine pwp_seq <| kx [(6, (.ref 0 0))] [(0, some (bx (encA43 (A3.mk (RInt.mk false []) (RInt.mk false []) (RInt.mk false [])))))] (zN (oAl 0 ze44 zo44) <| zM <| zZ) ?_
  refine pwp_seq ?_
  have bn1 : ∀ c ∈ [c0, c1, c2], IOk (ofZ c) c 3 := red_iok (n := 3) (.cons (iok_int (z := a) (by omega) (by omega)) (.cons (iok_int (z := b) (by omega) (by omega)) (.cons (iok_int (z := d) (by omega) (by omega)) .nil))) hc
  refine kx [(7, (vb true))] [(0, some (bx (encA43 (A3.mk (ofZ c0) (ofZ c1) (ofZ c2)))))] (zM <| zE (oCl (l_wholeI a (by omega) (by omega))) <| zM <| zE (oCl (l_wholeI b (by omega) (by omega))) <| zM <| zE (oCl (l_wholeI d (by omega) (by omega))) <| zE (oBf ar44 ze44 zo44) <| zE (oCl (l_trip (A3.mk (ofZ a) (ofZ b) (ofZ d)) a b d (iok_up (iok_int (z := a) (by omega) (by omega)) (by decide)) (iok_up (iok_int (z := b) (by omega) (by omega)) (by decide)) (iok_up (iok_int (z := d) (by omega) (by omega)) (by decide)) c0 c1 c2 hc hnz)) <| zE oEx <| zE oEx <| zT (oSt sh44) <| zM <| zZ) ?_
  refine pwp_ret ⟨_, (res_a (cs := (bx (encA43 (A3.mk (ofZ c0) (ofZ c1) (ofZ c2))))) (d := (encA43 (A3.mk (ofZ c0) (ofZ c1) (ofZ c2)))) rfl rfl sh44 rfl rfl (.tmp (d := (.val (.bool (true)))) rfl .nil)), ?_⟩
  rfl
set_option maxHeartbeats 4000000 in
theorem l_known27  : Takes Tryz.prog 11 [] (.val (.bool (true))) := by
  let y1 := (A9.mk (ofZ 4) (ofZ 0) (ofZ 0) (ofZ 0) (ofZ 4) (ofZ 0) (ofZ (-1)) (ofZ (-1)) (ofZ 3))
  refine fn_intro Tryz.func11 rfl cb11 rfl ?_
  show PWp _ _ _ _ ⟨[], []⟩
  refine pwp_seq <| kx [] [] (zM <| zZ) ?_
  refine pwp_seq <| kx [(1, (.ref 0 0))] [(0, some (bx (encA31 (A9.mk (ofZ 1) (ofZ 0) (ofZ 32) (ofZ 0) (ofZ 1) (ofZ 0) (ofZ 0) (ofZ 0) (ofZ 1)))))] (zE (oBf ar80 ze80 zo80) <| zE (oCl (l_made ((1 : Nat) : Int) ((0 : Nat) : Int) ((32 : Nat) : Int) ((0 : Nat) : Int) ((1 : Nat) : Int) ((0 : Nat) : Int) ((0 : Nat) : Int) ((0 : Nat) : Int) ((1 : Nat) : Int) (by omega) (by omega) (by omega) (by omega) (by omega) (by omega) (by omega) (by omega) (by omega) 1 0 32 0 1 0 0 0 1 (by decide +kernel) (by decide +kernel) (by decide +kernel))) <| zM <| zE oEx <| zE oEx <| zN (oAl 0 ze32 zo32) <| zT (oSt sh32) <| zM <| zZ) ?_
  refine pwp_seq <| kx [(3, (.ref 1 0))] [(1, some (bx (encA43 (A3.mk (ofZ 1) (ofZ 2) (ofZ 1)))))] (zE (oCl (l_Reduced ((1 : Nat) : Int) (by omega) (by omega) ((2 : Nat) : Int) (by omega) (by omega) ((1 : Nat) : Int) (by omega) (by omega) 1 2 1 (by decide +kernel) (by decide +kernel))) <| zM <| zE oEx <| zE oEx <| zN (oAl 1 ze44 zo44) <| zT (oSt sh44) <| zM <| zZ) ?_
  refine pwp_seq <| kx [(5, (.ref 2 0))] [(2, some (bx (encA43 (A3.mk (ofZ 33) (ofZ 2) (ofZ 1)))))] (zE (oCl (l_Reduced ((33 : Nat) : Int) (by omega) (by omega) ((2 : Nat) : Int) (by omega) (by omega) ((1 : Nat) : Int) (by omega) (by omega) 33 2 1 (by decide +kernel) (by decide +kernel))) <| zM <| zE oEx <| zE oEx <| zN (oAl 2 ze44 zo44) <| zT (oSt sh44) <| zM <| zZ) ?_
  refine pwp_seq <| kx [(7, (.ref 3 0)), (8, (vi 0))] [(3, some (bx (encA43 (A3.mk (ofZ 33) (ofZ 2) (ofZ 1)))))] (zR (oLa sh32) <| zR (oLa sh44) <| zE (oCl (d_apply (A9.mk (ofZ 1) (ofZ 0) (ofZ 32) (ofZ 0) (ofZ 1) (ofZ 0) (ofZ 0) (ofZ 0) (ofZ 1)) 1 0 32 0 1 0 0 0 1 (iok_up (iok_small (z := 1) (by decide)) (by decide)) (iok_up (iok_small (z := 0) (by decide)) (by decide)) (iok_up (iok_small (z := 32) (by decide)) (by decide)) (iok_up (iok_small (z := 0) (by decide)) (by decide)) (iok_up (iok_small (z := 1) (by decide)) (by decide)) (iok_up (iok_small (z := 0) (by decide)) (by decide)) (iok_up (iok_small (z := 0) (by decide)) (by decide)) (iok_up (iok_small (z := 0) (by decide)) (by decide)) (iok_up (iok_small (z := 1) (by decide)) (by decide)) (A3.mk (ofZ 1) (ofZ 2) (ofZ 1)) 1 2 1 (iok_up (iok_small (z := 1) (by decide)) (by decide)) (iok_up (iok_small (z := 2) (by decide)) (by decide)) (iok_up (iok_small (z := 1) (by decide)) (by decide)) 33 2 1 (by decide +kernel) (valH_closed [1, 0, 32, 0, 1, 0, 0, 0, 1] _ (by decide +kernel)) (redB_closed [1, 2, 1] (by decide +kernel)) (by decide +kernel))) <| zM <| zE oEx <| zE oEx <| zN (oAl 3 ze44 zo44) <| zT (oSt sh44) <| zM <| zZ) ?_
  refine pwp_seq <| kx [(9, (.ref 4 0)), (10, (vi 0))] [(4, some (bx (encA31 y1)))] (zE (oBd pl25 ze25 zo25) <| zE (oBd pl23 ze23 zo23) <| zE (oBd pl23 ze23 zo23) <| zE (oBd pl25 ze25 zo25) <| zE (oBd pl23 ze23 zo23) <| zE (oBd pl23 ze23 zo23) <| zE (oBd pl25 ze25 zo25) <| zE (oBd pl23 ze23 zo23) <| zE (oBd pl23 ze23 zo23) <| zE (oBd pl25 ze25 zo25) <| zE (oBf ar26 ze26 zo26) <| zE (oCl (d_four 0 0 0 0 ((1 : Nat) : Int) 0 ((2 : Nat) : Int) 0 0 ((1 : Nat) : Int) 0 ((2 : Nat) : Int) ((1 : Nat) : Int) ((1 : Nat) : Int) ((4 : Nat) : Int) ((4 : Nat) : Int) (by omega) (by omega) (by omega) (by omega) (by omega) (by omega) (by omega) (by omega) (by omega) (by omega) (by omega) (by omega) (by omega) (by omega) (by omega) (by omega) (-1) (by decide +kernel) 1 (by decide +kernel) 1 (by decide +kernel) 1 (by decide +kernel) (-12) (by decide +kernel) 8 (by decide +kernel) 8 (by decide +kernel) 4 (by decide +kernel) 0 (by decide +kernel) 1 (by decide +kernel) 0 (by decide +kernel) 0 (by decide +kernel) 0 (by decide +kernel) 1 (by decide +kernel) (-1) (by decide +kernel) 1 (by decide +kernel) 1 (by decide +kernel) 0 (by decide +kernel) 16 (by decide +kernel) 0 (by decide +kernel) 0 (by decide +kernel) 0 (by decide +kernel) 16 (by decide +kernel) (-12) (by decide +kernel) 8 (by decide +kernel) 8 (by decide +kernel) 4 0 0 0 4 0 (-1) (-1) 3 (by decide +kernel) (by decide +kernel) (by decide +kernel) (by decide +kernel) (by decide +kernel) (by decide +kernel) (by decide +kernel) (by decide +kernel) (by decide +kernel) (by decide +kernel))) <| zM <| zE oEx <| zE oEx <| zN (oAl 4 ze32 zo32) <| zT (oSt sh32) <| zM <| zZ) ?_
  refine pwp_seq <| kx [(11, (.ref 5 0))] [(5, some (bx (encA31 y1)))] (zE (oBf ar80 ze80 zo80) <| zE (oCl (l_made ((4 : Nat) : Int) ((0 : Nat) : Int) ((0 : Nat) : Int) ((0 : Nat) : Int) ((4 : Nat) : Int) ((0 : Nat) : Int) (-1) (-1) ((3 : Nat) : Int) (by omega) (by omega) (by omega) (by omega) (by omega) (by omega) (by omega) (by omega) (by omega) 4 0 0 0 4 0 (-1) (-1) 3 (by decide +kernel) (by decide +kernel) (by decide +kernel))) <| zM <| zE oEx <| zE oEx <| zN (oAl 5 ze32 zo32) <| zT (oSt sh32) <| zM <| zZ) ?_
  refine pwp_seq <| kx [(0, (vb true))] [] (zM <| zE oEq <| zM <| zM <| zE oEq <| zE oPt <| zM <| zR (oLa sh44) <| zR (oLa sh44) <| zE (oCl (l_sameT3 (A3.mk (ofZ 33) (ofZ 2) (ofZ 1)) 33 2 1 (iok_up (iok_small (z := 33) (by decide)) (by decide)) (iok_up (iok_small (z := 2) (by decide)) (by decide)) (iok_up (iok_small (z := 1) (by decide)) (by decide)) (A3.mk (ofZ 33) (ofZ 2) (ofZ 1)) 33 2 1 (iok_up (iok_small (z := 33) (by decide)) (by decide)) (iok_up (iok_small (z := 2) (by decide)) (by decide)) (iok_up (iok_small (z := 1) (by decide)) (by decide)) (validI_ofZ _) (validI_ofZ _) (validI_ofZ _) (sameI_self _) (sameI_self _) (sameI_self _))) <| zE oPt <| zM <| zR (oLa sh32) <| zR (oLa sh32) <| zE (oCl (l_sameT9 y1 4 0 0 0 4 0 (-1) (-1) 3 (iok_up (iok_small (z := 4) (by decide)) (by decide)) (iok_up (iok_small (z := 0) (by decide)) (by decide)) (iok_up (iok_small (z := 0) (by decide)) (by decide)) (iok_up (iok_small (z := 0) (by decide)) (by decide)) (iok_up (iok_small (z := 4) (by decide)) (by decide)) (iok_up (iok_small (z := 0) (by decide)) (by decide)) (iok_up (iok_small (z := (-1)) (by decide)) (by decide)) (iok_up (iok_small (z := (-1)) (by decide)) (by decide)) (iok_up (iok_small (z := 3) (by decide)) (by decide)) y1 4 0 0 0 4 0 (-1) (-1) 3 (iok_up (iok_small (z := 4) (by decide)) (by decide)) (iok_up (iok_small (z := 0) (by decide)) (by decide)) (iok_up (iok_small (z := 0) (by decide)) (by decide)) (iok_up (iok_small (z := 0) (by decide)) (by decide)) (iok_up (iok_small (z := 4) (by decide)) (by decide)) (iok_up (iok_small (z := 0) (by decide)) (by decide)) (iok_up (iok_small (z := (-1)) (by decide)) (by decide)) (iok_up (iok_small (z := (-1)) (by decide)) (by decide)) (iok_up (iok_small (z := 3) (by decide)) (by decide)) (validI_ofZ _) (validI_ofZ _) (validI_ofZ _) (validI_ofZ _) (validI_ofZ _) (validI_ofZ _) (validI_ofZ _) (validI_ofZ _) (validI_ofZ _) (sameI_self _) (sameI_self _) (sameI_self _) (sameI_self _) (sameI_self _) (sameI_self _) (sameI_self _) (sameI_self _) (sameI_self _))) <| zE oPt <| zM <| zR (oLa sh32) <| zE (oBk true (oCl (d_valid (A9.mk (ofZ 1) (ofZ 0) (ofZ 32) (ofZ 0) (ofZ 1) (ofZ 0) (ofZ 0) (ofZ 0) (ofZ 1)) 1 0 32 0 1 0 0 0 1 (iok_up (iok_small (z := 1) (by decide)) (by decide)) (iok_up (iok_small (z := 0) (by decide)) (by decide)) (iok_up (iok_small (z := 32) (by decide)) (by decide)) (iok_up (iok_small (z := 0) (by decide)) (by decide)) (iok_up (iok_small (z := 1) (by decide)) (by decide)) (iok_up (iok_small (z := 0) (by decide)) (by decide)) (iok_up (iok_small (z := 0) (by decide)) (by decide)) (iok_up (iok_small (z := 0) (by decide)) (by decide)) (iok_up (iok_small (z := 1) (by decide)) (by decide)))) (by exact (valH_closed [1, 0, 32, 0, 1, 0, 0, 0, 1] _ (by decide +kernel)))) <| zE oPt <| zM <| zE (oBa ar44 ze44 zo44) <| zE (oBk false (oCl (d_proper (A3.mk (RInt.mk false []) (RInt.mk false []) (RInt.mk false [])) 0 0 0 (iu iok_zero) (iu iok_zero) (iu iok_zero))) (by exact (by decide +kernel))) <| zE oNt <| zE oPt <| zM <| zZ) ?_
  refine pwp_ret ⟨_, (.tmp (d := (.val (.bool (true)))) rfl .nil), ?_⟩
  rfl
theorem l_map1 (h : A9 RInt) (h0 h1 h2 h3 h4 h5 h6 h7 h8 : Int) (hh0 : IOk h.a0 h0 140737488355328) (hh1 : IOk h.a1 h1 140737488355328) (hh2 : IOk h.a2 h2 140737488355328) (hh3 : IOk h.a3 h3 140737488355328) (hh4 : IOk h.a4 h4 140737488355328) (hh5 : IOk h.a5 h5 140737488355328) (hh6 : IOk h.a6 h6 140737488355328) (hh7 : IOk h.a7 h7 140737488355328) (hh8 : IOk h.a8 h8 140737488355328) : Takes Tryz.prog 20 [(encA31 h)] (.sl 32 18 (List.map encA31 [h])) := by
  refine fn_intro Tryz.func20 rfl cb20 rfl ?_
  show PWp _ _ _ _ ⟨[(0, (.d (encA31 h)))], []⟩
  refine pwp_seq <| kx [(1, (.ref 0 0))] [(0, some (bx (encA31 h)))] (zN (oBx 0) <| zE (oNl 32 18) <| zZ) ?_
  refine pwp_seq <| kx [(2, (vl 32 18 encA31 [h]))] [] (zR (oLa sh32) <| zE (oBs el49 ze32 zo32) <| zM <| zZ) ?_
  refine pwp_ret ⟨_, (.tmp (d := (.sl 32 18 (List.map encA31 [h]))) rfl .nil), ?_⟩
  rfl
theorem l_briefT11 (h : A9 RInt) (h0 h1 h2 h3 h4 h5 h6 h7 h8 : Int) (hh0 : IOk h.a0 h0 140737488355328) (hh1 : IOk h.a1 h1 140737488355328) (hh2 : IOk h.a2 h2 140737488355328) (hh3 : IOk h.a3 h3 140737488355328) (hh4 : IOk h.a4 h4 140737488355328) (hh5 : IOk h.a5 h5 140737488355328) (hh6 : IOk h.a6 h6 140737488355328) (hh7 : IOk h.a7 h7 140737488355328) (hh8 : IOk h.a8 h8 140737488355328) (p : A3 RInt) (p0 p1 p2 : Int) (hp0 : IOk p.a0 p0 140737488355328) (hp1 : IOk p.a1 p1 140737488355328) (hp2 : IOk p.a2 p2 140737488355328) (hb0 : List.all [h.a0, h.a1, h.a2, h.a3, h.a4, h.a5, h.a6, h.a7, h.a8] short4 = true) (hb1 : List.all [p.a0, p.a1, p.a2] short4 = true) : Takes Tryz.prog 19 [(.sl 32 18 (List.map encA31 [h])), (.sl 44 6 (List.map encA43 [p]))] (.val (.bool (true))) := by
  refine fn_intro Tryz.func19 rfl cb19 rfl ?_
  show PWp _ _ _ _ ⟨[(0, (vl 32 18 encA31 [h])), (1, (vl 44 6 encA43 [p]))], []⟩
  refine pwp_seq <| kx [] [] (zM <| zZ) ?_
  refine pwp_seq <| pwp_seq <| kx [(9, (vl 32 18 encA31 [h])), (10, (vin 1)), (11, (vin 0))] [] (zM <| zE (oLn el49 1) <| zM <| zZ) ?_
  refine pwp_block <| pwp_rounds 20 ?_
  refine pwp_round <| pwp_seq <| kx [(12, (vb true))] [] (zE (oBk true oLt) <| zZ) ?_
  refine pwp_seq <| pwp_cond (b := true) (by kernel_rfl) (fun _ => ?_) (fun h => by cases h)
  refine pwp_skip <| pwp_seq <| pwp_block <| pwp_seq <| kx [(6, (.ref 0 0))] [(0, some (bx (encA31 h)))] (zE (oXs el49 0) <| zE (oCa sh32) <| zN (oAl 0 ze32 zo32) <| zT (oSt sh32) <| zZ) ?_
  refine pwp_seq <| kx [(17, (vb false))] [] (zE (e_slv (by exact rfl) ar32 (by exact rfl) (by kernel_rfl) (by kernel_rfl)) <| zR ⟨(bx (encA31 h)), e_clv (es := List.map encI [h.a0, h.a1, h.a2, h.a3, h.a4, h.a5, h.a6, h.a7, h.a8]) (l_short4 1000000 [h.a0, h.a1, h.a2, h.a3, h.a4, h.a5, h.a6, h.a7, h.a8] [h0, h1, h2, h3, h4, h5, h6, h7, h8] (.cons hh0 (.cons hh1 (.cons hh2 (.cons hh3 (.cons hh4 (.cons hh5 (.cons hh6 (.cons hh7 (.cons hh8 .nil))))))))) (Nat.le_of_ble_eq_true rfl)) (by exact rfl) (by kernel_rfl) (by exact rfl) (.v .nil) (pubs_cells _ _ (fun _ => rfl)) (by kernel_rfl) (by kernel_rfl) (.val _), by kernel_rfl⟩ <| zE (oBk false oNt (by exact congrArg (!·) hb0)) <| zZ) ?_
  refine pwp_cond (b := false) (by kernel_rfl) (fun h => by cases h) (fun _ => ?_)
  refine pwp_skip <| kx [(11, (vin 1))] [] (zE (oAd 1 (hr := by decide)) <| zM <| zZ) ?_
  refine pwp_again (SimImp.refl _) ?_
  refine pwp_seq <| kx [(12, (vb false))] [] (zE (oBk false oLt) <| zZ) ?_
  refine pwp_seq <| pwp_cond (b := false) (by kernel_rfl) (fun h => by cases h) (fun _ => ?_)
  refine pwp_exit <| pwp_seq <| pwp_seq <| kx [(19, (vl 44 6 encA43 [p])), (20, (vin 1)), (21, (vin 0))] [] (zM <| zE (oLn el65 1) <| zM <| zZ) ?_
  refine pwp_block <| pwp_rounds 20 ?_
  refine pwp_round <| pwp_seq <| kx [(22, (vb true))] [] (zE (oBk true oLt) <| zZ) ?_
  refine pwp_seq <| pwp_cond (b := true) (by kernel_rfl) (fun _ => ?_) (fun h => by cases h)
  refine pwp_skip <| pwp_seq <| pwp_block <| pwp_seq <| kx [(8, (.ref 1 0))] [(1, some (bx (encA43 p)))] (zE (oXs el65 0) <| zE (oCa sh44) <| zN (oAl 1 ze44 zo44) <| zT (oSt sh44) <| zZ) ?_
  refine pwp_seq <| kx [(27, (vb false))] [] (zE (e_slv (by exact rfl) ar44 (by exact rfl) (by kernel_rfl) (by kernel_rfl)) <| zR ⟨(bx (encA43 p)), e_clv (es := List.map encI [p.a0, p.a1, p.a2]) (l_short4 1000000 [p.a0, p.a1, p.a2] [p0, p1, p2] (.cons hp0 (.cons hp1 (.cons hp2 .nil))) (Nat.le_of_ble_eq_true rfl)) (by exact rfl) (by kernel_rfl) (by exact rfl) (.v .nil) (pubs_cells _ _ (fun _ => rfl)) (by kernel_rfl) (by kernel_rfl) (.val _), by kernel_rfl⟩ <| zE (oBk false oNt (by exact congrArg (!·) hb1)) <| zZ) ?_
  refine pwp_cond (b := false) (by kernel_rfl) (fun h => by cases h) (fun _ => ?_)
  refine pwp_skip <| kx [(21, (vin 1))] [] (zE (oAd 1 (hr := by decide)) <| zM <| zZ) ?_
  refine pwp_again (SimImp.refl _) ?_
  refine pwp_seq <| kx [(22, (vb false))] [] (zE (oBk false oLt) <| zZ) ?_
  refine pwp_seq <| pwp_cond (b := false) (by kernel_rfl) (fun h => by cases h) (fun _ => ?_)
  refine pwp_exit <| pwp_seq <| kx [(4, (vb true))] [] (zM <| zZ) ?_
  refine pwp_ret ⟨_, (.tmp (d := (.val (.bool (true)))) rfl .nil), ?_⟩
  rfl
theorem l_briefF11_0 (h : A9 RInt) (h0 h1 h2 h3 h4 h5 h6 h7 h8 : Int) (hh0 : IOk h.a0 h0 140737488355328) (hh1 : IOk h.a1 h1 140737488355328) (hh2 : IOk h.a2 h2 140737488355328) (hh3 : IOk h.a3 h3 140737488355328) (hh4 : IOk h.a4 h4 140737488355328) (hh5 : IOk h.a5 h5 140737488355328) (hh6 : IOk h.a6 h6 140737488355328) (hh7 : IOk h.a7 h7 140737488355328) (hh8 : IOk h.a8 h8 140737488355328) (p : A3 RInt) (p0 p1 p2 : Int) (hp0 : IOk p.a0 p0 140737488355328) (hp1 : IOk p.a1 p1 140737488355328) (hp2 : IOk p.a2 p2 140737488355328) (hbx : List.all [h.a0, h.a1, h.a2, h.a3, h.a4, h.a5, h.a6, h.a7, h.a8] short4 = false) : Takes Tryz.prog 19 [(.sl 32 18 (List.map encA31 [h])), (.sl 44 6 (List.map encA43 [p]))] (.val (.bool (false))) := by
  refine fn_intro Tryz.func19 rfl cb19 rfl ?_
  show PWp _ _ _ _ ⟨[(0, (vl 32 18 encA31 [h])), (1, (vl 44 6 encA43 [p]))], []⟩
  refine pwp_seq <| kx [] [] (zM <| zZ) ?_
  refine pwp_seq <| pwp_seq <| kx [(9, (vl 32 18 encA31 [h])), (10, (vin 1)), (11, (vin 0))] [] (zM <| zE (oLn el49 1) <| zM <| zZ) ?_
  refine pwp_block <| pwp_rounds 20 ?_
  refine pwp_round <| pwp_seq <| kx [(12, (vb true))] [] (zE (oBk true oLt) <| zZ) ?_
  refine pwp_seq <| pwp_cond (b := true) (by kernel_rfl) (fun _ => ?_) (fun h => by cases h)
  refine pwp_skip <| pwp_seq <| pwp_block <| pwp_seq <| kx [(6, (.ref 0 0))] [(0, some (bx (encA31 h)))] (zE (oXs el49 0) <| zE (oCa sh32) <| zN (oAl 0 ze32 zo32) <| zT (oSt sh32) <| zZ) ?_
  refine pwp_seq <| kx [(17, (vb true))] [] (zE (e_slv (by exact rfl) ar32 (by exact rfl) (by kernel_rfl) (by kernel_rfl)) <| zR ⟨(bx (encA31 h)), e_clv (es := List.map encI [h.a0, h.a1, h.a2, h.a3, h.a4, h.a5, h.a6, h.a7, h.a8]) (l_short4 1000000 [h.a0, h.a1, h.a2, h.a3, h.a4, h.a5, h.a6, h.a7, h.a8] [h0, h1, h2, h3, h4, h5, h6, h7, h8] (.cons hh0 (.cons hh1 (.cons hh2 (.cons hh3 (.cons hh4 (.cons hh5 (.cons hh6 (.cons hh7 (.cons hh8 .nil))))))))) (Nat.le_of_ble_eq_true rfl)) (by exact rfl) (by kernel_rfl) (by exact rfl) (.v .nil) (pubs_cells _ _ (fun _ => rfl)) (by kernel_rfl) (by kernel_rfl) (.val _), by kernel_rfl⟩ <| zE (oBk true oNt (by exact congrArg (!·) hbx)) <| zZ) ?_
  refine pwp_cond (b := true) (by kernel_rfl) (fun _ => ?_) (fun h => by cases h)
  refine pwp_seq <| kx [(4, (vb false))] [] (zM <| zZ) ?_
  refine pwp_ret ⟨_, (.tmp (d := (.val (.bool (false)))) rfl .nil), ?_⟩
  rfl
theorem l_briefF11_1 (h : A9 RInt) (h0 h1 h2 h3 h4 h5 h6 h7 h8 : Int) (hh0 : IOk h.a0 h0 140737488355328) (hh1 : IOk h.a1 h1 140737488355328) (hh2 : IOk h.a2 h2 140737488355328) (hh3 : IOk h.a3 h3 140737488355328) (hh4 : IOk h.a4 h4 140737488355328) (hh5 : IOk h.a5 h5 140737488355328) (hh6 : IOk h.a6 h6 140737488355328) (hh7 : IOk h.a7 h7 140737488355328) (hh8 : IOk h.a8 h8 140737488355328) (p : A3 RInt) (p0 p1 p2 : Int) (hp0 : IOk p.a0 p0 140737488355328) (hp1 : IOk p.a1 p1 140737488355328) (hp2 : IOk p.a2 p2 140737488355328) (hb0 : List.all [h.a0, h.a1, h.a2, h.a3, h.a4, h.a5, h.a6, h.a7, h.a8] short4 = true) (hbx : List.all [p.a0, p.a1, p.a2] short4 = false) : Takes Tryz.prog 19 [(.sl 32 18 (List.map encA31 [h])), (.sl 44 6 (List.map encA43 [p]))] (.val (.bool (false))) := by
  refine fn_intro Tryz.func19 rfl cb19 rfl ?_
  show PWp _ _ _ _ ⟨[(0, (vl 32 18 encA31 [h])), (1, (vl 44 6 encA43 [p]))], []⟩
  refine pwp_seq <| kx [] [] (zM <| zZ) ?_
  refine pwp_seq <| pwp_seq <| kx [(9, (vl 32 18 encA31 [h])), (10, (vin 1)), (11, (vin 0))] [] (zM <| zE (oLn el49 1) <| zM <| zZ) ?_
  refine pwp_block <| pwp_rounds 20 ?_
  refine pwp_round <| pwp_seq <| kx [(12, (vb true))] [] (zE (oBk true oLt) <| zZ) ?_
  refine pwp_seq <| pwp_cond (b := true) (by kernel_rfl) (fun _ => ?_) (fun h => by cases h)
  refine pwp_skip <| pwp_seq <| pwp_block <| pwp_seq <| kx [(6, (.ref 0 0))] [(0, some (bx (encA31 h)))] (zE (oXs el49 0) <| zE (oCa sh32) <| zN (oAl 0 ze32 zo32) <| zT (oSt sh32) <| zZ) ?_
  refine pwp_seq <| kx [(17, (vb false))] [] (zE (e_slv (by exact rfl) ar32 (by exact rfl) (by kernel_rfl) (by kernel_rfl)) <| zR ⟨(bx (encA31 h)), e_clv (es := List.map encI [h.a0, h.a1, h.a2, h.a3, h.a4, h.a5, h.a6, h.a7, h.a8]) (l_short4 1000000 [h.a0, h.a1, h.a2, h.a3, h.a4, h.a5, h.a6, h.a7, h.a8] [h0, h1, h2, h3, h4, h5, h6, h7, h8] (.cons hh0 (.cons hh1 (.cons hh2 (.cons hh3 (.cons hh4 (.cons hh5 (.cons hh6 (.cons hh7 (.cons hh8 .nil))))))))) (Nat.le_of_ble_eq_true rfl)) (by exact rfl) (by kernel_rfl) (by exact rfl) (.v .nil) (pubs_cells _ _ (fun _ => rfl)) (by kernel_rfl) (by kernel_rfl) (.val _), by kernel_rfl⟩ <| zE (oBk false oNt (by exact congrArg (!·) hb0)) <| zZ) ?_
  refine pwp_cond (b := false) (by kernel_rfl) (fun h => by cases h) (fun _ => ?_)
  refine pwp_skip <| kx [(11, (vin 1))] [] (zE (oAd 1 (hr := by decide)) <| zM <| zZ) ?_
  refine pwp_again (SimImp.refl _) ?_
  refine pwp_seq <| kx [(12, (vb false))] [] (zE (oBk false oLt) <| zZ) ?_
  refine pwp_seq <| pwp_cond (b := false) (by kernel_rfl) (fun h => by cases h) (fun _ => ?_)
  refine pwp_exit <| pwp_seq <| pwp_seq <| kx [(19, (vl 44 6 encA43 [p])), (20, (vin 1)), (21, (vin 0))] [] (zM <| zE (oLn el65 1) <| zM <| zZ) ?_
  refine pwp_block <| pwp_rounds 20 ?_
  refine pwp_round <| pwp_seq <| kx [(22, (vb true))] [] (zE (oBk true oLt) <| zZ) ?_
  refine pwp_seq <| pwp_cond (b := true) (by kernel_rfl) (fun _ => ?_) (fun h => by cases h)
  refine pwp_skip <| pwp_seq <| pwp_block <| pwp_seq <| kx [(8, (.ref 1 0))] [(1, some (bx (encA43 p)))] (zE (oXs el65 0) <| zE (oCa sh44) <| zN (oAl 1 ze44 zo44) <| zT (oSt sh44) <| zZ) ?_
  refine pwp_seq <| kx [(27, (vb true))] [] (zE (e_slv (by exact rfl) ar44 (by exact rfl) (by kernel_rfl) (by kernel_rfl)) <| zR ⟨(bx (encA43 p)), e_clv (es := List.map encI [p.a0, p.a1, p.a2]) (l_short4 1000000 [p.a0, p.a1, p.a2] [p0, p1, p2] (.cons hp0 (.cons hp1 (.cons hp2 .nil))) (Nat.le_of_ble_eq_true rfl)) (by exact rfl) (by kernel_rfl) (by exact rfl) (.v .nil) (pubs_cells _ _ (fun _ => rfl)) (by kernel_rfl) (by kernel_rfl) (.val _), by kernel_rfl⟩ <| zE (oBk true oNt (by exact congrArg (!·) hbx)) <| zZ) ?_
  refine pwp_cond (b := true) (by kernel_rfl) (fun _ => ?_) (fun h => by cases h)
  refine pwp_seq <| kx [(4, (vb false))] [] (zM <| zZ) ?_
  refine pwp_ret ⟨_, (.tmp (d := (.val (.bool (false)))) rfl .nil), ?_⟩
  rfl
end Go.Proofs.YtadkkhdnccljcaaGreat
namespace Go.Proofs.YtadkkhdnccljcaaGreat
open Go.Fid
set_option maxRecDepth 4000
set_option linter.unusedVariables false
set_option linter.unusedSimpArgs false
theorem cb31 : callB Tryz.prog 31 = true := by kernel_rfl
theorem d_ident  : Takes Tryz.prog 31 [] (encA31 (A9.mk (ofZ 1) (ofZ 0) (ofZ 0) (ofZ 0) (ofZ 1) (ofZ 0) (ofZ 0) (ofZ 0) (ofZ 1))) := by
  let y2 := (bx (encA31 (A9.mk (ofZ 1) (ofZ 0) (RInt.mk false []) (RInt.mk false []) (RInt.mk false []) (RInt.mk false []) (RInt.mk false []) (RInt.mk false []) (RInt.mk false []))))
  let y1 := (bx (encA31 (A9.mk (RInt.mk false []) (RInt.mk false []) (RInt.mk false []) (RInt.mk false []) (RInt.mk false []) (RInt.mk false []) (RInt.mk false []) (RInt.mk false []) (RInt.mk false []))))
  refine fn_intro Tryz.func31 rfl cb31 rfl ?_
  show PWp _ _ _ _ ⟨[], []⟩
  refine pwp_seq <| kx [(0, (.ref 0 0))] [(0, some y1)] (zN (oAl 0 ze32 zo32) <| zZ) ?_
  refine pwp_seq <| kx [(1, (.ref 1 0))] [(1, some y1)] (zN (oAl 1 ze32 zo32) <| zZ) ?_
  refine pwp_seq <| pwp_seq <| kx [(3, (vin 0))] [] (zM <| zZ) ?_
  refine pwp_block <| pwp_rounds 20 ?_
  refine pwp_round <| pwp_seq <| kx [(4, (vb true))] [] (zE (oBk true oLt) <| zZ) ?_
  refine pwp_seq <| pwp_cond (b := true) (by kernel_rfl) (fun _ => ?_) (fun h => by cases h)
  refine pwp_skip <| pwp_seq <| pwp_block <| pwp_seq <| kx [(2, (vin 0))] [] (zM <| zM <| zZ) ?_
  refine pwp_seq <| kx [] [(1, some (bx (encA31 (A9.mk (ofZ 0) (RInt.mk false []) (RInt.mk false []) (RInt.mk false []) (RInt.mk false []) (RInt.mk false []) (RInt.mk false []) (RInt.mk false []) (RInt.mk false [])))))] (zM <| zE (oCl (t_of 0 (by decide) (by decide))) <| zE (oXr ar32 0) <| zT (oSt sh30) <| zZ) ?_
  refine pwp_seq <| kx [(11, (vb true))] [] (zM <| zE (oRe 0 (hr := by decide)) <| zE oEq <| zZ) ?_
  refine pwp_cond (b := true) (by kernel_rfl) (fun _ => ?_) (fun h => by cases h)
  refine kx [] [(1, some (bx (encA31 (A9.mk (ofZ 1) (RInt.mk false []) (RInt.mk false []) (RInt.mk false []) (RInt.mk false []) (RInt.mk false []) (RInt.mk false []) (RInt.mk false []) (RInt.mk false [])))))] (zM <| zE (oCl (t_of 1 (by decide) (by decide))) <| zE (oXr ar32 0) <| zT (oSt sh30) <| zZ) ?_
  refine kx [(3, (vin 1))] [] (zE (oAd 1 (hr := by decide)) <| zM <| zZ) ?_
  refine pwp_again (SimImp.refl _) ?_
  refine pwp_seq <| kx [(4, (vb true))] [] (zE (oBk true oLt) <| zZ) ?_
  refine pwp_seq <| pwp_cond (b := true) (by kernel_rfl) (fun _ => ?_) (fun h => by cases h)
  refine pwp_skip <| pwp_seq <| pwp_block <| pwp_seq <| kx [(2, (vin 1))] [] (zM <| zM <| zZ) ?_
  refine pwp_seq <| kx [] [(1, some y2)] (zM <| zE (oCl (t_of 0 (by decide) (by decide))) <| zE (oXr ar32 1) <| zT (oSt sh30) <| zZ) ?_
  refine pwp_seq <| kx [(11, (vb false))] [] (zM <| zE (oRe 1 (hr := by decide)) <| zE oEq <| zZ) ?_
  refine pwp_cond (b := false) (by kernel_rfl) (fun h => by cases h) (fun _ => ?_)
  refine pwp_skip <| kx [(3, (vin 2))] [] (zE (oAd 2 (hr := by decide)) <| zM <| zZ) ?_
  refine pwp_again (SimImp.refl _) ?_
  refine pwp_seq <| pwp_sim (wk (l := [(0, (.ref 0 0)), (1, (.ref 1 0)), (3, (vin 2))]) (b := [(0, some y1), (1, some y2)])) ?_
  refine kx [(4, (vb true))] [] (zE (oBk true oLt) <| zZ) ?_
  refine pwp_seq <| pwp_cond (b := true) (by kernel_rfl) (fun _ => ?_) (fun h => by cases h)
  refine pwp_skip <| pwp_seq <| pwp_block <| pwp_seq <| kx [(2, (vin 2))] [] (zM <| zM <| zZ) ?_
  refine pwp_seq <| kx [] [(1, some (bx (encA31 (A9.mk (ofZ 1) (ofZ 0) (ofZ 0) (RInt.mk false []) (RInt.mk false []) (RInt.mk false []) (RInt.mk false []) (RInt.mk false []) (RInt.mk false [])))))] (zM <| zE (oCl (t_of 0 (by decide) (by decide))) <| zE (oXr ar32 2) <| zT (oSt sh30) <| zZ) ?_
  refine pwp_seq <| kx [(11, (vb false))] [] (zM <| zE (oRe 2 (hr := by decide)) <| zE oEq <| zZ) ?_
  refine pwp_cond (b := false) (by kernel_rfl) (fun h => by cases h) (fun _ => ?_)
  refine pwp_skip <| kx [(3, (vin 3))] [] (zE (oAd 3 (hr := by decide)) <| zM <| zZ) ?_
  refine pwp_again (SimImp.refl _) ?_
  refine pwp_seq <| kx [(4, (vb true))] [] (zE (oBk true oLt) <| zZ) ?_
  refine pwp_seq <| pwp_cond (b := true) (by kernel_rfl) (fun _ => ?_) (fun h => by cases h)
  refine pwp_skip <| pwp_seq <| pwp_block <| pwp_seq <| kx [(2, (vin 3))] [] (zM <| zM <| zZ) ?_
  refine pwp_seq <| kx [] [(1, some (bx (encA31 (A9.mk (ofZ 1) (ofZ 0) (ofZ 0) (ofZ 0) (RInt.mk false []) (RInt.mk false []) (RInt.mk false []) (RInt.mk false []) (RInt.mk false [])))))] (zM <| zE (oCl (t_of 0 (by decide) (by decide))) <| zE (oXr ar32 3) <| zT (oSt sh30) <| zZ) ?_
  refine pwp_seq <| kx [(11, (vb false))] [] (zM <| zE (oRe 3 (hr := by decide)) <| zE oEq <| zZ) ?_
  refine pwp_cond (b := false) (by kernel_rfl) (fun h => by cases h) (fun _ => ?_)
  refine pwp_skip <| kx [(3, (vin 4))] [] (zE (oAd 4 (hr := by decide)) <| zM <| zZ) ?_
  refine pwp_again (SimImp.refl _) ?_
  refine pwp_seq <| kx [(4, (vb true))] [] (zE (oBk true oLt) <| zZ) ?_
  refine pwp_seq <| pwp_cond (b := true) (by kernel_rfl) (fun _ => ?_) (fun h => by cases h)
  refine pwp_skip <| pwp_seq <| pwp_block <| pwp_seq <| kx [(2, (vin 4))] [] (zM <| zM <| zZ) ?_
  refine pwp_seq <| kx [] [(1, some (bx (encA31 (A9.mk (ofZ 1) (ofZ 0) (ofZ 0) (ofZ 0) (ofZ 0) (RInt.mk false []) (RInt.mk false []) (RInt.mk false []) (RInt.mk false [])))))] (zM <| zE (oCl (t_of 0 (by decide) (by decide))) <| zE (oXr ar32 4) <| zT (oSt sh30) <| zZ) ?_
  refine pwp_seq <| kx [(11, (vb true))] [] (zM <| zE (oRe 0 (hr := by decide)) <| zE oEq <| zZ) ?_
  refine pwp_cond (b := true) (by kernel_rfl) (fun _ => ?_) (fun h => by cases h)
  refine pwp_sim (wk (l := [(0, (.ref 0 0)), (1, (.ref 1 0)), (2, (vin 4)), (3, (vin 4)), (11, (vb true))]) (b := [(0, some y1), (1, some (bx (encA31 (A9.mk (ofZ 1) (ofZ 0) (ofZ 0) (ofZ 0) (ofZ 0) (RInt.mk false []) (RInt.mk false []) (RInt.mk false []) (RInt.mk false [])))))])) ?_
  refine kx [] [(1, some (bx (encA31 (A9.mk (ofZ 1) (ofZ 0) (ofZ 0) (ofZ 0) (ofZ 1) (RInt.mk false []) (RInt.mk false []) (RInt.mk false []) (RInt.mk false [])))))] (zM <| zE (oCl (t_of 1 (by decide) (by decide))) <| zE (oXr ar32 4) <| zT (oSt sh30) <| zZ) ?_
  refine kx [(3, (vin 5))] [] (zE (oAd 5 (hr := by decide)) <| zM <| zZ) ?_
  refine pwp_again (SimImp.refl _) ?_
  refine pwp_seq <| kx [(4, (vb true))] [] (zE (oBk true oLt) <| zZ) ?_
  refine pwp_seq <| pwp_cond (b := true) (by kernel_rfl) (fun _ => ?_) (fun h => by cases h)
  refine pwp_skip <| pwp_seq <| pwp_block <| pwp_seq <| kx [(2, (vin 5))] [] (zM <| zM <| zZ) ?_
  refine pwp_seq <| kx [] [(1, some (bx (encA31 (A9.mk (ofZ 1) (ofZ 0) (ofZ 0) (ofZ 0) (ofZ 1) (ofZ 0) (RInt.mk false []) (RInt.mk false []) (RInt.mk false [])))))] (zM <| zE (oCl (t_of 0 (by decide) (by decide))) <| zE (oXr ar32 5) <| zT (oSt sh30) <| zZ) ?_
  refine pwp_seq <| kx [(11, (vb false))] [] (zM <| zE (oRe 1 (hr := by decide)) <| zE oEq <| zZ) ?_
  refine pwp_cond (b := false) (by kernel_rfl) (fun h => by cases h) (fun _ => ?_)
  refine pwp_skip <| kx [(3, (vin 6))] [] (zE (oAd 6 (hr := by decide)) <| zM <| zZ) ?_
  refine pwp_again (SimImp.refl _) ?_
  refine pwp_seq <| kx [(4, (vb true))] [] (zE (oBk true oLt) <| zZ) ?_
  refine pwp_seq <| pwp_cond (b := true) (by kernel_rfl) (fun _ => ?_) (fun h => by cases h)
  refine pwp_skip <| pwp_seq <| pwp_block <| pwp_seq <| kx [(2, (vin 6))] [] (zM <| zM <| zZ) ?_
  refine pwp_seq <| kx [] [(1, some (bx (encA31 (A9.mk (ofZ 1) (ofZ 0) (ofZ 0) (ofZ 0) (ofZ 1) (ofZ 0) (ofZ 0) (RInt.mk false []) (RInt.mk false [])))))] (zM <| zE (oCl (t_of 0 (by decide) (by decide))) <| zE (oXr ar32 6) <| zT (oSt sh30) <| zZ) ?_
  refine pwp_seq <| kx [(11, (vb false))] [] (zM <| zE (oRe 2 (hr := by decide)) <| zE oEq <| zZ) ?_
  refine pwp_cond (b := false) (by kernel_rfl) (fun h => by cases h) (fun _ => ?_)
  refine pwp_skip <| kx [(3, (vin 7))] [] (zE (oAd 7 (hr := by decide)) <| zM <| zZ) ?_
  refine pwp_again (SimImp.refl _) ?_
  refine pwp_seq <| kx [(4, (vb true))] [] (zE (oBk true oLt) <| zZ) ?_
  refine pwp_seq <| pwp_cond (b := true) (by kernel_rfl) (fun _ => ?_) (fun h => by cases h)
  refine pwp_skip <| pwp_seq <| pwp_block <| pwp_seq <| kx [(2, (vin 7))] [] (zM <| zM <| zZ) ?_
  refine pwp_seq <| pwp_sim (wk (l := [(0, (.ref 0 0)), (1, (.ref 1 0)), (2, (vin 7)), (3, (vin 7))]) (b := [(0, some y1), (1, some (bx (encA31 (A9.mk (ofZ 1) (ofZ 0) (ofZ 0) (ofZ 0) (ofZ 1) (ofZ 0) (ofZ 0) (RInt.mk false []) (RInt.mk false [])))))])) ?_
  refine kx [] [(1, some (bx (encA31 (A9.mk (ofZ 1) (ofZ 0) (ofZ 0) (ofZ 0) (ofZ 1) (ofZ 0) (ofZ 0) (ofZ 0) (RInt.mk false [])))))] (zM <| zE (oCl (t_of 0 (by decide) (by decide))) <| zE (oXr ar32 7) <| zT (oSt sh30) <| zZ) ?_
  refine pwp_seq <| kx [(11, (vb false))] [] (zM <| zE (oRe 3 (hr := by decide)) <| zE oEq <| zZ) ?_
  refine pwp_cond (b := false) (by kernel_rfl) (fun h => by cases h) (fun _ => ?_)
  refine pwp_skip <| kx [(3, (vin 8))] [] (zE (oAd 8 (hr := by decide)) <| zM <| zZ) ?_
  refine pwp_again (SimImp.refl _) ?_
  refine pwp_seq <| kx [(4, (vb true))] [] (zE (oBk true oLt) <| zZ) ?_
  refine pwp_seq <| pwp_cond (b := true) (by kernel_rfl) (fun _ => ?_) (fun h => by cases h)
  refine pwp_skip <| pwp_seq <| pwp_block <| pwp_seq <| kx [(2, (vin 8))] [] (zM <| zM <| zZ) ?_
  refine pwp_seq <| kx [] [(1, some (bx (encA31 (A9.mk (ofZ 1) (ofZ 0) (ofZ 0) (ofZ 0) (ofZ 1) (ofZ 0) (ofZ 0) (ofZ 0) (ofZ 0)))))] (zM <| zE (oCl (t_of 0 (by decide) (by decide))) <| zE (oXr ar32 8) <| zT (oSt sh30) <| zZ) ?_
  refine pwp_seq <| kx [(11, (vb true))] [] (zM <| zE (oRe 0 (hr := by decide)) <| zE oEq <| zZ) ?_
  refine pwp_cond (b := true) (by kernel_rfl) (fun _ => ?_) (fun h => by cases h)
  refine kx [] [(1, some (bx (encA31 (A9.mk (ofZ 1) (ofZ 0) (ofZ 0) (ofZ 0) (ofZ 1) (ofZ 0) (ofZ 0) (ofZ 0) (ofZ 1)))))] (zM <| zE (oCl (t_of 1 (by decide) (by decide))) <| zE (oXr ar32 8) <| zT (oSt sh30) <| zZ) ?_
  refine kx [(3, (vin 9))] [] (zE (oAd 9 (hr := by decide)) <| zM <| zZ) ?_
  refine pwp_again (SimImp.refl _) ?_
  refine pwp_seq <| kx [(4, (vb false))] [] (zE (oBk false oLt) <| zZ) ?_
  refine pwp_seq <| pwp_cond (b := false) (by kernel_rfl) (fun h => by cases h) (fun _ => ?_)
  refine pwp_exit <| pwp_seq <| kx [] [(0, some (bx (encA31 (A9.mk (ofZ 1) (ofZ 0) (ofZ 0) (ofZ 0) (ofZ 1) (ofZ 0) (ofZ 0) (ofZ 0) (ofZ 1)))))] (zR (oLa sh32) <| zT (oSt sh32) <| zZ) ?_
  refine pwp_ret ⟨_, (res_a (cs := (bx (encA31 (A9.mk (ofZ 1) (ofZ 0) (ofZ 0) (ofZ 0) (ofZ 1) (ofZ 0) (ofZ 0) (ofZ 0) (ofZ 1))))) (d := (encA31 (A9.mk (ofZ 1) (ofZ 0) (ofZ 0) (ofZ 0) (ofZ 1) (ofZ 0) (ofZ 0) (ofZ 0) (ofZ 1)))) rfl rfl sh32 rfl rfl .nil), ?_⟩
  rfl
end Go.Proofs.YtadkkhdnccljcaaGreat
set_option linter.unusedVariables false
set_option linter.unusedSimpArgs false
namespace Go.Fid
theorem sgnL_zero {zs : List Int} : sgnL zs = 0 ↔ ∀ z ∈ zs, z = 0 := by
  constructor
  · intro h z hz
    rcases Int.decEq z 0 with h0 | h0
    · exact absurd h (sgnL_of hz h0)
    · exact h0
  · intro h
    rcases Int.decEq (sgnL zs) 0 with h0 | h0
    · obtain ⟨z, hz, h1⟩ := sgnL_ne h0
      exact absurd (h z hz) h1
    · exact h0
theorem short4_len {x : RInt} (h : short4 x = true) : x.gs.length ≤ 4 := of_decide_eq_true h
theorem iok_short {x : RInt} (h : short4 x = true) : IOk x (toZ x) 4 := iok_raw (short4_len h)
theorem iok_ex {x : RInt} (h : short4 x = true) : ∃ z, toZ x = z ∧ IOk x z 4 := ⟨_, rfl, iok_short h⟩
end Go.Fid
set_option linter.unusedVariables false
set_option linter.unusedSimpArgs false
namespace Go.Fid
theorem det_nz9 {z0 z1 z2 z3 z4 z5 z6 z7 z8 : Int} (hd : det3 z0 z1 z2 z3 z4 z5 z6 z7 z8 ≠ 0) : sgnL [z0, z1, z2, z3, z4, z5, z6, z7, z8] ≠ 0 := fun e => by
  have h := sgnL_zero.1 e
  simp only [List.mem_cons, List.not_mem_nil, or_false, forall_eq_or_imp, forall_eq] at h
  obtain ⟨a0, a1, a2, a3, a4, a5, a6, a7, a8⟩ := h
  exact hd (by rw [a0, a1, a2]; simp [det3])
end Go.Fid
set_option linter.unusedVariables false
set_option linter.unusedSimpArgs false
namespace Go.Fid
end Go.Fid
namespace Go.Proofs.YtadkkhdnccljcaaGreat
open Go.Fid
set_option maxRecDepth 4000
set_option linter.unusedVariables false
set_option linter.unusedSimpArgs false
end Go.Proofs.YtadkkhdnccljcaaGreat
namespace Go.Proofs.YtadkkhdnccljcaaGreat
open Go.Fid
set_option maxRecDepth 4000
set_option linter.unusedVariables false
set_option linter.unusedSimpArgs false
end Go.Proofs.YtadkkhdnccljcaaGreat
set_option linter.unusedVariables false
set_option linter.unusedSimpArgs false
namespace Go.Fid
end Go.Fid
set_option linter.unusedVariables false
set_option linter.unusedSimpArgs false
namespace Go.Fid
end Go.Fid
namespace Go.Proofs.YtadkkhdnccljcaaGreat
open Go.Fid
set_option maxRecDepth 4000
set_option linter.unusedVariables false
set_option linter.unusedSimpArgs false
end Go.Proofs.YtadkkhdnccljcaaGreat
namespace Go.Proofs.YtadkkhdnccljcaaGreat
open Go.Fid
def RowOk (n : Nat) (l : List RRat) : Prop := (∀ a ∈ l, QOk a (toQ a) n) ∧ l.length ≤ 140737488355328
def MatOk (n : Nat) (m : List (List RRat)) : Prop := (∀ r ∈ m, RowOk n r) ∧ m.length ≤ 140737488355328
def shortX (x : RRat) : Bool := decide (digR x ≤ 8)
def shortRow (l : List RRat) : Bool := decide (l.length ≤ 6) && l.all shortX
def shortMat (m : List (List RRat)) : Bool := decide (m.length ≤ 6) && m.all shortRow
def vRow (l : List RRat) : Bool := l.all validR
def fitR (l : List RRat) : Bool := ((l.length : Nat) : Int) == 3
def fitB (m : List (List RRat)) : Bool := (((m.length : Nat) : Int) == 3) && m.all fitR
def vC (b : Bool) : Nat := if b = true then 0 else 1
theorem qok_at {l : List RRat} {n j : Nat} {d : RRat} (h : ∀ a ∈ l, QOk a (toQ a) n) (hj : j < l.length) : QOk (l.getD j d) (toQ (l.getD j d)) n := by
  rw [List.getD_eq_getElem?_getD, List.getElem?_eq_getElem hj]; exact h _ (List.getElem_mem hj)
theorem row_up {n k : Nat} {l : List RRat} (h : RowOk n l) (hk : n ≤ k) : RowOk k l := ⟨fun a ha => qok_up (h.1 a ha) hk, h.2⟩
theorem mat_up {n k : Nat} {m : List (List RRat)} (h : MatOk n m) (hk : n ≤ k) : MatOk k m := ⟨fun a ha => row_up (h.1 a ha) hk, h.2⟩
theorem row_get {n i : Nat} {m : List (List RRat)} {d : List RRat} (h : MatOk n m) (hi : i < m.length) : RowOk n (m.getD i d) := by
  rw [List.getD_eq_getElem?_getD, List.getElem?_eq_getElem hi]; exact h.1 _ (List.getElem_mem hi)
theorem vrow_get {i : Nat} {m : List (List RRat)} {d : List RRat} (h : m.all vRow = true) (hi : i < m.length) : vRow (m.getD i d) = true := by
  rw [List.getD_eq_getElem?_getD, List.getElem?_eq_getElem hi]; exact List.all_eq_true.1 h _ (List.getElem_mem hi)
theorem valid_get {i : Nat} {l : List RRat} {d : RRat} (h : vRow l = true) (hi : i < l.length) : validR (l.getD i d) = true := by
  rw [List.getD_eq_getElem?_getD, List.getElem?_eq_getElem hi]; exact List.all_eq_true.1 h _ (List.getElem_mem hi)
theorem shortX_yes {x : RRat} (h : ¬ 8 < digR x) : shortX x = true := by unfold shortX; rw [decide_eq_true_eq]; omega
theorem shortX_no {x : RRat} (h : 8 < digR x) : shortX x = false := by unfold shortX; rw [decide_eq_false_iff_not]; omega
theorem shortRow_long {l : List RRat} (h : 6 < l.length) : shortRow l = false := by unfold shortRow; rw [decide_eq_false (by omega)]; rfl
theorem shortRow_yes {l : List RRat} (h : ¬ 6 < l.length) (h2 : l.all shortX = true) : shortRow l = true := by unfold shortRow; rw [decide_eq_true (by omega), h2]; rfl
theorem shortRow_no {l : List RRat} (h2 : l.all shortX = false) : shortRow l = false := by unfold shortRow; rw [h2, Bool.and_false]
theorem shortMat_long {l : List (List RRat)} (h : 6 < l.length) : shortMat l = false := by unfold shortMat; rw [decide_eq_false (by omega)]; rfl
theorem shortMat_yes {l : List (List RRat)} (h : ¬ 6 < l.length) (h2 : l.all shortRow = true) : shortMat l = true := by unfold shortMat; rw [decide_eq_true (by omega), h2]; rfl
theorem shortMat_no {l : List (List RRat)} (h2 : l.all shortRow = false) : shortMat l = false := by unfold shortMat; rw [h2, Bool.and_false]
theorem take_all {α : Type} {f : α → Bool} {l : List α} {i : Nat} {d : α} (h : i < l.length) : (l.take (i + 1)).all f = ((l.take i).all f && f (l.getD i d)) := by
  rw [List.getD_eq_getElem?_getD, List.getElem?_eq_getElem h, List.take_succ_eq_append_getElem h, List.all_append]
  simp
theorem vC_step {m : List (List RRat)} {i : Nat} {c : Nat} (h : i < m.length) (hc : c = vC ((m.take i).all vRow)) (hv : vRow (m.getD i []) = true) : c = vC ((m.take (i + 1)).all vRow) := by
  rw [take_all (d := []) h, hv, Bool.and_true]; exact hc
theorem vC_bad {m : List (List RRat)} {i : Nat} (h : i < m.length) (hv : vRow (m.getD i []) = false) : (1 : Nat) = vC ((m.take (i + 1)).all vRow) := by
  rw [take_all (d := []) h, hv, Bool.and_false]; rfl
theorem fit_step {m : List (List RRat)} {i : Nat} {b c : Bool} (h : i < m.length) (hc : b = (c && (m.take i).all fitR)) : (b && ((((m.getD i []).length : Nat) : Int) == 3)) = (c && (m.take (i + 1)).all fitR) := by
  rw [take_all (d := []) h, ← Bool.and_assoc, ← hc]; rfl
theorem fit_abs {m : List (List RRat)} (hf : fitB m = false) (h : (true && ((((((m.length : Nat) : Int) != ((3 : Nat) : Int)) || ((((m.getD 0 []).length : Nat) : Int) != ((3 : Nat) : Int))) || ((((m.getD 1 []).length : Nat) : Int) != ((3 : Nat) : Int))) || ((((m.getD 2 []).length : Nat) : Int) != ((3 : Nat) : Int)))) = false) : False := by
  simp only [Bool.true_and, Bool.or_eq_false_iff, bne_eq_false_iff_eq] at h
  obtain ⟨⟨⟨h0, h1⟩, h2⟩, h3⟩ := h
  have hm : m.length = 3 := by omega
  match m, hm with
  | [a, b, c], _ =>
    simp only [List.getD_cons_zero, List.getD_cons_succ] at h1 h2 h3
    unfold fitB fitR at hf
    simp only [List.all_cons, List.all_nil, h0, h1, h2, h3] at hf
    revert hf; decide
theorem fit_ex {m : List (List RRat)} (h : fitB m = true) : ∃ a b c d e f g x y, m = [[a, b, c], [d, e, f], [g, x, y]] := by
  unfold fitB at h
  simp only [Bool.and_eq_true, beq_iff_eq] at h
  have hm : m.length = 3 := by omega
  match m, hm with
  | [r, s, t], _ =>
    have h2 := h.2
    unfold fitR at h2
    simp only [List.all_cons, List.all_nil, Bool.and_true, Bool.and_eq_true, beq_iff_eq] at h2
    have hr : r.length = 3 := by omega
    have hs : s.length = 3 := by omega
    have ht : t.length = 3 := by omega
    match r, s, t, hr, hs, ht with
    | [a, b, c], [d, e, f], [g, x, y], _, _, _ => exact ⟨a, b, c, d, e, f, g, x, y, rfl⟩
theorem fr_ex {x : RRat} (h : validR x = true) (hs : digR x ≤ 8) : ∃ n d : Int, x = RRat.mk (ofZ n) (ofZ d) ∧ IOk (ofZ n) n 8 ∧ IOk (ofZ d) d 8 ∧ d ≠ 0 := by
  obtain ⟨n, d⟩ := x
  have h' := h
  unfold validR at h
  simp only [Bool.and_eq_true, decide_eq_true_eq] at h
  obtain ⟨h1, h2, h3, _⟩ := h
  unfold digR at hs
  dsimp only at *
  have e1 := ofZ_toZ h1
  have e2 := ofZ_toZ h2
  refine ⟨toZ n, toZ d, by rw [e1, e2], ?_, ?_, by omega⟩
  · rw [e1]; exact iok_raw (by omega)
  · rw [e2]; exact iok_raw (by omega)
theorem quo_eq {e n d : Int} (hd : d ≠ 0) (h : d ∣ e) : (e * n).fdiv d = (e.fdiv d) * n := by
  obtain ⟨k, rfl⟩ := h
  rw [Int.mul_assoc, Int.mul_fdiv_cancel_left _ hd, Int.mul_fdiv_cancel_left _ hd]
theorem mat_short {m : List (List RRat)} (h : shortMat m = true) : MatOk 8 m := by
  unfold shortMat at h
  simp only [Bool.and_eq_true, decide_eq_true_eq, List.all_eq_true] at h
  refine ⟨fun r hr => ?_, by omega⟩
  have h2 := h.2 r hr
  unfold shortRow at h2
  simp only [Bool.and_eq_true, decide_eq_true_eq, List.all_eq_true] at h2
  refine ⟨fun a ha => ?_, by omega⟩
  have h3 := h2.2 a ha
  unfold shortX digR at h3
  rw [decide_eq_true_eq] at h3
  exact qok_raw (by decide) (by omega) (by omega)
theorem mat_nine {a b c d e f g x y : RRat} (hs : shortMat [[a, b, c], [d, e, f], [g, x, y]] = true) (hv : List.all [[a, b, c], [d, e, f], [g, x, y]] vRow = true) :
    (digR a ≤ 8 ∧ digR b ≤ 8 ∧ digR c ≤ 8 ∧ digR d ≤ 8 ∧ digR e ≤ 8 ∧ digR f ≤ 8 ∧ digR g ≤ 8 ∧ digR x ≤ 8 ∧ digR y ≤ 8) ∧
    (validR a = true ∧ validR b = true ∧ validR c = true ∧ validR d = true ∧ validR e = true ∧ validR f = true ∧ validR g = true ∧ validR x = true ∧ validR y = true) := by
  unfold shortMat at hs
  unfold shortRow shortX at hs
  unfold vRow at hv
  simp only [Bool.and_eq_true, List.all_cons, List.all_nil, decide_eq_true_eq, and_true] at hs hv
  obtain ⟨_, ⟨_, s0, s1, s2⟩, ⟨_, s3, s4, s5⟩, ⟨_, s6, s7, s8⟩⟩ := hs
  obtain ⟨⟨v0, v1, v2⟩, ⟨v3, v4, v5⟩, ⟨v6, v7, v8⟩⟩ := hv
  exact ⟨⟨s0, s1, s2, s3, s4, s5, s6, s7, s8⟩, ⟨v0, v1, v2, v3, v4, v5, v6, v7, v8⟩⟩
theorem row3 {a b c : RRat} (h1 : validR a = true) (h2 : validR b = true) (h3 : validR c = true) : vRow [a, b, c] = true := by
  unfold vRow; simp only [List.all_cons, List.all_nil, h1, h2, h3]; rfl
theorem dvd_go {d e k e' : Int} (h : d ∣ e) (he : e * k = e') : d ∣ e' := by
  obtain ⟨q, rfl⟩ := h; exact ⟨q * k, by rw [← he, Int.mul_assoc]⟩
theorem dvd_at {d e e' : Int} (he : e * d = e') : d ∣ e' := ⟨e, by rw [← he, Int.mul_comm]⟩
end Go.Proofs.YtadkkhdnccljcaaGreat
