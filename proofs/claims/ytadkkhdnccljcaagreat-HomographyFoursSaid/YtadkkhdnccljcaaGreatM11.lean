/- Part 11 of a proof: rules, plain facts, and functions walked. -/
import Derived.Test.YtadkkhdnccljcaaGreatM10
import Derived.Test.YtadkkhdnccljcaaGreatM4
import Derived.Test.YtadkkhdnccljcaaGreatM8
namespace Go.Proofs.YtadkkhdnccljcaaGreat
open Go.Fid
set_option maxRecDepth 4000
set_option linter.unusedVariables false
set_option linter.unusedSimpArgs false
theorem ar80 : arrB Tryz.prog 80 = some (9, 3, 1) := by kernel_rfl
theorem cb11 : callB Tryz.prog 11 = true := by kernel_rfl
theorem cb14 : callB Tryz.prog 14 = true := by kernel_rfl
theorem cb15 : callB Tryz.prog 15 = true := by kernel_rfl
theorem cb16 : callB Tryz.prog 16 = true := by kernel_rfl
theorem cb29 : callB Tryz.prog 29 = true := by kernel_rfl
theorem cb30 : callB Tryz.prog 30 = true := by kernel_rfl
theorem cb41 : callB Tryz.prog 41 = true := by kernel_rfl
theorem cb47 : callB Tryz.prog 47 = true := by kernel_rfl
theorem cb63 : callB Tryz.prog 63 = true := by kernel_rfl
theorem el65 : elemB Tryz.prog 65 = some (44, 6) := by kernel_rfl
theorem pl23 : placesB Tryz.prog 23 = some [(0, 1), (1, 1)] := by kernel_rfl
theorem pl25 : placesB Tryz.prog 25 = some [(0, 2), (2, 2)] := by kernel_rfl
theorem sh80 : shapeB Tryz.prog 80 = some (true, 9) := by kernel_rfl
theorem ze23 : zeroB Tryz.prog 23 = some [.int .i64 0, .int .i64 0] := by kernel_rfl
theorem ze26 : zeroB Tryz.prog 26 = some [.int .i64 0, .int .i64 0, .int .i64 0, .int .i64 0, .int .i64 0, .int .i64 0, .int .i64 0, .int .i64 0, .int .i64 0, .int .i64 0, .int .i64 0, .int .i64 0, .int .i64 0, .int .i64 0, .int .i64 0, .int .i64 0] := by kernel_rfl
theorem ze80 : zeroB Tryz.prog 80 = some [.int .i64 0, .int .i64 0, .int .i64 0, .int .i64 0, .int .i64 0, .int .i64 0, .int .i64 0, .int .i64 0, .int .i64 0] := by kernel_rfl
theorem zo23 : ZOk [.int .i64 0, .int .i64 0] [.val (.int .i64 0), .val (.int .i64 0)] := by simp [ZOk, Value.oneCell']
theorem zo26 : ZOk [.int .i64 0, .int .i64 0, .int .i64 0, .int .i64 0, .int .i64 0, .int .i64 0, .int .i64 0, .int .i64 0, .int .i64 0, .int .i64 0, .int .i64 0, .int .i64 0, .int .i64 0, .int .i64 0, .int .i64 0, .int .i64 0] [.val (.int .i64 0), .val (.int .i64 0), .val (.int .i64 0), .val (.int .i64 0), .val (.int .i64 0), .val (.int .i64 0), .val (.int .i64 0), .val (.int .i64 0), .val (.int .i64 0), .val (.int .i64 0), .val (.int .i64 0), .val (.int .i64 0), .val (.int .i64 0), .val (.int .i64 0), .val (.int .i64 0), .val (.int .i64 0)] := by simp [ZOk, Value.oneCell']
theorem zo80 : ZOk [.int .i64 0, .int .i64 0, .int .i64 0, .int .i64 0, .int .i64 0, .int .i64 0, .int .i64 0, .int .i64 0, .int .i64 0] [.val (.int .i64 0), .val (.int .i64 0), .val (.int .i64 0), .val (.int .i64 0), .val (.int .i64 0), .val (.int .i64 0), .val (.int .i64 0), .val (.int .i64 0), .val (.int .i64 0)] := by simp [ZOk, Value.oneCell']
theorem l_sameT3 (p : A3 RInt) (p0 p1 p2 : Int) (hp0 : IOk p.a0 p0 1000000) (hp1 : IOk p.a1 p1 1000000) (hp2 : IOk p.a2 p2 1000000) (q : A3 RInt) (q0 q1 q2 : Int) (hq0 : IOk q.a0 q0 1000000) (hq1 : IOk q.a1 q1 1000000) (hq2 : IOk q.a2 q2 1000000) (hv0 : validI p.a0 = true) (hv1 : validI p.a1 = true) (hv2 : validI p.a2 = true) (hs0 : sameI p.a0 q.a0 = true) (hs1 : sameI p.a1 q.a1 = true) (hs2 : sameI p.a2 q.a2 = true) : Takes Tryz.prog 16 [(encA43 p), (encA43 q)] (.val (.bool (true))) := by
  refine fn_intro Tryz.func16 rfl cb16 rfl ?_
  show PWp _ _ _ _ ⟨[(0, (.d (encA43 p))), (1, (.d (encA43 q)))], []⟩
  refine pwp_seq <| kx [(2, (.ref 0 0)), (3, (.ref 1 0))] [(0, some (bx (encA43 p))), (1, some (bx (encA43 q)))] (zN (oBx 0) <| zN (oBx 1) <| zM <| zZ) ?_
  refine pwp_seq <| pwp_seq <| kx [(6, (vin 0))] [] (zM <| zZ) ?_
  refine pwp_block <| pwp_rounds 20 ?_
  refine pwp_round <| pwp_seq <| kx [(7, (vb true))] [] (zE (oBk true oLt) <| zZ) ?_
  refine pwp_seq <| pwp_cond (b := true) (by kernel_rfl) (fun _ => ?_) (fun h => by cases h)
  refine pwp_skip <| pwp_seq <| pwp_block <| pwp_seq <| kx [(5, (vin 0))] [] (zM <| zM <| zZ) ?_
  refine pwp_seq <| kd [(23, (vb false))] [] mo (wM <| wE (oXr ar44 0) <| wR (oLa sh30) <| wE (oBk true (oCl (r_valid p.a0 (Nat.le_trans hp0.l (by decide)))) (by exact hv0)) <| wE oNt <| wM <| wM <| wE (oXr ar44 0) <| wR (oLa sh30) <| wM <| wE (oXr ar44 0) <| wR (oLa sh30) <| wE (oBk true (oCl (r_same p.a0 q.a0 (Nat.le_trans hp0.l (by decide)) (Nat.le_trans hq0.l (by decide)))) (by exact hs0)) <| wE oNt <| wE oPf <| wZ) ?_
  refine pwp_cond (b := false) (by kernel_rfl) (fun h => by cases h) (fun _ => ?_)
  refine pwp_skip <| kx [(6, (vin 1))] [] (zE (oAd 1 (hr := by decide)) <| zM <| zZ) ?_
  refine pwp_again (SimImp.refl _) ?_
  refine pwp_seq <| kx [(7, (vb true))] [] (zE (oBk true oLt) <| zZ) ?_
  refine pwp_seq <| pwp_cond (b := true) (by kernel_rfl) (fun _ => ?_) (fun h => by cases h)
  refine pwp_skip <| pwp_seq <| pwp_block <| pwp_seq <| kx [(5, (vin 1))] [] (zM <| zM <| zZ) ?_
  refine pwp_seq <| kd [(23, (vb false))] [] mo (wM <| wE (oXr ar44 1) <| wR (oLa sh30) <| wE (oBk true (oCl (r_valid p.a1 (Nat.le_trans hp1.l (by decide)))) (by exact hv1)) <| wE oNt <| wM <| wM <| wE (oXr ar44 1) <| wR (oLa sh30) <| wM <| wE (oXr ar44 1) <| wR (oLa sh30) <| wE (oBk true (oCl (r_same p.a1 q.a1 (Nat.le_trans hp1.l (by decide)) (Nat.le_trans hq1.l (by decide)))) (by exact hs1)) <| wE oNt <| wE oPf <| wZ) ?_
  refine pwp_cond (b := false) (by kernel_rfl) (fun h => by cases h) (fun _ => ?_)
  refine pwp_skip <| kx [(6, (vin 2))] [] (zE (oAd 2 (hr := by decide)) <| zM <| zZ) ?_
  refine pwp_again (SimImp.refl _) ?_
  refine pwp_seq <| kx [(7, (vb true))] [] (zE (oBk true oLt) <| zZ) ?_
  refine pwp_seq <| pwp_cond (b := true) (by kernel_rfl) (fun _ => ?_) (fun h => by cases h)
  refine pwp_skip <| pwp_seq <| pwp_block <| pwp_seq <| kx [(5, (vin 2))] [] (zM <| zM <| zZ) ?_
  refine pwp_seq <| kd [(23, (vb false))] [] mo (wM <| wE (oXr ar44 2) <| wR (oLa sh30) <| wE (oBk true (oCl (r_valid p.a2 (Nat.le_trans hp2.l (by decide)))) (by exact hv2)) <| wE oNt <| wM <| wM <| wE (oXr ar44 2) <| wR (oLa sh30) <| wM <| wE (oXr ar44 2) <| wR (oLa sh30) <| wE (oBk true (oCl (r_same p.a2 q.a2 (Nat.le_trans hp2.l (by decide)) (Nat.le_trans hq2.l (by decide)))) (by exact hs2)) <| wE oNt <| wE oPf <| wZ) ?_
  refine pwp_cond (b := false) (by kernel_rfl) (fun h => by cases h) (fun _ => ?_)
  refine pwp_skip <| kx [(6, (vin 3))] [] (zE (oAd 3 (hr := by decide)) <| zM <| zZ) ?_
  refine pwp_again (SimImp.refl _) ?_
  refine pwp_seq <| pwp_sim (wk (l := [(2, (.ref 0 0)), (3, (.ref 1 0)), (6, (vin 3))]) (b := [(0, some (bx (encA43 p))), (1, some (bx (encA43 q)))])) ?_
  refine kx [(7, (vb false))] [] (zE (oBk false oLt) <| zZ) ?_
  refine pwp_seq <| pwp_cond (b := false) (by kernel_rfl) (fun h => by cases h) (fun _ => ?_)
  refine pwp_exit <| pwp_seq <| kx [(4, (vb true))] [] (zM <| zZ) ?_
  refine pwp_ret ⟨_, (.tmp (d := (.val (.bool (true)))) rfl .nil), ?_⟩
  rfl
theorem l_sameT9 (p : A9 RInt) (p0 p1 p2 p3 p4 p5 p6 p7 p8 : Int) (hp0 : IOk p.a0 p0 1000000) (hp1 : IOk p.a1 p1 1000000) (hp2 : IOk p.a2 p2 1000000) (hp3 : IOk p.a3 p3 1000000) (hp4 : IOk p.a4 p4 1000000) (hp5 : IOk p.a5 p5 1000000) (hp6 : IOk p.a6 p6 1000000) (hp7 : IOk p.a7 p7 1000000) (hp8 : IOk p.a8 p8 1000000) (q : A9 RInt) (q0 q1 q2 q3 q4 q5 q6 q7 q8 : Int) (hq0 : IOk q.a0 q0 1000000) (hq1 : IOk q.a1 q1 1000000) (hq2 : IOk q.a2 q2 1000000) (hq3 : IOk q.a3 q3 1000000) (hq4 : IOk q.a4 q4 1000000) (hq5 : IOk q.a5 q5 1000000) (hq6 : IOk q.a6 q6 1000000) (hq7 : IOk q.a7 q7 1000000) (hq8 : IOk q.a8 q8 1000000) (hv0 : validI p.a0 = true) (hv1 : validI p.a1 = true) (hv2 : validI p.a2 = true) (hv3 : validI p.a3 = true) (hv4 : validI p.a4 = true) (hv5 : validI p.a5 = true) (hv6 : validI p.a6 = true) (hv7 : validI p.a7 = true) (hv8 : validI p.a8 = true) (hs0 : sameI p.a0 q.a0 = true) (hs1 : sameI p.a1 q.a1 = true) (hs2 : sameI p.a2 q.a2 = true) (hs3 : sameI p.a3 q.a3 = true) (hs4 : sameI p.a4 q.a4 = true) (hs5 : sameI p.a5 q.a5 = true) (hs6 : sameI p.a6 q.a6 = true) (hs7 : sameI p.a7 q.a7 = true) (hs8 : sameI p.a8 q.a8 = true) : Takes Tryz.prog 15 [(encA31 p), (encA31 q)] (.val (.bool (true))) := by
  refine fn_intro Tryz.func15 rfl cb15 rfl ?_
  show PWp _ _ _ _ ⟨[(0, (.d (encA31 p))), (1, (.d (encA31 q)))], []⟩
  refine pwp_seq <| kx [(2, (.ref 0 0)), (3, (.ref 1 0))] [(0, some (bx (encA31 p))), (1, some (bx (encA31 q)))] (zN (oBx 0) <| zN (oBx 1) <| zM <| zZ) ?_
  refine pwp_seq <| pwp_seq <| kx [(6, (vin 0))] [] (zM <| zZ) ?_
  refine pwp_block <| pwp_rounds 20 ?_
  refine pwp_round <| pwp_seq <| kx [(7, (vb true))] [] (zE (oBk true oLt) <| zZ) ?_
  refine pwp_seq <| pwp_cond (b := true) (by kernel_rfl) (fun _ => ?_) (fun h => by cases h)
  refine pwp_skip <| pwp_seq <| pwp_block <| pwp_seq <| kx [(5, (vin 0))] [] (zM <| zM <| zZ) ?_
  refine pwp_seq <| kd [(23, (vb false))] [] mo (wM <| wE (oXr ar32 0) <| wR (oLa sh30) <| wE (oBk true (oCl (r_valid p.a0 (Nat.le_trans hp0.l (by decide)))) (by exact hv0)) <| wE oNt <| wM <| wM <| wE (oXr ar32 0) <| wR (oLa sh30) <| wM <| wE (oXr ar32 0) <| wR (oLa sh30) <| wE (oBk true (oCl (r_same p.a0 q.a0 (Nat.le_trans hp0.l (by decide)) (Nat.le_trans hq0.l (by decide)))) (by exact hs0)) <| wE oNt <| wE oPf <| wZ) ?_
  refine pwp_cond (b := false) (by kernel_rfl) (fun h => by cases h) (fun _ => ?_)
  refine pwp_skip <| kx [(6, (vin 1))] [] (zE (oAd 1 (hr := by decide)) <| zM <| zZ) ?_
  refine pwp_again (SimImp.refl _) ?_
  refine pwp_seq <| kx [(7, (vb true))] [] (zE (oBk true oLt) <| zZ) ?_
  refine pwp_seq <| pwp_cond (b := true) (by kernel_rfl) (fun _ => ?_) (fun h => by cases h)
  refine pwp_skip <| pwp_seq <| pwp_block <| pwp_seq <| kx [(5, (vin 1))] [] (zM <| zM <| zZ) ?_
  refine pwp_seq <| kd [(23, (vb false))] [] mo (wM <| wE (oXr ar32 1) <| wR (oLa sh30) <| wE (oBk true (oCl (r_valid p.a1 (Nat.le_trans hp1.l (by decide)))) (by exact hv1)) <| wE oNt <| wM <| wM <| wE (oXr ar32 1) <| wR (oLa sh30) <| wM <| wE (oXr ar32 1) <| wR (oLa sh30) <| wE (oBk true (oCl (r_same p.a1 q.a1 (Nat.le_trans hp1.l (by decide)) (Nat.le_trans hq1.l (by decide)))) (by exact hs1)) <| wE oNt <| wE oPf <| wZ) ?_
  refine pwp_cond (b := false) (by kernel_rfl) (fun h => by cases h) (fun _ => ?_)
  refine pwp_skip <| kx [(6, (vin 2))] [] (zE (oAd 2 (hr := by decide)) <| zM <| zZ) ?_
  refine pwp_again (SimImp.refl _) ?_
  refine pwp_seq <| kx [(7, (vb true))] [] (zE (oBk true oLt) <| zZ) ?_
  refine pwp_seq <| pwp_cond (b := true) (by kernel_rfl) (fun _ => ?_) (fun h => by cases h)
  refine pwp_skip <| pwp_seq <| pwp_block <| pwp_seq <| kx [(5, (vin 2))] [] (zM <| zM <| zZ) ?_
  refine pwp_seq <| kd [(23, (vb false))] [] mo (wM <| wE (oXr ar32 2) <| wR (oLa sh30) <| wE (oBk true (oCl (r_valid p.a2 (Nat.le_trans hp2.l (by decide)))) (by exact hv2)) <| wE oNt <| wM <| wM <| wE (oXr ar32 2) <| wR (oLa sh30) <| wM <| wE (oXr ar32 2) <| wR (oLa sh30) <| wE (oBk true (oCl (r_same p.a2 q.a2 (Nat.le_trans hp2.l (by decide)) (Nat.le_trans hq2.l (by decide)))) (by exact hs2)) <| wE oNt <| wE oPf <| wZ) ?_
  refine pwp_cond (b := false) (by kernel_rfl) (fun h => by cases h) (fun _ => ?_)
  refine pwp_skip <| kx [(6, (vin 3))] [] (zE (oAd 3 (hr := by decide)) <| zM <| zZ) ?_
  refine pwp_again (SimImp.refl _) ?_
  refine pwp_seq <| pwp_sim (wk (l := [(2, (.ref 0 0)), (3, (.ref 1 0)), (6, (vin 3))]) (b := [(0, some (bx (encA31 p))), (1, some (bx (encA31 q)))])) ?_
  refine kx [(7, (vb true))] [] (zE (oBk true oLt) <| zZ) ?_
  refine pwp_seq <| pwp_cond (b := true) (by kernel_rfl) (fun _ => ?_) (fun h => by cases h)
  refine pwp_skip <| pwp_seq <| pwp_block <| pwp_seq <| kx [(5, (vin 3))] [] (zM <| zM <| zZ) ?_
  refine pwp_seq <| kd [(23, (vb false))] [] mo (wM <| wE (oXr ar32 3) <| wR (oLa sh30) <| wE (oBk true (oCl (r_valid p.a3 (Nat.le_trans hp3.l (by decide)))) (by exact hv3)) <| wE oNt <| wM <| wM <| wE (oXr ar32 3) <| wR (oLa sh30) <| wM <| wE (oXr ar32 3) <| wR (oLa sh30) <| wE (oBk true (oCl (r_same p.a3 q.a3 (Nat.le_trans hp3.l (by decide)) (Nat.le_trans hq3.l (by decide)))) (by exact hs3)) <| wE oNt <| wE oPf <| wZ) ?_
  refine pwp_cond (b := false) (by kernel_rfl) (fun h => by cases h) (fun _ => ?_)
  refine pwp_skip <| kx [(6, (vin 4))] [] (zE (oAd 4 (hr := by decide)) <| zM <| zZ) ?_
  refine pwp_again (SimImp.refl _) ?_
  refine pwp_seq <| kx [(7, (vb true))] [] (zE (oBk true oLt) <| zZ) ?_
  refine pwp_seq <| pwp_cond (b := true) (by kernel_rfl) (fun _ => ?_) (fun h => by cases h)
  refine pwp_skip <| pwp_seq <| pwp_block <| pwp_seq <| kx [(5, (vin 4))] [] (zM <| zM <| zZ) ?_
  refine pwp_seq <| kd [(23, (vb false))] [] mo (wM <| wE (oXr ar32 4) <| wR (oLa sh30) <| wE (oBk true (oCl (r_valid p.a4 (Nat.le_trans hp4.l (by decide)))) (by exact hv4)) <| wE oNt <| wM <| wM <| wE (oXr ar32 4) <| wR (oLa sh30) <| wM <| wE (oXr ar32 4) <| wR (oLa sh30) <| wE (oBk true (oCl (r_same p.a4 q.a4 (Nat.le_trans hp4.l (by decide)) (Nat.le_trans hq4.l (by decide)))) (by exact hs4)) <| wE oNt <| wE oPf <| wZ) ?_
  refine pwp_cond (b := false) (by kernel_rfl) (fun h => by cases h) (fun _ => ?_)
  refine pwp_skip <| kx [(6, (vin 5))] [] (zE (oAd 5 (hr := by decide)) <| zM <| zZ) ?_
  refine pwp_again (SimImp.refl _) ?_
  refine pwp_seq <| kx [(7, (vb true))] [] (zE (oBk true oLt) <| zZ) ?_
  refine pwp_seq <| pwp_cond (b := true) (by kernel_rfl) (fun _ => ?_) (fun h => by cases h)
  refine pwp_skip <| pwp_seq <| pwp_block <| pwp_seq <| kx [(5, (vin 5))] [] (zM <| zM <| zZ) ?_
  refine pwp_seq <| kd [(23, (vb false))] [] mo (wM <| wE (oXr ar32 5) <| wR (oLa sh30) <| wE (oBk true (oCl (r_valid p.a5 (Nat.le_trans hp5.l (by decide)))) (by exact hv5)) <| wE oNt <| wM <| wM <| wE (oXr ar32 5) <| wR (oLa sh30) <| wM <| wE (oXr ar32 5) <| wR (oLa sh30) <| wE (oBk true (oCl (r_same p.a5 q.a5 (Nat.le_trans hp5.l (by decide)) (Nat.le_trans hq5.l (by decide)))) (by exact hs5)) <| wE oNt <| wE oPf <| wZ) ?_
  refine pwp_cond (b := false) (by kernel_rfl) (fun h => by cases h) (fun _ => ?_)
  refine pwp_skip <| kx [(6, (vin 6))] [] (zE (oAd 6 (hr := by decide)) <| zM <| zZ) ?_
  refine pwp_again (SimImp.refl _) ?_
  refine pwp_seq <| kx [(7, (vb true))] [] (zE (oBk true oLt) <| zZ) ?_
  refine pwp_seq <| pwp_cond (b := true) (by kernel_rfl) (fun _ => ?_) (fun h => by cases h)
  refine pwp_skip <| pwp_seq <| pwp_block <| pwp_seq <| kx [(5, (vin 6))] [] (zM <| zM <| zZ) ?_
  refine pwp_seq <| pwp_sim (wk (l := [(2, (.ref 0 0)), (3, (.ref 1 0)), (5, (vin 6)), (6, (vin 6))]) (b := [(0, some (bx (encA31 p))), (1, some (bx (encA31 q)))])) ?_
  refine kd [(23, (vb false))] [] mo (wM <| wE (oXr ar32 6) <| wR (oLa sh30) <| wE (oBk true (oCl (r_valid p.a6 (Nat.le_trans hp6.l (by decide)))) (by exact hv6)) <| wE oNt <| wM <| wM <| wE (oXr ar32 6) <| wR (oLa sh30) <| wM <| wE (oXr ar32 6) <| wR (oLa sh30) <| wE (oBk true (oCl (r_same p.a6 q.a6 (Nat.le_trans hp6.l (by decide)) (Nat.le_trans hq6.l (by decide)))) (by exact hs6)) <| wE oNt <| wE oPf <| wZ) ?_
  refine pwp_cond (b := false) (by kernel_rfl) (fun h => by cases h) (fun _ => ?_)
  refine pwp_skip <| kx [(6, (vin 7))] [] (zE (oAd 7 (hr := by decide)) <| zM <| zZ) ?_
  refine pwp_again (SimImp.refl _) ?_
  refine pwp_seq <| kx [(7, (vb true))] [] (zE (oBk true oLt) <| zZ) ?_
  refine pwp_seq <| pwp_cond (b := true) (by kernel_rfl) (fun _ => ?_) (fun h => by cases h)
  refine pwp_skip <| pwp_seq <| pwp_block <| pwp_seq <| kx [(5, (vin 7))] [] (zM <| zM <| zZ) ?_
  refine pwp_seq <| kd [(23, (vb false))] [] mo (wM <| wE (oXr ar32 7) <| wR (oLa sh30) <| wE (oBk true (oCl (r_valid p.a7 (Nat.le_trans hp7.l (by decide)))) (by exact hv7)) <| wE oNt <| wM <| wM <| wE (oXr ar32 7) <| wR (oLa sh30) <| wM <| wE (oXr ar32 7) <| wR (oLa sh30) <| wE (oBk true (oCl (r_same p.a7 q.a7 (Nat.le_trans hp7.l (by decide)) (Nat.le_trans hq7.l (by decide)))) (by exact hs7)) <| wE oNt <| wE oPf <| wZ) ?_
  refine pwp_cond (b := false) (by kernel_rfl) (fun h => by cases h) (fun _ => ?_)
  refine pwp_skip <| kx [(6, (vin 8))] [] (zE (oAd 8 (hr := by decide)) <| zM <| zZ) ?_
  refine pwp_again (SimImp.refl _) ?_
  refine pwp_seq <| kx [(7, (vb true))] [] (zE (oBk true oLt) <| zZ) ?_
  refine pwp_seq <| pwp_cond (b := true) (by kernel_rfl) (fun _ => ?_) (fun h => by cases h)
  refine pwp_skip <| pwp_seq <| pwp_block <| pwp_seq <| kx [(5, (vin 8))] [] (zM <| zM <| zZ) ?_
  refine pwp_seq <| kd [(23, (vb false))] [] mo (wM <| wE (oXr ar32 8) <| wR (oLa sh30) <| wE (oBk true (oCl (r_valid p.a8 (Nat.le_trans hp8.l (by decide)))) (by exact hv8)) <| wE oNt <| wM <| wM <| wE (oXr ar32 8) <| wR (oLa sh30) <| wM <| wE (oXr ar32 8) <| wR (oLa sh30) <| wE (oBk true (oCl (r_same p.a8 q.a8 (Nat.le_trans hp8.l (by decide)) (Nat.le_trans hq8.l (by decide)))) (by exact hs8)) <| wE oNt <| wE oPf <| wZ) ?_
  refine pwp_cond (b := false) (by kernel_rfl) (fun h => by cases h) (fun _ => ?_)
  refine pwp_skip <| kx [(6, (vin 9))] [] (zE (oAd 9 (hr := by decide)) <| zM <| zZ) ?_
  refine pwp_again (SimImp.refl _) ?_
  refine pwp_seq <| kx [(7, (vb false))] [] (zE (oBk false oLt) <| zZ) ?_
  refine pwp_seq <| pwp_cond (b := false) (by kernel_rfl) (fun h => by cases h) (fun _ => ?_)
  refine pwp_exit <| pwp_seq <| kx [(4, (vb true))] [] (zM <| zZ) ?_
  refine pwp_ret ⟨_, (.tmp (d := (.val (.bool (true)))) rfl .nil), ?_⟩
  rfl
theorem l_empty (tau : Nat) (l : List RInt) (zs : List Int) (hl : LOk 1000000 l zs) (hb : l.length ≤ 1000000) (he : ∀ x ∈ l, x = RInt.mk false []) : Takes Tryz.prog 14 [(.sl tau 2 (List.map encI l))] (.val (.bool (true))) := by
  refine fn_intro Tryz.func14 rfl cb14 rfl ?_
  show PWp _ _ _ _ ⟨[(0, (vl tau 2 encI l))], []⟩
  refine pwp_seq <| kx [] [] (zM <| zZ) ?_
  refine pwp_seq <| pwp_seq <| kx [(5, (vl tau 2 encI l)), (6, (vin l.length)), (7, (vin 0))] [] (zM <| zE (oLm el40) <| zM <| zZ) ?_
  refine pwp_block <| pwp_loop (α := Nat) (fun i => ⟨[(5, (vl tau 2 encI l)), (6, (vin l.length)), (7, (vin i))], []⟩) (fun i => i ≤ l.length) (fun i => l.length - i) 0 wk (Nat.zero_le _) ?_
  rintro i hi
  have hx := all_nil he i
  refine pwp_seq <| kx [(8, (vb (decide (((i : Nat) : Int) < ((l.length : Nat) : Int)))))] [] (zE oLt <| zZ) ?_
  refine pwp_seq <| pwp_cond rfl (fun h1 => ?_) (fun h1 => ?_)
  · replace h1 := of_decide_eq_true h1
    refine pwp_skip <| pwp_seq <| pwp_block <| pwp_seq <| kx [(4, (.ref 0 0))] [(0, some (bx (encI (l.getD i (RInt.mk false [])))))] (zE (oXl el40 i (RInt.mk false [])) <| zE (oCa sh30) <| zN (oAl 0 ze30 zo30) <| zT (oSt sh30) <| zZ) ?_
    refine pwp_seq <| kx [(18, (vb ((l.getD i (RInt.mk false [])).neg || decide (0 < ((((l.getD i (RInt.mk false [])).gs).length : Nat) : Int)))))] [] ?_ ?_
    · refine zE (oFr fo30_0) <| zR (oL1 sh4) <| zE (oV (vb ((l.getD i (RInt.mk false [])).neg)) (mv_ok (by kernel_rfl))) <| ?_
      rcases hb2 : ((l.getD i (RInt.mk false [])).neg) with _ | _
      · exact zE (oFr fo30_1) <| zR (oL1 sh28) <| zE (oLm el28 (L := (l.getD i (RInt.mk false [])).gs)) <| zE oGt <| zE oPo <| zZ
      · exact zK <| zK <| zK <| zK <| zE oPt <| zZ
    refine pwp_cond rfl (fun h3 => ?_) (fun h3 => ?_)
    · exfalso; rw [hx] at h3; revert h3; decide
    · refine pwp_skip <| kx [(7, (vin (i + 1)))] [] (zE (oAd (i + 1)) <| zM <| zZ) ?_
      exact ⟨(i + 1), wk, (by show i + 1 ≤ l.length; omega), (by first | omega | (dsimp only; omega))⟩
  · replace h1 := of_decide_eq_false h1
    refine pwp_exit <| pwp_seq <| kx [(2, (vb true))] [] (zM <| zZ) ?_
    refine pwp_ret ⟨_, (.tmp (d := (.val (.bool (true)))) rfl .nil), ?_⟩
    rfl
theorem l_reduce (h : A9 RInt) (h0 h1 h2 h3 h4 h5 h6 h7 h8 : Int) (hh0 : IOk h.a0 h0 1000000) (hh1 : IOk h.a1 h1 1000000) (hh2 : IOk h.a2 h2 1000000) (hh3 : IOk h.a3 h3 1000000) (hh4 : IOk h.a4 h4 1000000) (hh5 : IOk h.a5 h5 1000000) (hh6 : IOk h.a6 h6 1000000) (hh7 : IOk h.a7 h7 1000000) (hh8 : IOk h.a8 h8 1000000) (c0 c1 c2 c3 c4 c5 c6 c7 c8 : Int) (hc : redL [h0, h1, h2, h3, h4, h5, h6, h7, h8] = [c0, c1, c2, c3, c4, c5, c6, c7, c8]) (hnz : sgnL [h0, h1, h2, h3, h4, h5, h6, h7, h8] ≠ 0) (hd : signI (det3 h0 h1 h2 h3 h4 h5 h6 h7 h8) ≠ 0) : Takes Tryz.prog 47 [(encA31 h)] (.tup [(encA31 (A9.mk (ofZ c0) (ofZ c1) (ofZ c2) (ofZ c3) (ofZ c4) (ofZ c5) (ofZ c6) (ofZ c7) (ofZ c8))), (.val (.bool (true)))]) := by
  refine fn_intro Tryz.func47 rfl cb47 rfl ?_
  show PWp _ _ _ _ ⟨[(0, (.d (encA31 h)))], []⟩
  refine pwp_seq <| kx [(1, (.ref 0 0)), (2, (.ref 1 0))] [(0, some (bx (encA31 h))), (1, some (bx (encA31 (A9.mk (RInt.mk false []) (RInt.mk false []) (RInt.mk false []) (RInt.mk false []) (RInt.mk false []) (RInt.mk false []) (RInt.mk false []) (RInt.mk false []) (RInt.mk false [])))))] (zN (oBx 0) <| zN (oAl 1 ze32 zo32) <| zM <| zZ) ?_
  refine pwp_seq ?_
  have bn1 : ∀ c ∈ [c0, c1, c2, c3, c4, c5, c6, c7, c8], IOk (ofZ c) c 1000000 := red_iok (n := 1000000) (.cons hh0 (.cons hh1 (.cons hh2 (.cons hh3 (.cons hh4 (.cons hh5 (.cons hh6 (.cons hh7 (.cons hh8 .nil))))))))) hc
  refine kx [(4, (vl 30 2 encI [(ofZ c0), (ofZ c1), (ofZ c2), (ofZ c3), (ofZ c4), (ofZ c5), (ofZ c6), (ofZ c7), (ofZ c8)]))] [] (zE (e_slv (by exact rfl) ar32 (by exact rfl) (by kernel_rfl) (by kernel_rfl)) <| zR ⟨(bx (encA31 h)), e_clv (es := List.map encI [h.a0, h.a1, h.a2, h.a3, h.a4, h.a5, h.a6, h.a7, h.a8]) (by have h := l_red 1000000 [h.a0, h.a1, h.a2, h.a3, h.a4, h.a5, h.a6, h.a7, h.a8] [h0, h1, h2, h3, h4, h5, h6, h7, h8] (.cons hh0 (.cons hh1 (.cons hh2 (.cons hh3 (.cons hh4 (.cons hh5 (.cons hh6 (.cons hh7 (.cons hh8 .nil))))))))) (Nat.le_of_ble_eq_true rfl) hnz; rw [hc] at h; exact h) (by exact rfl) (by kernel_rfl) (by exact rfl) (.v .nil) (pubs_cells _ _ (fun _ => rfl)) (by kernel_rfl) (by kernel_rfl) (avo_sl_30 (by decide) (by decide) _), by kernel_rfl⟩ <| zM <| zZ) ?_
  refine pwp_seq <| pwp_seq ?_
  have bn2 : IOk (ofZ (det3 h0 h1 h2 h3 h4 h5 h6 h7 h8)) (det3 h0 h1 h2 h3 h4 h5 h6 h7 h8) 3000003 := (iok_det3 (n := 1000000) (k := 3000003) hh0 hh1 hh2 hh3 hh4 hh5 hh6 hh7 hh8 (by decide))
  refine kd [(18, (vb false))] [] mo (wM <| wE (oNf el40) <| wM <| wR (oLa sh32) <| wE (oCl (l_row0 h h0 h1 h2 h3 h4 h5 h6 h7 h8 (iu hh0) (iu hh1) (iu hh2) (iu hh3) (iu hh4) (iu hh5) (iu hh6) (iu hh7) (iu hh8))) <| wR (oLa sh32) <| wE (oCl (l_row1 h h0 h1 h2 h3 h4 h5 h6 h7 h8 (iu hh0) (iu hh1) (iu hh2) (iu hh3) (iu hh4) (iu hh5) (iu hh6) (iu hh7) (iu hh8))) <| wR (oLa sh32) <| wE (oCl (l_row2 h h0 h1 h2 h3 h4 h5 h6 h7 h8 (iu hh0) (iu hh1) (iu hh2) (iu hh3) (iu hh4) (iu hh5) (iu hh6) (iu hh7) (iu hh8))) <| wE (oCl (l_det (A3.mk h.a0 h.a1 h.a2) h0 h1 h2 hh0 hh1 hh2 (A3.mk h.a3 h.a4 h.a5) h3 h4 h5 hh3 hh4 hh5 (A3.mk h.a6 h.a7 h.a8) h6 h7 h8 hh6 hh7 hh8)) <| wE (oBk false (oCl (l_zero (ofZ (det3 h0 h1 h2 h3 h4 h5 h6 h7 h8)) (det3 h0 h1 h2 h3 h4 h5 h6 h7 h8) (iu bn2))) (by exact beq_eq_false_iff_ne.2 hd)) <| wE oPf <| wZ) ?_
  refine pwp_cond (b := false) (by kernel_rfl) (fun h => by cases h) (fun _ => ?_)
  refine pwp_skip <| pwp_seq <| kx [(3, (vb true))] [(1, some (bx (encA31 (A9.mk (ofZ c0) (ofZ c1) (ofZ c2) (ofZ c3) (ofZ c4) (ofZ c5) (ofZ c6) (ofZ c7) (ofZ c8)))))] (zM <| zE (e_sap (cs := (Dat.cells (encA31 (A9.mk (ofZ c0) (ofZ c1) (ofZ c2) (ofZ c3) (ofZ c4) (ofZ c5) (ofZ c6) (ofZ c7) (ofZ c8))))) (by exact rfl) ar32 (by exact rfl) (by kernel_rfl) (by kernel_rfl) (by kernel_rfl)) <| zE (oCa sh32) <| zT (oSt sh32) <| zM <| zZ) ?_
  refine pwp_ret ⟨_, (res_a (cs := (bx (encA31 (A9.mk (ofZ c0) (ofZ c1) (ofZ c2) (ofZ c3) (ofZ c4) (ofZ c5) (ofZ c6) (ofZ c7) (ofZ c8))))) (d := (encA31 (A9.mk (ofZ c0) (ofZ c1) (ofZ c2) (ofZ c3) (ofZ c4) (ofZ c5) (ofZ c6) (ofZ c7) (ofZ c8)))) rfl rfl sh32 rfl rfl (.tmp (d := (.val (.bool (true)))) rfl .nil)), ?_⟩
  rfl
theorem l_product (g : A9 RInt) (g0 g1 g2 g3 g4 g5 g6 g7 g8 : Int) (hg0 : IOk g.a0 g0 1000) (hg1 : IOk g.a1 g1 1000) (hg2 : IOk g.a2 g2 1000) (hg3 : IOk g.a3 g3 1000) (hg4 : IOk g.a4 g4 1000) (hg5 : IOk g.a5 g5 1000) (hg6 : IOk g.a6 g6 1000) (hg7 : IOk g.a7 g7 1000) (hg8 : IOk g.a8 g8 1000) (h : A9 RInt) (h0 h1 h2 h3 h4 h5 h6 h7 h8 : Int) (hh0 : IOk h.a0 h0 1000) (hh1 : IOk h.a1 h1 1000) (hh2 : IOk h.a2 h2 1000) (hh3 : IOk h.a3 h3 1000) (hh4 : IOk h.a4 h4 1000) (hh5 : IOk h.a5 h5 1000) (hh6 : IOk h.a6 h6 1000) (hh7 : IOk h.a7 h7 1000) (hh8 : IOk h.a8 h8 1000) (c0 c1 c2 c3 c4 c5 c6 c7 c8 : Int) (hc : redL [(((g0 * h0) + (g1 * h3)) + (g2 * h6)), (((g0 * h1) + (g1 * h4)) + (g2 * h7)), (((g0 * h2) + (g1 * h5)) + (g2 * h8)), (((g3 * h0) + (g4 * h3)) + (g5 * h6)), (((g3 * h1) + (g4 * h4)) + (g5 * h7)), (((g3 * h2) + (g4 * h5)) + (g5 * h8)), (((g6 * h0) + (g7 * h3)) + (g8 * h6)), (((g6 * h1) + (g7 * h4)) + (g8 * h7)), (((g6 * h2) + (g7 * h5)) + (g8 * h8))] = [c0, c1, c2, c3, c4, c5, c6, c7, c8]) (hnz : sgnL [(((g0 * h0) + (g1 * h3)) + (g2 * h6)), (((g0 * h1) + (g1 * h4)) + (g2 * h7)), (((g0 * h2) + (g1 * h5)) + (g2 * h8)), (((g3 * h0) + (g4 * h3)) + (g5 * h6)), (((g3 * h1) + (g4 * h4)) + (g5 * h7)), (((g3 * h2) + (g4 * h5)) + (g5 * h8)), (((g6 * h0) + (g7 * h3)) + (g8 * h6)), (((g6 * h1) + (g7 * h4)) + (g8 * h7)), (((g6 * h2) + (g7 * h5)) + (g8 * h8))] ≠ 0) (hd : signI (det3 (((g0 * h0) + (g1 * h3)) + (g2 * h6)) (((g0 * h1) + (g1 * h4)) + (g2 * h7)) (((g0 * h2) + (g1 * h5)) + (g2 * h8)) (((g3 * h0) + (g4 * h3)) + (g5 * h6)) (((g3 * h1) + (g4 * h4)) + (g5 * h7)) (((g3 * h2) + (g4 * h5)) + (g5 * h8)) (((g6 * h0) + (g7 * h3)) + (g8 * h6)) (((g6 * h1) + (g7 * h4)) + (g8 * h7)) (((g6 * h2) + (g7 * h5)) + (g8 * h8))) ≠ 0) : Takes Tryz.prog 30 [(encA31 g), (encA31 h)] (encA31 (A9.mk (ofZ c0) (ofZ c1) (ofZ c2) (ofZ c3) (ofZ c4) (ofZ c5) (ofZ c6) (ofZ c7) (ofZ c8))) := by
  let y10 := (ofZ (((g3 * h0) + (g4 * h3)) + (g5 * h6)))
  let y9 := (ofZ (((g0 * h2) + (g1 * h5)) + (g2 * h8)))
  let y8 := (ofZ (((g0 * h1) + (g1 * h4)) + (g2 * h7)))
  let y7 := (ofZ (((g0 * h0) + (g1 * h3)) + (g2 * h6)))
  let y6 := (bx (encA31 (A9.mk (ofZ c0) (ofZ c1) (ofZ c2) (ofZ c3) (ofZ c4) (ofZ c5) (ofZ c6) (ofZ c7) (ofZ c8))))
  let y5 := (bx (encA31 (A9.mk (RInt.mk false []) (RInt.mk false []) (RInt.mk false []) (RInt.mk false []) (RInt.mk false []) (RInt.mk false []) (RInt.mk false []) (RInt.mk false []) (RInt.mk false []))))
  let y4 := (bx (encA31 (A9.mk y7 y8 (RInt.mk false []) (RInt.mk false []) (RInt.mk false []) (RInt.mk false []) (RInt.mk false []) (RInt.mk false []) (RInt.mk false []))))
  let y3 := (bx (encA31 (A9.mk y7 y8 y9 y10 (RInt.mk false []) (RInt.mk false []) (RInt.mk false []) (RInt.mk false []) (RInt.mk false []))))
  let y2 := (bx (encA31 (A9.mk y7 y8 y9 y10 (ofZ (((g3 * h1) + (g4 * h4)) + (g5 * h7))) (ofZ (((g3 * h2) + (g4 * h5)) + (g5 * h8))) (RInt.mk false []) (RInt.mk false []) (RInt.mk false []))))
  let y1 := (A9.mk y7 y8 y9 y10 (ofZ (((g3 * h1) + (g4 * h4)) + (g5 * h7))) (ofZ (((g3 * h2) + (g4 * h5)) + (g5 * h8))) (ofZ (((g6 * h0) + (g7 * h3)) + (g8 * h6))) (ofZ (((g6 * h1) + (g7 * h4)) + (g8 * h7))) (ofZ (((g6 * h2) + (g7 * h5)) + (g8 * h8))))
  refine fn_intro Tryz.func30 rfl cb30 rfl ?_
  show PWp _ _ _ _ ⟨[(0, (.d (encA31 g))), (1, (.d (encA31 h)))], []⟩
  refine pwp_seq <| kx [(2, (.ref 0 0)), (3, (.ref 1 0)), (4, (.ref 2 0))] [(0, some (bx (encA31 g))), (1, some (bx (encA31 h))), (2, some y5)] (zN (oBx 0) <| zN (oBx 1) <| zN (oAl 2 ze32 zo32) <| zZ) ?_
  refine pwp_seq <| kx [(5, (.ref 3 0))] [(3, some y5)] (zE (oBa ar32 ze32 zo32) <| zN (oAl 3 ze32 zo32) <| zT (oSt sh32) <| zZ) ?_
  refine pwp_seq <| pwp_seq <| kx [(11, (vin 0))] [] (zM <| zZ) ?_
  refine pwp_block <| pwp_rounds 20 ?_
  refine pwp_round <| pwp_seq <| kx [(12, (vb true))] [] (zE (oBk true oLt) <| zZ) ?_
  refine pwp_seq <| pwp_cond (b := true) (by kernel_rfl) (fun _ => ?_) (fun h => by cases h)
  refine pwp_skip <| pwp_seq <| pwp_block <| pwp_seq <| kx [(6, (vin 0))] [] (zM <| zM <| zZ) ?_
  refine pwp_seq <| kx [(14, (vin 0))] [] (zM <| zZ) ?_
  refine pwp_block <| pwp_rounds 20 ?_
  refine pwp_round <| pwp_seq <| kx [(15, (vb true))] [] (zE (oBk true oLt) <| zZ) ?_
  refine pwp_seq <| pwp_cond (b := true) (by kernel_rfl) (fun _ => ?_) (fun h => by cases h)
  refine pwp_skip <| pwp_seq <| pwp_block <| pwp_seq <| kx [(7, (vin 0))] [] (zM <| zM <| zZ) ?_
  have bn1 : IOk (ofZ (((g0 * h0) + (g1 * h3)) + (g2 * h6))) (((g0 * h0) + (g1 * h3)) + (g2 * h6)) 2002 := (iok_add (k := 2002) (iok_add (k := 2001) (iok_mul (k := 2000) hg0 hh0 (by decide)) (iok_mul (k := 2000) hg1 hh3 (by decide)) (by decide)) (iok_mul (k := 2000) hg2 hh6 (by decide)) (by decide))
  refine kd [] [(3, some (bx (encA31 (A9.mk y7 (RInt.mk false []) (RInt.mk false []) (RInt.mk false []) (RInt.mk false []) (RInt.mk false []) (RInt.mk false []) (RInt.mk false []) (RInt.mk false [])))))] mo (wM <| wE (oMl 0 (hr := by decide)) <| wM <| wE (oAd 0 (hr := by decide)) <| wR (oLa sh32) <| wM <| wE (oCl (l_row0 g g0 g1 g2 g3 g4 g5 g6 g7 g8 (iu hg0) (iu hg1) (iu hg2) (iu hg3) (iu hg4) (iu hg5) (iu hg6) (iu hg7) (iu hg8))) <| wR (oLa sh32) <| wM <| wE (oCl (l_col0 h h0 h1 h2 h3 h4 h5 h6 h7 h8 (iu hh0) (iu hh1) (iu hh2) (iu hh3) (iu hh4) (iu hh5) (iu hh6) (iu hh7) (iu hh8))) <| wE (oCl (l_dot (A3.mk g.a0 g.a1 g.a2) g0 g1 g2 (iu hg0) (iu hg1) (iu hg2) (A3.mk h.a0 h.a3 h.a6) h0 h3 h6 (iu hh0) (iu hh3) (iu hh6))) <| wE (oXr ar32 0) <| wT (oSt sh30) <| wZ) ?_
  refine kx [(14, (vin 1))] [] (zE (oAd 1 (hr := by decide)) <| zM <| zZ) ?_
  refine pwp_again (SimImp.refl _) ?_
  refine pwp_seq <| kx [(15, (vb true))] [] (zE (oBk true oLt) <| zZ) ?_
  refine pwp_seq <| pwp_cond (b := true) (by kernel_rfl) (fun _ => ?_) (fun h => by cases h)
  refine pwp_skip <| pwp_seq <| pwp_block <| pwp_seq <| kx [(7, (vin 1))] [] (zM <| zM <| zZ) ?_
  have bn2 : IOk (ofZ (((g0 * h1) + (g1 * h4)) + (g2 * h7))) (((g0 * h1) + (g1 * h4)) + (g2 * h7)) 2002 := (iok_add (k := 2002) (iok_add (k := 2001) (iok_mul (k := 2000) hg0 hh1 (by decide)) (iok_mul (k := 2000) hg1 hh4 (by decide)) (by decide)) (iok_mul (k := 2000) hg2 hh7 (by decide)) (by decide))
  refine kd [] [(3, some y4)] mo (wM <| wE (oMl 0 (hr := by decide)) <| wM <| wE (oAd 1 (hr := by decide)) <| wR (oLa sh32) <| wM <| wE (oCl (l_row0 g g0 g1 g2 g3 g4 g5 g6 g7 g8 (iu hg0) (iu hg1) (iu hg2) (iu hg3) (iu hg4) (iu hg5) (iu hg6) (iu hg7) (iu hg8))) <| wR (oLa sh32) <| wM <| wE (oCl (l_col1 h h0 h1 h2 h3 h4 h5 h6 h7 h8 (iu hh0) (iu hh1) (iu hh2) (iu hh3) (iu hh4) (iu hh5) (iu hh6) (iu hh7) (iu hh8))) <| wE (oCl (l_dot (A3.mk g.a0 g.a1 g.a2) g0 g1 g2 (iu hg0) (iu hg1) (iu hg2) (A3.mk h.a1 h.a4 h.a7) h1 h4 h7 (iu hh1) (iu hh4) (iu hh7))) <| wE (oXr ar32 1) <| wT (oSt sh30) <| wZ) ?_
  refine kx [(14, (vin 2))] [] (zE (oAd 2 (hr := by decide)) <| zM <| zZ) ?_
  refine pwp_again (SimImp.refl _) ?_
  refine pwp_seq <| pwp_sim (wk (l := [(2, (.ref 0 0)), (3, (.ref 1 0)), (4, (.ref 2 0)), (5, (.ref 3 0)), (6, (vin 0)), (11, (vin 0)), (14, (vin 2))]) (b := [(0, some (bx (encA31 g))), (1, some (bx (encA31 h))), (2, some y5), (3, some y4)])) ?_
  refine kx [(15, (vb true))] [] (zE (oBk true oLt) <| zZ) ?_
  refine pwp_seq <| pwp_cond (b := true) (by kernel_rfl) (fun _ => ?_) (fun h => by cases h)
  refine pwp_skip <| pwp_seq <| pwp_block <| pwp_seq <| kx [(7, (vin 2))] [] (zM <| zM <| zZ) ?_
  have bn3 : IOk (ofZ (((g0 * h2) + (g1 * h5)) + (g2 * h8))) (((g0 * h2) + (g1 * h5)) + (g2 * h8)) 2002 := (iok_add (k := 2002) (iok_add (k := 2001) (iok_mul (k := 2000) hg0 hh2 (by decide)) (iok_mul (k := 2000) hg1 hh5 (by decide)) (by decide)) (iok_mul (k := 2000) hg2 hh8 (by decide)) (by decide))
  refine kd [] [(3, some (bx (encA31 (A9.mk y7 y8 y9 (RInt.mk false []) (RInt.mk false []) (RInt.mk false []) (RInt.mk false []) (RInt.mk false []) (RInt.mk false [])))))] mo (wM <| wE (oMl 0 (hr := by decide)) <| wM <| wE (oAd 2 (hr := by decide)) <| wR (oLa sh32) <| wM <| wE (oCl (l_row0 g g0 g1 g2 g3 g4 g5 g6 g7 g8 (iu hg0) (iu hg1) (iu hg2) (iu hg3) (iu hg4) (iu hg5) (iu hg6) (iu hg7) (iu hg8))) <| wR (oLa sh32) <| wM <| wE (oCl (l_col2 h h0 h1 h2 h3 h4 h5 h6 h7 h8 (iu hh0) (iu hh1) (iu hh2) (iu hh3) (iu hh4) (iu hh5) (iu hh6) (iu hh7) (iu hh8))) <| wE (oCl (l_dot (A3.mk g.a0 g.a1 g.a2) g0 g1 g2 (iu hg0) (iu hg1) (iu hg2) (A3.mk h.a2 h.a5 h.a8) h2 h5 h8 (iu hh2) (iu hh5) (iu hh8))) <| wE (oXr ar32 2) <| wT (oSt sh30) <| wZ) ?_
  refine kx [(14, (vin 3))] [] (zE (oAd 3 (hr := by decide)) <| zM <| zZ) ?_
  refine pwp_again (SimImp.refl _) ?_
  refine pwp_seq <| kx [(15, (vb false))] [] (zE (oBk false oLt) <| zZ) ?_
  refine pwp_seq <| pwp_cond (b := false) (by kernel_rfl) (fun h => by cases h) (fun _ => ?_)
  refine pwp_exit <| kx [(11, (vin 1))] [] (zE (oAd 1 (hr := by decide)) <| zM <| zZ) ?_
  refine pwp_again (SimImp.refl _) ?_
  refine pwp_seq <| kx [(12, (vb true))] [] (zE (oBk true oLt) <| zZ) ?_
  refine pwp_seq <| pwp_cond (b := true) (by kernel_rfl) (fun _ => ?_) (fun h => by cases h)
  refine pwp_skip <| pwp_seq <| pwp_block <| pwp_seq <| kx [(6, (vin 1))] [] (zM <| zM <| zZ) ?_
  refine pwp_seq <| kx [(14, (vin 0))] [] (zM <| zZ) ?_
  refine pwp_block <| pwp_rounds 20 ?_
  refine pwp_round <| pwp_seq <| kx [(15, (vb true))] [] (zE (oBk true oLt) <| zZ) ?_
  refine pwp_seq <| pwp_cond (b := true) (by kernel_rfl) (fun _ => ?_) (fun h => by cases h)
  refine pwp_skip <| pwp_seq <| pwp_block <| pwp_seq <| kx [(7, (vin 0))] [] (zM <| zM <| zZ) ?_
  have bn4 : IOk (ofZ (((g3 * h0) + (g4 * h3)) + (g5 * h6))) (((g3 * h0) + (g4 * h3)) + (g5 * h6)) 2002 := (iok_add (k := 2002) (iok_add (k := 2001) (iok_mul (k := 2000) hg3 hh0 (by decide)) (iok_mul (k := 2000) hg4 hh3 (by decide)) (by decide)) (iok_mul (k := 2000) hg5 hh6 (by decide)) (by decide))
  refine kd [] [(3, some y3)] mo (wM <| wE (oMl 3 (hr := by decide)) <| wM <| wE (oAd 3 (hr := by decide)) <| wR (oLa sh32) <| wM <| wE (oCl (l_row1 g g0 g1 g2 g3 g4 g5 g6 g7 g8 (iu hg0) (iu hg1) (iu hg2) (iu hg3) (iu hg4) (iu hg5) (iu hg6) (iu hg7) (iu hg8))) <| wR (oLa sh32) <| wM <| wE (oCl (l_col0 h h0 h1 h2 h3 h4 h5 h6 h7 h8 (iu hh0) (iu hh1) (iu hh2) (iu hh3) (iu hh4) (iu hh5) (iu hh6) (iu hh7) (iu hh8))) <| wE (oCl (l_dot (A3.mk g.a3 g.a4 g.a5) g3 g4 g5 (iu hg3) (iu hg4) (iu hg5) (A3.mk h.a0 h.a3 h.a6) h0 h3 h6 (iu hh0) (iu hh3) (iu hh6))) <| wE (oXr ar32 3) <| wT (oSt sh30) <| wZ) ?_
  refine kx [(14, (vin 1))] [] (zE (oAd 1 (hr := by decide)) <| zM <| zZ) ?_
  refine pwp_again (SimImp.refl _) ?_
  refine pwp_seq <| kx [(15, (vb true))] [] (zE (oBk true oLt) <| zZ) ?_
  refine pwp_seq <| pwp_cond (b := true) (by kernel_rfl) (fun _ => ?_) (fun h => by cases h)
  refine pwp_skip <| pwp_seq <| pwp_block <| pwp_seq <| pwp_sim (wk (l := [(2, (.ref 0 0)), (3, (.ref 1 0)), (4, (.ref 2 0)), (5, (.ref 3 0)), (6, (vin 1)), (11, (vin 1)), (14, (vin 1)), (15, (vb true))]) (b := [(0, some (bx (encA31 g))), (1, some (bx (encA31 h))), (2, some y5), (3, some y3)])) ?_
  refine kx [(7, (vin 1))] [] (zM <| zM <| zZ) ?_
  have bn5 : IOk (ofZ (((g3 * h1) + (g4 * h4)) + (g5 * h7))) (((g3 * h1) + (g4 * h4)) + (g5 * h7)) 2002 := (iok_add (k := 2002) (iok_add (k := 2001) (iok_mul (k := 2000) hg3 hh1 (by decide)) (iok_mul (k := 2000) hg4 hh4 (by decide)) (by decide)) (iok_mul (k := 2000) hg5 hh7 (by decide)) (by decide))
  refine kd [] [(3, some (bx (encA31 (A9.mk y7 y8 y9 y10 (ofZ (((g3 * h1) + (g4 * h4)) + (g5 * h7))) (RInt.mk false []) (RInt.mk false []) (RInt.mk false []) (RInt.mk false [])))))] mo (wM <| wE (oMl 3 (hr := by decide)) <| wM <| wE (oAd 4 (hr := by decide)) <| wR (oLa sh32) <| wM <| wE (oCl (l_row1 g g0 g1 g2 g3 g4 g5 g6 g7 g8 (iu hg0) (iu hg1) (iu hg2) (iu hg3) (iu hg4) (iu hg5) (iu hg6) (iu hg7) (iu hg8))) <| wR (oLa sh32) <| wM <| wE (oCl (l_col1 h h0 h1 h2 h3 h4 h5 h6 h7 h8 (iu hh0) (iu hh1) (iu hh2) (iu hh3) (iu hh4) (iu hh5) (iu hh6) (iu hh7) (iu hh8))) <| wE (oCl (l_dot (A3.mk g.a3 g.a4 g.a5) g3 g4 g5 (iu hg3) (iu hg4) (iu hg5) (A3.mk h.a1 h.a4 h.a7) h1 h4 h7 (iu hh1) (iu hh4) (iu hh7))) <| wE (oXr ar32 4) <| wT (oSt sh30) <| wZ) ?_
  refine kx [(14, (vin 2))] [] (zE (oAd 2 (hr := by decide)) <| zM <| zZ) ?_
  refine pwp_again (SimImp.refl _) ?_
  refine pwp_seq <| kx [(15, (vb true))] [] (zE (oBk true oLt) <| zZ) ?_
  refine pwp_seq <| pwp_cond (b := true) (by kernel_rfl) (fun _ => ?_) (fun h => by cases h)
  refine pwp_skip <| pwp_seq <| pwp_block <| pwp_seq <| kx [(7, (vin 2))] [] (zM <| zM <| zZ) ?_
  have bn6 : IOk (ofZ (((g3 * h2) + (g4 * h5)) + (g5 * h8))) (((g3 * h2) + (g4 * h5)) + (g5 * h8)) 2002 := (iok_add (k := 2002) (iok_add (k := 2001) (iok_mul (k := 2000) hg3 hh2 (by decide)) (iok_mul (k := 2000) hg4 hh5 (by decide)) (by decide)) (iok_mul (k := 2000) hg5 hh8 (by decide)) (by decide))
  refine kd [] [(3, some y2)] mo (wM <| wE (oMl 3 (hr := by decide)) <| wM <| wE (oAd 5 (hr := by decide)) <| wR (oLa sh32) <| wM <| wE (oCl (l_row1 g g0 g1 g2 g3 g4 g5 g6 g7 g8 (iu hg0) (iu hg1) (iu hg2) (iu hg3) (iu hg4) (iu hg5) (iu hg6) (iu hg7) (iu hg8))) <| wR (oLa sh32) <| wM <| wE (oCl (l_col2 h h0 h1 h2 h3 h4 h5 h6 h7 h8 (iu hh0) (iu hh1) (iu hh2) (iu hh3) (iu hh4) (iu hh5) (iu hh6) (iu hh7) (iu hh8))) <| wE (oCl (l_dot (A3.mk g.a3 g.a4 g.a5) g3 g4 g5 (iu hg3) (iu hg4) (iu hg5) (A3.mk h.a2 h.a5 h.a8) h2 h5 h8 (iu hh2) (iu hh5) (iu hh8))) <| wE (oXr ar32 5) <| wT (oSt sh30) <| wZ) ?_
  refine kx [(14, (vin 3))] [] (zE (oAd 3 (hr := by decide)) <| zM <| zZ) ?_
  refine pwp_again (SimImp.refl _) ?_
  refine pwp_seq <| kx [(15, (vb false))] [] (zE (oBk false oLt) <| zZ) ?_
  refine pwp_seq <| pwp_cond (b := false) (by kernel_rfl) (fun h => by cases h) (fun _ => ?_)
  refine pwp_exit <| kx [(11, (vin 2))] [] (zE (oAd 2 (hr := by decide)) <| zM <| zZ) ?_
  refine pwp_again (SimImp.refl _) ?_
  refine pwp_seq <| kx [(12, (vb true))] [] (zE (oBk true oLt) <| zZ) ?_
  refine pwp_seq <| pwp_cond (b := true) (by kernel_rfl) (fun _ => ?_) (fun h => by cases h)
  refine pwp_skip <| pwp_seq <| pwp_block <| pwp_seq <| kx [(6, (vin 2))] [] (zM <| zM <| zZ) ?_
  refine pwp_seq <| kx [(14, (vin 0))] [] (zM <| zZ) ?_
  refine pwp_block <| pwp_rounds 20 ?_
  refine pwp_round <| pwp_seq <| kx [(15, (vb true))] [] (zE (oBk true oLt) <| zZ) ?_
  refine pwp_seq <| pwp_cond (b := true) (by kernel_rfl) (fun _ => ?_) (fun h => by cases h)
  refine pwp_skip <| pwp_seq <| pwp_block <| pwp_seq <| kx [(7, (vin 0))] [] (zM <| zM <| zZ) ?_
  refine pwp_sim (wk (l := [(2, (.ref 0 0)), (3, (.ref 1 0)), (4, (.ref 2 0)), (5, (.ref 3 0)), (6, (vin 2)), (7, (vin 0)), (11, (vin 2)), (14, (vin 0))]) (b := [(0, some (bx (encA31 g))), (1, some (bx (encA31 h))), (2, some y5), (3, some y2)])) ?_
  have bn7 : IOk (ofZ (((g6 * h0) + (g7 * h3)) + (g8 * h6))) (((g6 * h0) + (g7 * h3)) + (g8 * h6)) 2002 := (iok_add (k := 2002) (iok_add (k := 2001) (iok_mul (k := 2000) hg6 hh0 (by decide)) (iok_mul (k := 2000) hg7 hh3 (by decide)) (by decide)) (iok_mul (k := 2000) hg8 hh6 (by decide)) (by decide))
  refine kd [] [(3, some (bx (encA31 (A9.mk y7 y8 y9 y10 (ofZ (((g3 * h1) + (g4 * h4)) + (g5 * h7))) (ofZ (((g3 * h2) + (g4 * h5)) + (g5 * h8))) (ofZ (((g6 * h0) + (g7 * h3)) + (g8 * h6))) (RInt.mk false []) (RInt.mk false [])))))] mo (wM <| wE (oMl 6 (hr := by decide)) <| wM <| wE (oAd 6 (hr := by decide)) <| wR (oLa sh32) <| wM <| wE (oCl (l_row2 g g0 g1 g2 g3 g4 g5 g6 g7 g8 (iu hg0) (iu hg1) (iu hg2) (iu hg3) (iu hg4) (iu hg5) (iu hg6) (iu hg7) (iu hg8))) <| wR (oLa sh32) <| wM <| wE (oCl (l_col0 h h0 h1 h2 h3 h4 h5 h6 h7 h8 (iu hh0) (iu hh1) (iu hh2) (iu hh3) (iu hh4) (iu hh5) (iu hh6) (iu hh7) (iu hh8))) <| wE (oCl (l_dot (A3.mk g.a6 g.a7 g.a8) g6 g7 g8 (iu hg6) (iu hg7) (iu hg8) (A3.mk h.a0 h.a3 h.a6) h0 h3 h6 (iu hh0) (iu hh3) (iu hh6))) <| wE (oXr ar32 6) <| wT (oSt sh30) <| wZ) ?_
  refine kx [(14, (vin 1))] [] (zE (oAd 1 (hr := by decide)) <| zM <| zZ) ?_
  refine pwp_again (SimImp.refl _) ?_
  refine pwp_seq <| kx [(15, (vb true))] [] (zE (oBk true oLt) <| zZ) ?_
  refine pwp_seq <| pwp_cond (b := true) (by kernel_rfl) (fun _ => ?_) (fun h => by cases h)
  refine pwp_skip <| pwp_seq <| pwp_block <| pwp_seq <| kx [(7, (vin 1))] [] (zM <| zM <| zZ) ?_
  have bn8 : IOk (ofZ (((g6 * h1) + (g7 * h4)) + (g8 * h7))) (((g6 * h1) + (g7 * h4)) + (g8 * h7)) 2002 := (iok_add (k := 2002) (iok_add (k := 2001) (iok_mul (k := 2000) hg6 hh1 (by decide)) (iok_mul (k := 2000) hg7 hh4 (by decide)) (by decide)) (iok_mul (k := 2000) hg8 hh7 (by decide)) (by decide))
  refine kd [] [(3, some (bx (encA31 (A9.mk y7 y8 y9 y10 (ofZ (((g3 * h1) + (g4 * h4)) + (g5 * h7))) (ofZ (((g3 * h2) + (g4 * h5)) + (g5 * h8))) (ofZ (((g6 * h0) + (g7 * h3)) + (g8 * h6))) (ofZ (((g6 * h1) + (g7 * h4)) + (g8 * h7))) (RInt.mk false [])))))] mo (wM <| wE (oMl 6 (hr := by decide)) <| wM <| wE (oAd 7 (hr := by decide)) <| wR (oLa sh32) <| wM <| wE (oCl (l_row2 g g0 g1 g2 g3 g4 g5 g6 g7 g8 (iu hg0) (iu hg1) (iu hg2) (iu hg3) (iu hg4) (iu hg5) (iu hg6) (iu hg7) (iu hg8))) <| wR (oLa sh32) <| wM <| wE (oCl (l_col1 h h0 h1 h2 h3 h4 h5 h6 h7 h8 (iu hh0) (iu hh1) (iu hh2) (iu hh3) (iu hh4) (iu hh5) (iu hh6) (iu hh7) (iu hh8))) <| wE (oCl (l_dot (A3.mk g.a6 g.a7 g.a8) g6 g7 g8 (iu hg6) (iu hg7) (iu hg8) (A3.mk h.a1 h.a4 h.a7) h1 h4 h7 (iu hh1) (iu hh4) (iu hh7))) <| wE (oXr ar32 7) <| wT (oSt sh30) <| wZ) ?_
  refine kx [(14, (vin 2))] [] (zE (oAd 2 (hr := by decide)) <| zM <| zZ) ?_
  refine pwp_again (SimImp.refl _) ?_
  refine pwp_seq <| kx [(15, (vb true))] [] (zE (oBk true oLt) <| zZ) ?_
  refine pwp_seq <| pwp_cond (b := true) (by kernel_rfl) (fun _ => ?_) (fun h => by cases h)
  refine pwp_skip <| pwp_seq <| pwp_block <| pwp_seq <| kx [(7, (vin 2))] [] (zM <| zM <| zZ) ?_
  have bn9 : IOk (ofZ (((g6 * h2) + (g7 * h5)) + (g8 * h8))) (((g6 * h2) + (g7 * h5)) + (g8 * h8)) 2002 := (iok_add (k := 2002) (iok_add (k := 2001) (iok_mul (k := 2000) hg6 hh2 (by decide)) (iok_mul (k := 2000) hg7 hh5 (by decide)) (by decide)) (iok_mul (k := 2000) hg8 hh8 (by decide)) (by decide))
  refine kd [] [(3, some (bx (encA31 y1)))] mo (wM <| wE (oMl 6 (hr := by decide)) <| wM <| wE (oAd 8 (hr := by decide)) <| wR (oLa sh32) <| wM <| wE (oCl (l_row2 g g0 g1 g2 g3 g4 g5 g6 g7 g8 (iu hg0) (iu hg1) (iu hg2) (iu hg3) (iu hg4) (iu hg5) (iu hg6) (iu hg7) (iu hg8))) <| wR (oLa sh32) <| wM <| wE (oCl (l_col2 h h0 h1 h2 h3 h4 h5 h6 h7 h8 (iu hh0) (iu hh1) (iu hh2) (iu hh3) (iu hh4) (iu hh5) (iu hh6) (iu hh7) (iu hh8))) <| wE (oCl (l_dot (A3.mk g.a6 g.a7 g.a8) g6 g7 g8 (iu hg6) (iu hg7) (iu hg8) (A3.mk h.a2 h.a5 h.a8) h2 h5 h8 (iu hh2) (iu hh5) (iu hh8))) <| wE (oXr ar32 8) <| wT (oSt sh30) <| wZ) ?_
  refine kx [(14, (vin 3))] [] (zE (oAd 3 (hr := by decide)) <| zM <| zZ) ?_
  refine pwp_again (SimImp.refl _) ?_
  refine pwp_seq <| kx [(15, (vb false))] [] (zE (oBk false oLt) <| zZ) ?_
  refine pwp_seq <| pwp_cond (b := false) (by kernel_rfl) (fun h => by cases h) (fun _ => ?_)
  refine pwp_exit <| kx [(11, (vin 3))] [] (zE (oAd 3 (hr := by decide)) <| zM <| zZ) ?_
  refine pwp_again (SimImp.refl _) ?_
  refine pwp_seq <| kx [(12, (vb false))] [] (zE (oBk false oLt) <| zZ) ?_
  refine pwp_seq <| pwp_cond (b := false) (by kernel_rfl) (fun h => by cases h) (fun _ => ?_)
  refine pwp_exit <| pwp_seq ?_
  have bn10 : ∀ c ∈ [c0, c1, c2, c3, c4, c5, c6, c7, c8], IOk (ofZ c) c 2002 := red_iok (n := 2002) (.cons bn1 (.cons bn2 (.cons bn3 (.cons bn4 (.cons bn5 (.cons bn6 (.cons bn7 (.cons bn8 (.cons bn9 .nil))))))))) hc
  refine kx [(8, (.ref 4 0))] [(4, some y6)] (zR (oLa sh32) <| zE (oCl (l_reduce y1 (((g0 * h0) + (g1 * h3)) + (g2 * h6)) (((g0 * h1) + (g1 * h4)) + (g2 * h7)) (((g0 * h2) + (g1 * h5)) + (g2 * h8)) (((g3 * h0) + (g4 * h3)) + (g5 * h6)) (((g3 * h1) + (g4 * h4)) + (g5 * h7)) (((g3 * h2) + (g4 * h5)) + (g5 * h8)) (((g6 * h0) + (g7 * h3)) + (g8 * h6)) (((g6 * h1) + (g7 * h4)) + (g8 * h7)) (((g6 * h2) + (g7 * h5)) + (g8 * h8)) (iu bn1) (iu bn2) (iu bn3) (iu bn4) (iu bn5) (iu bn6) (iu bn7) (iu bn8) (iu bn9) c0 c1 c2 c3 c4 c5 c6 c7 c8 hc hnz hd)) <| zM <| zE oEx <| zE oEx <| zN (oAl 4 ze32 zo32) <| zT (oSt sh32) <| zM <| zZ) ?_
  refine pwp_seq <| pwp_sim (wk (l := [(4, (.ref 2 0)), (8, (.ref 4 0))]) (b := [(2, some y5), (4, some y6)])) ?_
  refine kx [] [(2, some y6)] (zR (oLa sh32) <| zT (oSt sh32) <| zZ) ?_
  refine pwp_ret ⟨_, (res_a (cs := (bx (encA31 (A9.mk (ofZ c0) (ofZ c1) (ofZ c2) (ofZ c3) (ofZ c4) (ofZ c5) (ofZ c6) (ofZ c7) (ofZ c8))))) (d := (encA31 (A9.mk (ofZ c0) (ofZ c1) (ofZ c2) (ofZ c3) (ofZ c4) (ofZ c5) (ofZ c6) (ofZ c7) (ofZ c8)))) rfl rfl sh32 rfl rfl .nil), ?_⟩
  rfl
theorem l_inverse (h : A9 RInt) (h0 h1 h2 h3 h4 h5 h6 h7 h8 : Int) (hh0 : IOk h.a0 h0 1000) (hh1 : IOk h.a1 h1 1000) (hh2 : IOk h.a2 h2 1000) (hh3 : IOk h.a3 h3 1000) (hh4 : IOk h.a4 h4 1000) (hh5 : IOk h.a5 h5 1000) (hh6 : IOk h.a6 h6 1000) (hh7 : IOk h.a7 h7 1000) (hh8 : IOk h.a8 h8 1000) (c0 c1 c2 c3 c4 c5 c6 c7 c8 : Int) (hc : redL [((h4 * h8) - (h5 * h7)), ((h7 * h2) - (h8 * h1)), ((h1 * h5) - (h2 * h4)), ((h5 * h6) - (h3 * h8)), ((h8 * h0) - (h6 * h2)), ((h2 * h3) - (h0 * h5)), ((h3 * h7) - (h4 * h6)), ((h6 * h1) - (h7 * h0)), ((h0 * h4) - (h1 * h3))] = [c0, c1, c2, c3, c4, c5, c6, c7, c8]) (hnz : sgnL [((h4 * h8) - (h5 * h7)), ((h7 * h2) - (h8 * h1)), ((h1 * h5) - (h2 * h4)), ((h5 * h6) - (h3 * h8)), ((h8 * h0) - (h6 * h2)), ((h2 * h3) - (h0 * h5)), ((h3 * h7) - (h4 * h6)), ((h6 * h1) - (h7 * h0)), ((h0 * h4) - (h1 * h3))] ≠ 0) (hd : signI (det3 ((h4 * h8) - (h5 * h7)) ((h7 * h2) - (h8 * h1)) ((h1 * h5) - (h2 * h4)) ((h5 * h6) - (h3 * h8)) ((h8 * h0) - (h6 * h2)) ((h2 * h3) - (h0 * h5)) ((h3 * h7) - (h4 * h6)) ((h6 * h1) - (h7 * h0)) ((h0 * h4) - (h1 * h3))) ≠ 0) : Takes Tryz.prog 29 [(encA31 h)] (encA31 (A9.mk (ofZ c0) (ofZ c1) (ofZ c2) (ofZ c3) (ofZ c4) (ofZ c5) (ofZ c6) (ofZ c7) (ofZ c8))) := by
  refine fn_intro Tryz.func29 rfl cb29 rfl ?_
  show PWp _ _ _ _ ⟨[(0, (.d (encA31 h)))], []⟩
  refine pwp_seq <| kx [(1, (.ref 0 0)), (2, (.ref 1 0))] [(0, some (bx (encA31 h))), (1, some (bx (encA31 (A9.mk (RInt.mk false []) (RInt.mk false []) (RInt.mk false []) (RInt.mk false []) (RInt.mk false []) (RInt.mk false []) (RInt.mk false []) (RInt.mk false []) (RInt.mk false [])))))] (zN (oBx 0) <| zN (oAl 1 ze32 zo32) <| zZ) ?_
  refine pwp_seq ?_
  have bn1 : IOk (ofZ ((h4 * h8) - (h5 * h7))) ((h4 * h8) - (h5 * h7)) 2001 := (iok_sub (k := 2001) (iok_mul (k := 2000) hh4 hh8 (by decide)) (iok_mul (k := 2000) hh5 hh7 (by decide)) (by decide))
  have bn2 : IOk (ofZ ((h7 * h2) - (h8 * h1))) ((h7 * h2) - (h8 * h1)) 2001 := (iok_sub (k := 2001) (iok_mul (k := 2000) hh7 hh2 (by decide)) (iok_mul (k := 2000) hh8 hh1 (by decide)) (by decide))
  have bn3 : IOk (ofZ ((h1 * h5) - (h2 * h4))) ((h1 * h5) - (h2 * h4)) 2001 := (iok_sub (k := 2001) (iok_mul (k := 2000) hh1 hh5 (by decide)) (iok_mul (k := 2000) hh2 hh4 (by decide)) (by decide))
  have bn4 : IOk (ofZ ((h5 * h6) - (h3 * h8))) ((h5 * h6) - (h3 * h8)) 2001 := (iok_sub (k := 2001) (iok_mul (k := 2000) hh5 hh6 (by decide)) (iok_mul (k := 2000) hh3 hh8 (by decide)) (by decide))
  have bn5 : IOk (ofZ ((h8 * h0) - (h6 * h2))) ((h8 * h0) - (h6 * h2)) 2001 := (iok_sub (k := 2001) (iok_mul (k := 2000) hh8 hh0 (by decide)) (iok_mul (k := 2000) hh6 hh2 (by decide)) (by decide))
  have bn6 : IOk (ofZ ((h2 * h3) - (h0 * h5))) ((h2 * h3) - (h0 * h5)) 2001 := (iok_sub (k := 2001) (iok_mul (k := 2000) hh2 hh3 (by decide)) (iok_mul (k := 2000) hh0 hh5 (by decide)) (by decide))
  have bn7 : IOk (ofZ ((h3 * h7) - (h4 * h6))) ((h3 * h7) - (h4 * h6)) 2001 := (iok_sub (k := 2001) (iok_mul (k := 2000) hh3 hh7 (by decide)) (iok_mul (k := 2000) hh4 hh6 (by decide)) (by decide))
  have bn8 : IOk (ofZ ((h6 * h1) - (h7 * h0))) ((h6 * h1) - (h7 * h0)) 2001 := (iok_sub (k := 2001) (iok_mul (k := 2000) hh6 hh1 (by decide)) (iok_mul (k := 2000) hh7 hh0 (by decide)) (by decide))
  have bn9 : IOk (ofZ ((h0 * h4) - (h1 * h3))) ((h0 * h4) - (h1 * h3)) 2001 := (iok_sub (k := 2001) (iok_mul (k := 2000) hh0 hh4 (by decide)) (iok_mul (k := 2000) hh1 hh3 (by decide)) (by decide))
  have bn10 : ∀ c ∈ [c0, c1, c2, c3, c4, c5, c6, c7, c8], IOk (ofZ c) c 2001 := red_iok (n := 2001) (.cons bn1 (.cons bn2 (.cons bn3 (.cons bn4 (.cons bn5 (.cons bn6 (.cons bn7 (.cons bn8 (.cons bn9 .nil))))))))) hc
  refine kx [(3, (.ref 2 0))] [(2, some (bx (encA31 (A9.mk (ofZ c0) (ofZ c1) (ofZ c2) (ofZ c3) (ofZ c4) (ofZ c5) (ofZ c6) (ofZ c7) (ofZ c8)))))] (zR (oLa sh32) <| zE (oCl (l_adj h h0 h1 h2 h3 h4 h5 h6 h7 h8 (iu hh0) (iu hh1) (iu hh2) (iu hh3) (iu hh4) (iu hh5) (iu hh6) (iu hh7) (iu hh8))) <| zE (oCl (l_reduce (A9.mk (ofZ ((h4 * h8) - (h5 * h7))) (ofZ ((h7 * h2) - (h8 * h1))) (ofZ ((h1 * h5) - (h2 * h4))) (ofZ ((h5 * h6) - (h3 * h8))) (ofZ ((h8 * h0) - (h6 * h2))) (ofZ ((h2 * h3) - (h0 * h5))) (ofZ ((h3 * h7) - (h4 * h6))) (ofZ ((h6 * h1) - (h7 * h0))) (ofZ ((h0 * h4) - (h1 * h3)))) ((h4 * h8) - (h5 * h7)) ((h7 * h2) - (h8 * h1)) ((h1 * h5) - (h2 * h4)) ((h5 * h6) - (h3 * h8)) ((h8 * h0) - (h6 * h2)) ((h2 * h3) - (h0 * h5)) ((h3 * h7) - (h4 * h6)) ((h6 * h1) - (h7 * h0)) ((h0 * h4) - (h1 * h3)) (iu bn1) (iu bn2) (iu bn3) (iu bn4) (iu bn5) (iu bn6) (iu bn7) (iu bn8) (iu bn9) c0 c1 c2 c3 c4 c5 c6 c7 c8 hc hnz hd)) <| zM <| zE oEx <| zE oEx <| zN (oAl 2 ze32 zo32) <| zT (oSt sh32) <| zM <| zZ) ?_
  refine pwp_seq <| kx [] [(1, some (bx (encA31 (A9.mk (ofZ c0) (ofZ c1) (ofZ c2) (ofZ c3) (ofZ c4) (ofZ c5) (ofZ c6) (ofZ c7) (ofZ c8)))))] (zR (oLa sh32) <| zT (oSt sh32) <| zZ) ?_
  refine pwp_ret ⟨_, (res_a (cs := (bx (encA31 (A9.mk (ofZ c0) (ofZ c1) (ofZ c2) (ofZ c3) (ofZ c4) (ofZ c5) (ofZ c6) (ofZ c7) (ofZ c8))))) (d := (encA31 (A9.mk (ofZ c0) (ofZ c1) (ofZ c2) (ofZ c3) (ofZ c4) (ofZ c5) (ofZ c6) (ofZ c7) (ofZ c8)))) rfl rfl sh32 rfl rfl .nil), ?_⟩
  rfl
theorem l_made (n0 n1 n2 n3 n4 n5 n6 n7 n8 : Int) (hn0 : -1048576 ≤ n0 ∧ n0 ≤ 1048576) (hn1 : -1048576 ≤ n1 ∧ n1 ≤ 1048576) (hn2 : -1048576 ≤ n2 ∧ n2 ≤ 1048576) (hn3 : -1048576 ≤ n3 ∧ n3 ≤ 1048576) (hn4 : -1048576 ≤ n4 ∧ n4 ≤ 1048576) (hn5 : -1048576 ≤ n5 ∧ n5 ≤ 1048576) (hn6 : -1048576 ≤ n6 ∧ n6 ≤ 1048576) (hn7 : -1048576 ≤ n7 ∧ n7 ≤ 1048576) (hn8 : -1048576 ≤ n8 ∧ n8 ≤ 1048576) (c0 c1 c2 c3 c4 c5 c6 c7 c8 : Int) (hc : redL [n0, n1, n2, n3, n4, n5, n6, n7, n8] = [c0, c1, c2, c3, c4, c5, c6, c7, c8]) (hnz : sgnL [n0, n1, n2, n3, n4, n5, n6, n7, n8] ≠ 0) (hd : signI (det3 n0 n1 n2 n3 n4 n5 n6 n7 n8) ≠ 0) : Takes Tryz.prog 41 [(encA80 (A9.mk n0 n1 n2 n3 n4 n5 n6 n7 n8))] (.tup [(encA31 (A9.mk (ofZ c0) (ofZ c1) (ofZ c2) (ofZ c3) (ofZ c4) (ofZ c5) (ofZ c6) (ofZ c7) (ofZ c8))), (.val (.bool (true)))]) := by
  let y1 := (bx (encA31 (A9.mk (RInt.mk false []) (RInt.mk false []) (RInt.mk false []) (RInt.mk false []) (RInt.mk false []) (RInt.mk false []) (RInt.mk false []) (RInt.mk false []) (RInt.mk false []))))
  refine fn_intro Tryz.func41 rfl cb41 rfl ?_
  show PWp _ _ _ _ ⟨[(0, (.d (encA80 (A9.mk n0 n1 n2 n3 n4 n5 n6 n7 n8))))], []⟩
  refine pwp_seq <| kx [(1, (.ref 0 0)), (2, (.ref 1 0))] [(0, some (bx (encA80 (A9.mk n0 n1 n2 n3 n4 n5 n6 n7 n8)))), (1, some y1)] (zN (oBx 0) <| zN (oAl 1 ze32 zo32) <| zM <| zZ) ?_
  refine pwp_seq <| kx [(4, (.ref 2 0))] [(2, some y1)] (zE (oBa ar32 ze32 zo32) <| zN (oAl 2 ze32 zo32) <| zT (oSt sh32) <| zZ) ?_
  refine pwp_seq <| pwp_seq <| kx [(8, (.d (encA80 (A9.mk n0 n1 n2 n3 n4 n5 n6 n7 n8)))), (9, (vin 0))] [] (zR (oLa sh80) <| zM <| zZ) ?_
  refine pwp_block <| pwp_rounds 20 ?_
  refine pwp_round <| pwp_seq <| kx [(10, (vb true))] [] (zE (oBk true oLt) <| zZ) ?_
  refine pwp_seq <| pwp_cond (b := true) (by kernel_rfl) (fun _ => ?_) (fun h => by cases h)
  refine pwp_skip <| pwp_seq <| pwp_block <| pwp_seq <| kx [(5, (vin 0)), (6, (vi n0))] [] (zM <| zE (oXa ar80 sh3 (fun _ => rfl) 0) <| zM <| zM <| zZ) ?_
  refine kx [] [(2, some (bx (encA31 (A9.mk (ofZ n0) (RInt.mk false []) (RInt.mk false []) (RInt.mk false []) (RInt.mk false []) (RInt.mk false []) (RInt.mk false []) (RInt.mk false []) (RInt.mk false [])))))] (zM <| zM <| zE (oCl (l_wholeI n0 (by omega) (by omega))) <| zE (oXr ar32 0) <| zT (oSt sh30) <| zZ) ?_
  refine kx [(9, (vin 1))] [] (zE (oAd 1 (hr := by decide)) <| zM <| zZ) ?_
  refine pwp_again (SimImp.refl _) ?_
  refine pwp_seq <| kx [(10, (vb true))] [] (zE (oBk true oLt) <| zZ) ?_
  refine pwp_seq <| pwp_cond (b := true) (by kernel_rfl) (fun _ => ?_) (fun h => by cases h)
  refine pwp_skip <| pwp_seq <| pwp_block <| pwp_seq <| kx [(5, (vin 1)), (6, (vi n1))] [] (zM <| zE (oXa ar80 sh3 (fun _ => rfl) 1) <| zM <| zM <| zZ) ?_
  refine kx [] [(2, some (bx (encA31 (A9.mk (ofZ n0) (ofZ n1) (RInt.mk false []) (RInt.mk false []) (RInt.mk false []) (RInt.mk false []) (RInt.mk false []) (RInt.mk false []) (RInt.mk false [])))))] (zM <| zM <| zE (oCl (l_wholeI n1 (by omega) (by omega))) <| zE (oXr ar32 1) <| zT (oSt sh30) <| zZ) ?_
  refine kx [(9, (vin 2))] [] (zE (oAd 2 (hr := by decide)) <| zM <| zZ) ?_
  refine pwp_again (SimImp.refl _) ?_
  refine pwp_seq <| kx [(10, (vb true))] [] (zE (oBk true oLt) <| zZ) ?_
  refine pwp_seq <| pwp_cond (b := true) (by kernel_rfl) (fun _ => ?_) (fun h => by cases h)
  refine pwp_skip <| pwp_seq <| pwp_block <| pwp_seq <| kx [(5, (vin 2)), (6, (vi n2))] [] (zM <| zE (oXa ar80 sh3 (fun _ => rfl) 2) <| zM <| zM <| zZ) ?_
  refine kx [] [(2, some (bx (encA31 (A9.mk (ofZ n0) (ofZ n1) (ofZ n2) (RInt.mk false []) (RInt.mk false []) (RInt.mk false []) (RInt.mk false []) (RInt.mk false []) (RInt.mk false [])))))] (zM <| zM <| zE (oCl (l_wholeI n2 (by omega) (by omega))) <| zE (oXr ar32 2) <| zT (oSt sh30) <| zZ) ?_
  refine pwp_sim (wk (l := [(2, (.ref 1 0)), (4, (.ref 2 0)), (8, (.d (encA80 (A9.mk n0 n1 n2 n3 n4 n5 n6 n7 n8)))), (9, (vin 2))]) (b := [(1, some y1), (2, some (bx (encA31 (A9.mk (ofZ n0) (ofZ n1) (ofZ n2) (RInt.mk false []) (RInt.mk false []) (RInt.mk false []) (RInt.mk false []) (RInt.mk false []) (RInt.mk false [])))))])) ?_
  refine kx [(9, (vin 3))] [] (zE (oAd 3 (hr := by decide)) <| zM <| zZ) ?_
  refine pwp_again (SimImp.refl _) ?_
  refine pwp_seq <| kx [(10, (vb true))] [] (zE (oBk true oLt) <| zZ) ?_
  refine pwp_seq <| pwp_cond (b := true) (by kernel_rfl) (fun _ => ?_) (fun h => by cases h)
  refine pwp_skip <| pwp_seq <| pwp_block <| pwp_seq <| kx [(5, (vin 3)), (6, (vi n3))] [] (zM <| zE (oXa ar80 sh3 (fun _ => rfl) 3) <| zM <| zM <| zZ) ?_
  refine kx [] [(2, some (bx (encA31 (A9.mk (ofZ n0) (ofZ n1) (ofZ n2) (ofZ n3) (RInt.mk false []) (RInt.mk false []) (RInt.mk false []) (RInt.mk false []) (RInt.mk false [])))))] (zM <| zM <| zE (oCl (l_wholeI n3 (by omega) (by omega))) <| zE (oXr ar32 3) <| zT (oSt sh30) <| zZ) ?_
  refine kx [(9, (vin 4))] [] (zE (oAd 4 (hr := by decide)) <| zM <| zZ) ?_
  refine pwp_again (SimImp.refl _) ?_
  refine pwp_seq <| kx [(10, (vb true))] [] (zE (oBk true oLt) <| zZ) ?_
  refine pwp_seq <| pwp_cond (b := true) (by kernel_rfl) (fun _ => ?_) (fun h => by cases h)
  refine pwp_skip <| pwp_seq <| pwp_block <| pwp_seq <| kx [(5, (vin 4)), (6, (vi n4))] [] (zM <| zE (oXa ar80 sh3 (fun _ => rfl) 4) <| zM <| zM <| zZ) ?_
  refine kx [] [(2, some (bx (encA31 (A9.mk (ofZ n0) (ofZ n1) (ofZ n2) (ofZ n3) (ofZ n4) (RInt.mk false []) (RInt.mk false []) (RInt.mk false []) (RInt.mk false [])))))] (zM <| zM <| zE (oCl (l_wholeI n4 (by omega) (by omega))) <| zE (oXr ar32 4) <| zT (oSt sh30) <| zZ) ?_
  refine kx [(9, (vin 5))] [] (zE (oAd 5 (hr := by decide)) <| zM <| zZ) ?_
  refine pwp_again (SimImp.refl _) ?_
  refine pwp_seq <| kx [(10, (vb true))] [] (zE (oBk true oLt) <| zZ) ?_
  refine pwp_seq <| pwp_cond (b := true) (by kernel_rfl) (fun _ => ?_) (fun h => by cases h)
  refine pwp_skip <| pwp_seq <| pwp_block <| pwp_seq <| kx [(5, (vin 5)), (6, (vi n5))] [] (zM <| zE (oXa ar80 sh3 (fun _ => rfl) 5) <| zM <| zM <| zZ) ?_
  refine kx [] [(2, some (bx (encA31 (A9.mk (ofZ n0) (ofZ n1) (ofZ n2) (ofZ n3) (ofZ n4) (ofZ n5) (RInt.mk false []) (RInt.mk false []) (RInt.mk false [])))))] (zM <| zM <| zE (oCl (l_wholeI n5 (by omega) (by omega))) <| zE (oXr ar32 5) <| zT (oSt sh30) <| zZ) ?_
  refine kx [(9, (vin 6))] [] (zE (oAd 6 (hr := by decide)) <| zM <| zZ) ?_
  refine pwp_again (SimImp.refl _) ?_
  refine pwp_seq <| kx [(10, (vb true))] [] (zE (oBk true oLt) <| zZ) ?_
  refine pwp_seq <| pwp_cond (b := true) (by kernel_rfl) (fun _ => ?_) (fun h => by cases h)
  refine pwp_skip <| pwp_seq <| pwp_block <| pwp_seq <| pwp_sim (wk (l := [(2, (.ref 1 0)), (4, (.ref 2 0)), (8, (.d (encA80 (A9.mk n0 n1 n2 n3 n4 n5 n6 n7 n8)))), (9, (vin 6)), (10, (vb true))]) (b := [(1, some y1), (2, some (bx (encA31 (A9.mk (ofZ n0) (ofZ n1) (ofZ n2) (ofZ n3) (ofZ n4) (ofZ n5) (RInt.mk false []) (RInt.mk false []) (RInt.mk false [])))))])) ?_
  refine kx [(5, (vin 6)), (6, (vi n6))] [] (zM <| zE (oXa ar80 sh3 (fun _ => rfl) 6) <| zM <| zM <| zZ) ?_
  refine kx [] [(2, some (bx (encA31 (A9.mk (ofZ n0) (ofZ n1) (ofZ n2) (ofZ n3) (ofZ n4) (ofZ n5) (ofZ n6) (RInt.mk false []) (RInt.mk false [])))))] (zM <| zM <| zE (oCl (l_wholeI n6 (by omega) (by omega))) <| zE (oXr ar32 6) <| zT (oSt sh30) <| zZ) ?_
  refine kx [(9, (vin 7))] [] (zE (oAd 7 (hr := by decide)) <| zM <| zZ) ?_
  refine pwp_again (SimImp.refl _) ?_
  refine pwp_seq <| kx [(10, (vb true))] [] (zE (oBk true oLt) <| zZ) ?_
  refine pwp_seq <| pwp_cond (b := true) (by kernel_rfl) (fun _ => ?_) (fun h => by cases h)
  refine pwp_skip <| pwp_seq <| pwp_block <| pwp_seq <| kx [(5, (vin 7)), (6, (vi n7))] [] (zM <| zE (oXa ar80 sh3 (fun _ => rfl) 7) <| zM <| zM <| zZ) ?_
  refine kx [] [(2, some (bx (encA31 (A9.mk (ofZ n0) (ofZ n1) (ofZ n2) (ofZ n3) (ofZ n4) (ofZ n5) (ofZ n6) (ofZ n7) (RInt.mk false [])))))] (zM <| zM <| zE (oCl (l_wholeI n7 (by omega) (by omega))) <| zE (oXr ar32 7) <| zT (oSt sh30) <| zZ) ?_
  refine kx [(9, (vin 8))] [] (zE (oAd 8 (hr := by decide)) <| zM <| zZ) ?_
  refine pwp_again (SimImp.refl _) ?_
  refine pwp_seq <| kx [(10, (vb true))] [] (zE (oBk true oLt) <| zZ) ?_
  refine pwp_seq <| pwp_cond (b := true) (by kernel_rfl) (fun _ => ?_) (fun h => by cases h)
  refine pwp_skip <| pwp_seq <| pwp_block <| pwp_seq <| kx [(5, (vin 8)), (6, (vi n8))] [] (zM <| zE (oXa ar80 sh3 (fun _ => rfl) 8) <| zM <| zM <| zZ) ?_
  refine kx [] [(2, some (bx (encA31 (A9.mk (ofZ n0) (ofZ n1) (ofZ n2) (ofZ n3) (ofZ n4) (ofZ n5) (ofZ n6) (ofZ n7) (ofZ n8)))))] (zM <| zM <| zE (oCl (l_wholeI n8 (by omega) (by omega))) <| zE (oXr ar32 8) <| zT (oSt sh30) <| zZ) ?_
  refine kx [(9, (vin 9))] [] (zE (oAd 9 (hr := by decide)) <| zM <| zZ) ?_
  refine pwp_again (SimImp.refl _) ?_
  refine pwp_seq <| kx [(10, (vb false))] [] (zE (oBk false oLt) <| zZ) ?_
  refine pwp_seq <| pwp_cond (b := false) (by kernel_rfl) (fun h => by cases h) (fun _ => ?_)
  refine pwp_exit <| pwp_seq ?_
  have bn1 : ∀ c ∈ [c0, c1, c2, c3, c4, c5, c6, c7, c8], IOk (ofZ c) c 3 := red_iok (n := 3) (.cons (iok_int (z := n0) (by omega) (by omega)) (.cons (iok_int (z := n1) (by omega) (by omega)) (.cons (iok_int (z := n2) (by omega) (by omega)) (.cons (iok_int (z := n3) (by omega) (by omega)) (.cons (iok_int (z := n4) (by omega) (by omega)) (.cons (iok_int (z := n5) (by omega) (by omega)) (.cons (iok_int (z := n6) (by omega) (by omega)) (.cons (iok_int (z := n7) (by omega) (by omega)) (.cons (iok_int (z := n8) (by omega) (by omega)) .nil))))))))) hc
  refine kx [(3, (vb true))] [(1, some (bx (encA31 (A9.mk (ofZ c0) (ofZ c1) (ofZ c2) (ofZ c3) (ofZ c4) (ofZ c5) (ofZ c6) (ofZ c7) (ofZ c8)))))] (zR (oLa sh32) <| zE (oCl (l_reduce (A9.mk (ofZ n0) (ofZ n1) (ofZ n2) (ofZ n3) (ofZ n4) (ofZ n5) (ofZ n6) (ofZ n7) (ofZ n8)) n0 n1 n2 n3 n4 n5 n6 n7 n8 (iok_up (iok_int (z := n0) (by omega) (by omega)) (by decide)) (iok_up (iok_int (z := n1) (by omega) (by omega)) (by decide)) (iok_up (iok_int (z := n2) (by omega) (by omega)) (by decide)) (iok_up (iok_int (z := n3) (by omega) (by omega)) (by decide)) (iok_up (iok_int (z := n4) (by omega) (by omega)) (by decide)) (iok_up (iok_int (z := n5) (by omega) (by omega)) (by decide)) (iok_up (iok_int (z := n6) (by omega) (by omega)) (by decide)) (iok_up (iok_int (z := n7) (by omega) (by omega)) (by decide)) (iok_up (iok_int (z := n8) (by omega) (by omega)) (by decide)) c0 c1 c2 c3 c4 c5 c6 c7 c8 hc hnz hd)) <| zE oEx <| zE oEx <| zT (oSt sh32) <| zM <| zZ) ?_
  refine pwp_ret ⟨_, (res_a (cs := (bx (encA31 (A9.mk (ofZ c0) (ofZ c1) (ofZ c2) (ofZ c3) (ofZ c4) (ofZ c5) (ofZ c6) (ofZ c7) (ofZ c8))))) (d := (encA31 (A9.mk (ofZ c0) (ofZ c1) (ofZ c2) (ofZ c3) (ofZ c4) (ofZ c5) (ofZ c6) (ofZ c7) (ofZ c8)))) rfl rfl sh32 rfl rfl (.tmp (d := (.val (.bool (true)))) rfl .nil)), ?_⟩
  rfl
theorem l_Reduced (a : Int) (hal : -1048576 ≤ a) (hah : a ≤ 1048576) (b : Int) (hbl : -1048576 ≤ b) (hbh : b ≤ 1048576) (d : Int) (hdl : -1048576 ≤ d) (hdh : d ≤ 1048576) (c0 c1 c2 : Int) (hc : redL [a, b, d] = [c0, c1, c2]) (hnz : sgnL [a, b, d] ≠ 0) : Takes Tryz.prog 63 [(.val (.int .i64 (a))), (.val (.int .i64 (b))), (.val (.int .i64 (d)))] (.tup [(encA43 (A3.mk (ofZ c0) (ofZ c1) (ofZ c2))), (.val (.bool (true)))]) := by
  refine fn_intro Tryz.func63 rfl cb63 rfl ?_
  show PWp _ _ _ _ ⟨[(0, (vi a)), (1, (vi b)), (2, (vi d))], []⟩
  refine pwp_seq <| kx [(6, (.ref 0 0))] [(0, some (bx (encA43 (A3.mk (RInt.mk false []) (RInt.mk false []) (RInt.mk false [])))))] (zN (oAl 0 ze44 zo44) <| zM <| zZ) ?_
  refine pwp_seq ?_
  have bn1 : ∀ c ∈ [c0, c1, c2], IOk (ofZ c) c 3 := red_iok (n := 3) (.cons (iok_int (z := a) (by omega) (by omega)) (.cons (iok_int (z := b) (by omega) (by omega)) (.cons (iok_int (z := d) (by omega) (by omega)) .nil))) hc
  refine kx [(7, (vb true))] [(0, some (bx (encA43 (A3.mk (ofZ c0) (ofZ c1) (ofZ c2)))))] (zM <| zE (oCl (l_wholeI a (by omega) (by omega))) <| zM <| zE (oCl (l_wholeI b (by omega) (by omega))) <| zM <| zE (oCl (l_wholeI d (by omega) (by omega))) <| zE (oBf ar44 ze44 zo44) <| zE (oCl (l_trip (A3.mk (ofZ a) (ofZ b) (ofZ d)) a b d (iok_up (iok_int (z := a) (by omega) (by omega)) (by decide)) (iok_up (iok_int (z := b) (by omega) (by omega)) (by decide)) (iok_up (iok_int (z := d) (by omega) (by omega)) (by decide)) c0 c1 c2 hc hnz)) <| zE oEx <| zE oEx <| zT (oSt sh44) <| zM <| zZ) ?_
  refine pwp_ret ⟨_, (res_a (cs := (bx (encA43 (A3.mk (ofZ c0) (ofZ c1) (ofZ c2))))) (d := (encA43 (A3.mk (ofZ c0) (ofZ c1) (ofZ c2)))) rfl rfl sh44 rfl rfl (.tmp (d := (.val (.bool (true)))) rfl .nil)), ?_⟩
  rfl
set_option maxHeartbeats 4000000 in
theorem l_known27  : Takes Tryz.prog 11 [] (.val (.bool (true))) := by
  let y1 := (A9.mk (ofZ 4) (ofZ 0) (ofZ 0) (ofZ 0) (ofZ 4) (ofZ 0) (ofZ (-1)) (ofZ (-1)) (ofZ 3))
  refine fn_intro Tryz.func11 rfl cb11 rfl ?_
  show PWp _ _ _ _ ⟨[], []⟩
  refine pwp_seq <| kx [] [] (zM <| zZ) ?_
  refine pwp_seq <| kx [(1, (.ref 0 0))] [(0, some (bx (encA31 (A9.mk (ofZ 1) (ofZ 0) (ofZ 32) (ofZ 0) (ofZ 1) (ofZ 0) (ofZ 0) (ofZ 0) (ofZ 1)))))] (zE (oBf ar80 ze80 zo80) <| zE (oCl (l_made ((1 : Nat) : Int) ((0 : Nat) : Int) ((32 : Nat) : Int) ((0 : Nat) : Int) ((1 : Nat) : Int) ((0 : Nat) : Int) ((0 : Nat) : Int) ((0 : Nat) : Int) ((1 : Nat) : Int) (by omega) (by omega) (by omega) (by omega) (by omega) (by omega) (by omega) (by omega) (by omega) 1 0 32 0 1 0 0 0 1 (by decide +kernel) (by decide +kernel) (by decide +kernel))) <| zM <| zE oEx <| zE oEx <| zN (oAl 0 ze32 zo32) <| zT (oSt sh32) <| zM <| zZ) ?_
  refine pwp_seq <| kx [(3, (.ref 1 0))] [(1, some (bx (encA43 (A3.mk (ofZ 1) (ofZ 2) (ofZ 1)))))] (zE (oCl (l_Reduced ((1 : Nat) : Int) (by omega) (by omega) ((2 : Nat) : Int) (by omega) (by omega) ((1 : Nat) : Int) (by omega) (by omega) 1 2 1 (by decide +kernel) (by decide +kernel))) <| zM <| zE oEx <| zE oEx <| zN (oAl 1 ze44 zo44) <| zT (oSt sh44) <| zM <| zZ) ?_
  refine pwp_seq <| kx [(5, (.ref 2 0))] [(2, some (bx (encA43 (A3.mk (ofZ 33) (ofZ 2) (ofZ 1)))))] (zE (oCl (l_Reduced ((33 : Nat) : Int) (by omega) (by omega) ((2 : Nat) : Int) (by omega) (by omega) ((1 : Nat) : Int) (by omega) (by omega) 33 2 1 (by decide +kernel) (by decide +kernel))) <| zM <| zE oEx <| zE oEx <| zN (oAl 2 ze44 zo44) <| zT (oSt sh44) <| zM <| zZ) ?_
  refine pwp_seq <| kx [(7, (.ref 3 0)), (8, (vi 0))] [(3, some (bx (encA43 (A3.mk (ofZ 33) (ofZ 2) (ofZ 1)))))] (zR (oLa sh32) <| zR (oLa sh44) <| zE (oCl (d_apply (A9.mk (ofZ 1) (ofZ 0) (ofZ 32) (ofZ 0) (ofZ 1) (ofZ 0) (ofZ 0) (ofZ 0) (ofZ 1)) 1 0 32 0 1 0 0 0 1 (iok_up (iok_small (z := 1) (by decide)) (by decide)) (iok_up (iok_small (z := 0) (by decide)) (by decide)) (iok_up (iok_small (z := 32) (by decide)) (by decide)) (iok_up (iok_small (z := 0) (by decide)) (by decide)) (iok_up (iok_small (z := 1) (by decide)) (by decide)) (iok_up (iok_small (z := 0) (by decide)) (by decide)) (iok_up (iok_small (z := 0) (by decide)) (by decide)) (iok_up (iok_small (z := 0) (by decide)) (by decide)) (iok_up (iok_small (z := 1) (by decide)) (by decide)) (A3.mk (ofZ 1) (ofZ 2) (ofZ 1)) 1 2 1 (iok_up (iok_small (z := 1) (by decide)) (by decide)) (iok_up (iok_small (z := 2) (by decide)) (by decide)) (iok_up (iok_small (z := 1) (by decide)) (by decide)) 33 2 1 (by decide +kernel) (valH_closed [1, 0, 32, 0, 1, 0, 0, 0, 1] _ (by decide +kernel)) (redB_closed [1, 2, 1] (by decide +kernel)) (by decide +kernel))) <| zM <| zE oEx <| zE oEx <| zN (oAl 3 ze44 zo44) <| zT (oSt sh44) <| zM <| zZ) ?_
  refine pwp_seq <| kx [(9, (.ref 4 0)), (10, (vi 0))] [(4, some (bx (encA31 y1)))] (zE (oBd pl25 ze25 zo25) <| zE (oBd pl23 ze23 zo23) <| zE (oBd pl23 ze23 zo23) <| zE (oBd pl25 ze25 zo25) <| zE (oBd pl23 ze23 zo23) <| zE (oBd pl23 ze23 zo23) <| zE (oBd pl25 ze25 zo25) <| zE (oBd pl23 ze23 zo23) <| zE (oBd pl23 ze23 zo23) <| zE (oBd pl25 ze25 zo25) <| zE (oBf ar26 ze26 zo26) <| zE (oCl (d_four 0 0 0 0 ((1 : Nat) : Int) 0 ((2 : Nat) : Int) 0 0 ((1 : Nat) : Int) 0 ((2 : Nat) : Int) ((1 : Nat) : Int) ((1 : Nat) : Int) ((4 : Nat) : Int) ((4 : Nat) : Int) (by omega) (by omega) (by omega) (by omega) (by omega) (by omega) (by omega) (by omega) (by omega) (by omega) (by omega) (by omega) (by omega) (by omega) (by omega) (by omega) (-1) (by decide +kernel) 1 (by decide +kernel) 1 (by decide +kernel) 1 (by decide +kernel) (-12) (by decide +kernel) 8 (by decide +kernel) 8 (by decide +kernel) 4 (by decide +kernel) 0 (by decide +kernel) 1 (by decide +kernel) 0 (by decide +kernel) 0 (by decide +kernel) 0 (by decide +kernel) 1 (by decide +kernel) (-1) (by decide +kernel) 1 (by decide +kernel) 1 (by decide +kernel) 0 (by decide +kernel) 16 (by decide +kernel) 0 (by decide +kernel) 0 (by decide +kernel) 0 (by decide +kernel) 16 (by decide +kernel) (-12) (by decide +kernel) 8 (by decide +kernel) 8 (by decide +kernel) 4 0 0 0 4 0 (-1) (-1) 3 (by decide +kernel) (by decide +kernel) (by decide +kernel) (by decide +kernel) (by decide +kernel) (by decide +kernel) (by decide +kernel) (by decide +kernel) (by decide +kernel) (by decide +kernel))) <| zM <| zE oEx <| zE oEx <| zN (oAl 4 ze32 zo32) <| zT (oSt sh32) <| zM <| zZ) ?_
  refine pwp_seq <| kx [(11, (.ref 5 0))] [(5, some (bx (encA31 y1)))] (zE (oBf ar80 ze80 zo80) <| zE (oCl (l_made ((4 : Nat) : Int) ((0 : Nat) : Int) ((0 : Nat) : Int) ((0 : Nat) : Int) ((4 : Nat) : Int) ((0 : Nat) : Int) (-1) (-1) ((3 : Nat) : Int) (by omega) (by omega) (by omega) (by omega) (by omega) (by omega) (by omega) (by omega) (by omega) 4 0 0 0 4 0 (-1) (-1) 3 (by decide +kernel) (by decide +kernel) (by decide +kernel))) <| zM <| zE oEx <| zE oEx <| zN (oAl 5 ze32 zo32) <| zT (oSt sh32) <| zM <| zZ) ?_
  refine pwp_seq <| kx [(0, (vb true))] [] (zM <| zE oEq <| zM <| zM <| zE oEq <| zE oPt <| zM <| zR (oLa sh44) <| zR (oLa sh44) <| zE (oCl (l_sameT3 (A3.mk (ofZ 33) (ofZ 2) (ofZ 1)) 33 2 1 (iok_up (iok_small (z := 33) (by decide)) (by decide)) (iok_up (iok_small (z := 2) (by decide)) (by decide)) (iok_up (iok_small (z := 1) (by decide)) (by decide)) (A3.mk (ofZ 33) (ofZ 2) (ofZ 1)) 33 2 1 (iok_up (iok_small (z := 33) (by decide)) (by decide)) (iok_up (iok_small (z := 2) (by decide)) (by decide)) (iok_up (iok_small (z := 1) (by decide)) (by decide)) (validI_ofZ _) (validI_ofZ _) (validI_ofZ _) (sameI_self _) (sameI_self _) (sameI_self _))) <| zE oPt <| zM <| zR (oLa sh32) <| zR (oLa sh32) <| zE (oCl (l_sameT9 y1 4 0 0 0 4 0 (-1) (-1) 3 (iok_up (iok_small (z := 4) (by decide)) (by decide)) (iok_up (iok_small (z := 0) (by decide)) (by decide)) (iok_up (iok_small (z := 0) (by decide)) (by decide)) (iok_up (iok_small (z := 0) (by decide)) (by decide)) (iok_up (iok_small (z := 4) (by decide)) (by decide)) (iok_up (iok_small (z := 0) (by decide)) (by decide)) (iok_up (iok_small (z := (-1)) (by decide)) (by decide)) (iok_up (iok_small (z := (-1)) (by decide)) (by decide)) (iok_up (iok_small (z := 3) (by decide)) (by decide)) y1 4 0 0 0 4 0 (-1) (-1) 3 (iok_up (iok_small (z := 4) (by decide)) (by decide)) (iok_up (iok_small (z := 0) (by decide)) (by decide)) (iok_up (iok_small (z := 0) (by decide)) (by decide)) (iok_up (iok_small (z := 0) (by decide)) (by decide)) (iok_up (iok_small (z := 4) (by decide)) (by decide)) (iok_up (iok_small (z := 0) (by decide)) (by decide)) (iok_up (iok_small (z := (-1)) (by decide)) (by decide)) (iok_up (iok_small (z := (-1)) (by decide)) (by decide)) (iok_up (iok_small (z := 3) (by decide)) (by decide)) (validI_ofZ _) (validI_ofZ _) (validI_ofZ _) (validI_ofZ _) (validI_ofZ _) (validI_ofZ _) (validI_ofZ _) (validI_ofZ _) (validI_ofZ _) (sameI_self _) (sameI_self _) (sameI_self _) (sameI_self _) (sameI_self _) (sameI_self _) (sameI_self _) (sameI_self _) (sameI_self _))) <| zE oPt <| zM <| zR (oLa sh32) <| zE (oBk true (oCl (d_valid (A9.mk (ofZ 1) (ofZ 0) (ofZ 32) (ofZ 0) (ofZ 1) (ofZ 0) (ofZ 0) (ofZ 0) (ofZ 1)) 1 0 32 0 1 0 0 0 1 (iok_up (iok_small (z := 1) (by decide)) (by decide)) (iok_up (iok_small (z := 0) (by decide)) (by decide)) (iok_up (iok_small (z := 32) (by decide)) (by decide)) (iok_up (iok_small (z := 0) (by decide)) (by decide)) (iok_up (iok_small (z := 1) (by decide)) (by decide)) (iok_up (iok_small (z := 0) (by decide)) (by decide)) (iok_up (iok_small (z := 0) (by decide)) (by decide)) (iok_up (iok_small (z := 0) (by decide)) (by decide)) (iok_up (iok_small (z := 1) (by decide)) (by decide)))) (by exact (valH_closed [1, 0, 32, 0, 1, 0, 0, 0, 1] _ (by decide +kernel)))) <| zE oPt <| zM <| zE (oBa ar44 ze44 zo44) <| zE (oBk false (oCl (d_proper (A3.mk (RInt.mk false []) (RInt.mk false []) (RInt.mk false [])) 0 0 0 (iu iok_zero) (iu iok_zero) (iu iok_zero))) (by exact (by decide +kernel))) <| zE oNt <| zE oPt <| zM <| zZ) ?_
  refine pwp_ret ⟨_, (.tmp (d := (.val (.bool (true)))) rfl .nil), ?_⟩
  rfl
end Go.Proofs.YtadkkhdnccljcaaGreat
namespace Go.Proofs.YtadkkhdnccljcaaGreat
open Go.Fid
set_option maxRecDepth 4000
set_option linter.unusedVariables false
set_option linter.unusedSimpArgs false
end Go.Proofs.YtadkkhdnccljcaaGreat
set_option linter.unusedVariables false
set_option linter.unusedSimpArgs false
namespace Go.Fid
theorem sgnL_zero {zs : List Int} : sgnL zs = 0 ↔ ∀ z ∈ zs, z = 0 := by
  constructor
  · intro h z hz
    rcases Int.decEq z 0 with h0 | h0
    · exact absurd h (sgnL_of hz h0)
    · exact h0
  · intro h
    rcases Int.decEq (sgnL zs) 0 with h0 | h0
    · obtain ⟨z, hz, h1⟩ := sgnL_ne h0
      exact absurd (h z hz) h1
    · exact h0
theorem sgn3_zero {a b c : Int} : sgnL [a, b, c] = 0 ↔ a = 0 ∧ b = 0 ∧ c = 0 := by rw [sgnL_zero]; simp
theorem mul_zero_of {d z : Int} (hd : d ≠ 0) (h : d * z = 0) : z = 0 := by
  rcases Int.mul_eq_zero.1 h with h | h
  · exact absurd h hd
  · exact h
theorem app_nz {h0 h1 h2 h3 h4 h5 h6 h7 h8 p0 p1 p2 : Int} (hd : det3 h0 h1 h2 h3 h4 h5 h6 h7 h8 ≠ 0) (hp : sgnL [p0, p1, p2] ≠ 0) :
    sgnL [h0 * p0 + h1 * p1 + h2 * p2, h3 * p0 + h4 * p1 + h5 * p2, h6 * p0 + h7 * p1 + h8 * p2] ≠ 0 := fun e => by
  obtain ⟨e0, e1, e2⟩ := sgn3_zero.1 e
  refine hp (sgn3_zero.2 ⟨mul_zero_of hd ?_, mul_zero_of hd ?_, mul_zero_of hd ?_⟩)
  · have : det3 h0 h1 h2 h3 h4 h5 h6 h7 h8 * p0 = (h4 * h8 - h5 * h7) * (h0 * p0 + h1 * p1 + h2 * p2) + (h2 * h7 - h1 * h8) * (h3 * p0 + h4 * p1 + h5 * p2) + (h1 * h5 - h2 * h4) * (h6 * p0 + h7 * p1 + h8 * p2) := by unfold det3; grind
    rw [this, e0, e1, e2]; simp
  · have : det3 h0 h1 h2 h3 h4 h5 h6 h7 h8 * p1 = (h5 * h6 - h3 * h8) * (h0 * p0 + h1 * p1 + h2 * p2) + (h0 * h8 - h2 * h6) * (h3 * p0 + h4 * p1 + h5 * p2) + (h2 * h3 - h0 * h5) * (h6 * p0 + h7 * p1 + h8 * p2) := by unfold det3; grind
    rw [this, e0, e1, e2]; simp
  · have : det3 h0 h1 h2 h3 h4 h5 h6 h7 h8 * p2 = (h3 * h7 - h4 * h6) * (h0 * p0 + h1 * p1 + h2 * p2) + (h1 * h6 - h0 * h7) * (h3 * p0 + h4 * p1 + h5 * p2) + (h0 * h4 - h1 * h3) * (h6 * p0 + h7 * p1 + h8 * p2) := by unfold det3; grind
    rw [this, e0, e1, e2]; simp
theorem prop_red {P Q : List Int} {k m : Int} (hk : k ≠ 0) (hm : m ≠ 0) (h : P.map (m * ·) = Q.map (k * ·)) (hP : sgnL P ≠ 0) (hQ : sgnL Q ≠ 0) : redL P = redL Q := by
  rw [← redL_scale hm hP, h, redL_scale hk hQ]
theorem red3_back {z0 z1 z2 c0 c1 c2 : Int} (hnz : sgnL [z0, z1, z2] ≠ 0) (hc : redL [z0, z1, z2] = [c0, c1, c2]) : ∃ d : Int, d ≠ 0 ∧ z0 = d * c0 ∧ z1 = d * c1 ∧ z2 = d * c2 ∧ sgnL [c0, c1, c2] ≠ 0 ∧ dvL [c0, c1, c2] = 1 := by
  refine ⟨dvL [z0, z1, z2], dvL_ne hnz, ?_⟩
  have h1 := redL_back hnz
  rw [hc] at h1
  simp only [List.map_cons, List.map_nil, List.cons.injEq, and_true] at h1
  exact ⟨h1.1.symm, h1.2.1.symm, h1.2.2.symm, hc ▸ redL_ne hnz, hc ▸ dvL_red hnz⟩
end Go.Fid
set_option linter.unusedVariables false
set_option linter.unusedSimpArgs false
namespace Go.Fid
theorem red_back {zs cs : List Int} (hnz : sgnL zs ≠ 0) (hc : redL zs = cs) : ∃ d : Int, d ≠ 0 ∧ cs.map (d * ·) = zs ∧ sgnL cs ≠ 0 ∧ dvL cs = 1 :=
  ⟨dvL zs, dvL_ne hnz, hc ▸ redL_back hnz, hc ▸ redL_ne hnz, hc ▸ dvL_red hnz⟩
theorem det_nz9 {z0 z1 z2 z3 z4 z5 z6 z7 z8 : Int} (hd : det3 z0 z1 z2 z3 z4 z5 z6 z7 z8 ≠ 0) : sgnL [z0, z1, z2, z3, z4, z5, z6, z7, z8] ≠ 0 := fun e => by
  have h := sgnL_zero.1 e
  simp only [List.mem_cons, List.not_mem_nil, or_false, forall_eq_or_imp, forall_eq] at h
  obtain ⟨a0, a1, a2, a3, a4, a5, a6, a7, a8⟩ := h
  exact hd (by rw [a0, a1, a2]; simp [det3])
theorem red9 {z0 z1 z2 z3 z4 z5 z6 z7 z8 c0 c1 c2 c3 c4 c5 c6 c7 c8 : Int} (hd : det3 z0 z1 z2 z3 z4 z5 z6 z7 z8 ≠ 0) (hc : redL [z0, z1, z2, z3, z4, z5, z6, z7, z8] = [c0, c1, c2, c3, c4, c5, c6, c7, c8]) :
    ∃ d : Int, d ≠ 0 ∧ (d * c0 = z0 ∧ d * c1 = z1 ∧ d * c2 = z2 ∧ d * c3 = z3 ∧ d * c4 = z4 ∧ d * c5 = z5 ∧ d * c6 = z6 ∧ d * c7 = z7 ∧ d * c8 = z8) ∧ det3 c0 c1 c2 c3 c4 c5 c6 c7 c8 ≠ 0 ∧
      valH [ofZ c0, ofZ c1, ofZ c2, ofZ c3, ofZ c4, ofZ c5, ofZ c6, ofZ c7, ofZ c8] (det3 c0 c1 c2 c3 c4 c5 c6 c7 c8) = true := by
  obtain ⟨d, h0, h1, h2, h3⟩ := red_back (det_nz9 hd) hc
  simp only [List.map_cons, List.map_nil, List.cons.injEq, and_true] at h1
  obtain ⟨a0, a1, a2, a3, a4, a5, a6, a7, a8⟩ := h1
  have hn : det3 c0 c1 c2 c3 c4 c5 c6 c7 c8 ≠ 0 := fun e => hd (by
    rw [← a0, ← a1, ← a2, ← a3, ← a4, ← a5, ← a6, ← a7, ← a8]
    have : det3 (d * c0) (d * c1) (d * c2) (d * c3) (d * c4) (d * c5) (d * c6) (d * c7) (d * c8) = d * d * d * det3 c0 c1 c2 c3 c4 c5 c6 c7 c8 := by unfold det3; grind
    rw [this, e, Int.mul_zero])
  exact ⟨d, h0, ⟨a0, a1, a2, a3, a4, a5, a6, a7, a8⟩, hn, valH_closed [c0, c1, c2, c3, c4, c5, c6, c7, c8] _ ⟨⟨h2, h3⟩, signI_ne hn⟩⟩
theorem det_prod (f0 f1 f2 f3 f4 f5 f6 f7 f8 g0 g1 g2 g3 g4 g5 g6 g7 g8 : Int) :
    det3 (f0 * g0 + f1 * g3 + f2 * g6) (f0 * g1 + f1 * g4 + f2 * g7) (f0 * g2 + f1 * g5 + f2 * g8) (f3 * g0 + f4 * g3 + f5 * g6) (f3 * g1 + f4 * g4 + f5 * g7) (f3 * g2 + f4 * g5 + f5 * g8) (f6 * g0 + f7 * g3 + f8 * g6) (f6 * g1 + f7 * g4 + f8 * g7) (f6 * g2 + f7 * g5 + f8 * g8)
      = det3 f0 f1 f2 f3 f4 f5 f6 f7 f8 * det3 g0 g1 g2 g3 g4 g5 g6 g7 g8 := by unfold det3; grind
theorem det_prod_ne {f0 f1 f2 f3 f4 f5 f6 f7 f8 g0 g1 g2 g3 g4 g5 g6 g7 g8 : Int} (hf : det3 f0 f1 f2 f3 f4 f5 f6 f7 f8 ≠ 0) (hg : det3 g0 g1 g2 g3 g4 g5 g6 g7 g8 ≠ 0) :
    det3 (f0 * g0 + f1 * g3 + f2 * g6) (f0 * g1 + f1 * g4 + f2 * g7) (f0 * g2 + f1 * g5 + f2 * g8) (f3 * g0 + f4 * g3 + f5 * g6) (f3 * g1 + f4 * g4 + f5 * g7) (f3 * g2 + f4 * g5 + f5 * g8) (f6 * g0 + f7 * g3 + f8 * g6) (f6 * g1 + f7 * g4 + f8 * g7) (f6 * g2 + f7 * g5 + f8 * g8) ≠ 0 := by
  rw [det_prod]; exact Int.mul_ne_zero hf hg
theorem adj_det (h0 h1 h2 h3 h4 h5 h6 h7 h8 : Int) : det3 (h4 * h8 - h5 * h7) (h7 * h2 - h8 * h1) (h1 * h5 - h2 * h4) (h5 * h6 - h3 * h8) (h8 * h0 - h6 * h2) (h2 * h3 - h0 * h5) (h3 * h7 - h4 * h6) (h6 * h1 - h7 * h0) (h0 * h4 - h1 * h3)
    = det3 h0 h1 h2 h3 h4 h5 h6 h7 h8 * det3 h0 h1 h2 h3 h4 h5 h6 h7 h8 := by unfold det3; grind
theorem adj_ne {h0 h1 h2 h3 h4 h5 h6 h7 h8 : Int} (hd : det3 h0 h1 h2 h3 h4 h5 h6 h7 h8 ≠ 0) : det3 (h4 * h8 - h5 * h7) (h7 * h2 - h8 * h1) (h1 * h5 - h2 * h4) (h5 * h6 - h3 * h8) (h8 * h0 - h6 * h2) (h2 * h3 - h0 * h5) (h3 * h7 - h4 * h6) (h6 * h1 - h7 * h0) (h0 * h4 - h1 * h3) ≠ 0 := by
  rw [adj_det]; exact Int.mul_ne_zero hd hd
end Go.Fid
set_option linter.unusedVariables false
set_option linter.unusedSimpArgs false
namespace Go.Fid
theorem pix_list (x y : Int) : [((x : Int) : Rat).num * (((y : Int) : Rat).den : Int), ((y : Int) : Rat).num * (((x : Int) : Rat).den : Int), (((x : Int) : Rat).den : Int) * (((y : Int) : Rat).den : Int)] = [x, y, 1] := by
  simp
theorem pix_red {x y : Int} {cs : List Int} (h : redL [x, y, 1] = cs) : redL [((x : Int) : Rat).num * (((y : Int) : Rat).den : Int), ((y : Int) : Rat).num * (((x : Int) : Rat).den : Int), (((x : Int) : Rat).den : Int) * (((y : Int) : Rat).den : Int)] = cs := by
  rw [pix_list]; exact h
theorem one_nz (x y : Int) : sgnL [x, y, 1] ≠ 0 := sgnL_of (z := 1) (by simp) (by decide)
theorem pix_nz (x y : Int) : sgnL [((x : Int) : Rat).num * (((y : Int) : Rat).den : Int), ((y : Int) : Rat).num * (((x : Int) : Rat).den : Int), (((x : Int) : Rat).den : Int) * (((y : Int) : Rat).den : Int)] ≠ 0 := by
  rw [pix_list]; exact one_nz x y
end Go.Fid
namespace Go.Proofs.YtadkkhdnccljcaaGreat
open Go.Fid
set_option maxRecDepth 4000
set_option linter.unusedVariables false
set_option linter.unusedSimpArgs false
theorem cb18 : callB Tryz.prog 18 = true := by kernel_rfl
theorem cb52 : callB Tryz.prog 52 = true := by kernel_rfl
theorem fo91_0 : fieldB Tryz.prog 91 0 = some 0 := by kernel_rfl
theorem fo91_1 : fieldB Tryz.prog 91 1 = some 4 := by kernel_rfl
theorem pl91 : placesB Tryz.prog 91 = some [(0, 4), (4, 4)] := by kernel_rfl
theorem ze91 : zeroB Tryz.prog 91 = some [.bool false, .slice none 0 0, .bool false, .slice none 0 0, .bool false, .slice none 0 0, .bool false, .slice none 0 0] := by kernel_rfl
theorem zo91 : ZOk [.bool false, .slice none 0 0, .bool false, .slice none 0 0, .bool false, .slice none 0 0, .bool false, .slice none 0 0] [.val (.bool false), .sl 138 1 [], .val (.bool false), .sl 138 1 [], .val (.bool false), .sl 138 1 [], .val (.bool false), .sl 138 1 []] := by simp [ZOk, Value.oneCell']
theorem l_point (u v : Rat) (hu : QL u 1000) (hv : QL v 1000) (c0 c1 c2 : Int) (hc : redL [(u.num * (v.den : Int)), (v.num * (u.den : Int)), ((u.den : Int) * (v.den : Int))] = [c0, c1, c2]) (hnz : sgnL [(u.num * (v.den : Int)), (v.num * (u.den : Int)), ((u.den : Int) * (v.den : Int))] ≠ 0) : Takes Tryz.prog 52 [(encPlace (RPlace.mk (ofQ u) (ofQ v)))] (encA43 (A3.mk (ofZ c0) (ofZ c1) (ofZ c2))) := by
  refine fn_intro Tryz.func52 rfl cb52 rfl ?_
  show PWp _ _ _ _ ⟨[(0, (.d (encPlace (RPlace.mk (ofQ u) (ofQ v)))))], []⟩
  refine pwp_seq <| kx [(1, (.ref 0 0)), (2, (.ref 1 0))] [(0, some (bx (encPlace (RPlace.mk (ofQ u) (ofQ v))))), (1, some (bx (encA43 (A3.mk (RInt.mk false []) (RInt.mk false []) (RInt.mk false [])))))] (zN (oBx 0) <| zN (oAl 1 ze44 zo44) <| zZ) ?_
  refine pwp_seq ?_
  have bn1 : IOk (ofZ (u.num * (v.den : Int))) (u.num * (v.den : Int)) 2000 := (iok_mul (k := 2000) (qok_num hu) (qok_den hv) (by decide))
  have bn2 : IOk (ofZ (v.num * (u.den : Int))) (v.num * (u.den : Int)) 2000 := (iok_mul (k := 2000) (qok_num hv) (qok_den hu) (by decide))
  have bn3 : IOk (ofZ ((u.den : Int) * (v.den : Int))) ((u.den : Int) * (v.den : Int)) 2000 := (iok_mul (k := 2000) (qok_den hu) (qok_den hv) (by decide))
  have bn4 : ∀ c ∈ [c0, c1, c2], IOk (ofZ c) c 2000 := red_iok (n := 2000) (.cons bn1 (.cons bn2 (.cons bn3 .nil))) hc
  refine kd [(3, (.ref 2 0))] [(2, some (bx (encA43 (A3.mk (ofZ c0) (ofZ c1) (ofZ c2)))))] mo (wE (oFr fo91_0) <| wE (oFr fo67_0) <| wR (oLa sh30) <| wE (oFr fo91_1) <| wE (oFr fo67_1) <| wR (oLa sh30) <| wE (oCl (l_times ((ofQ u).num) u.num (iok_up (qok_num hu) (by decide)) ((ofQ v).den) (v.den : Int) (iok_up (qok_den hv) (by decide)))) <| wE (oFr fo91_1) <| wE (oFr fo67_0) <| wR (oLa sh30) <| wE (oFr fo91_0) <| wE (oFr fo67_1) <| wR (oLa sh30) <| wE (oCl (l_times ((ofQ v).num) v.num (iok_up (qok_num hv) (by decide)) ((ofQ u).den) (u.den : Int) (iok_up (qok_den hu) (by decide)))) <| wE (oFr fo91_0) <| wE (oFr fo67_1) <| wR (oLa sh30) <| wE (oFr fo91_1) <| wE (oFr fo67_1) <| wR (oLa sh30) <| wE (oCl (l_times ((ofQ u).den) (u.den : Int) (iok_up (qok_den hu) (by decide)) ((ofQ v).den) (v.den : Int) (iok_up (qok_den hv) (by decide)))) <| wE (oBf ar44 ze44 zo44) <| wE (oCl (l_trip (A3.mk (ofZ (u.num * (v.den : Int))) (ofZ (v.num * (u.den : Int))) (ofZ ((u.den : Int) * (v.den : Int)))) (u.num * (v.den : Int)) (v.num * (u.den : Int)) ((u.den : Int) * (v.den : Int)) (iu bn1) (iu bn2) (iu bn3) c0 c1 c2 hc hnz)) <| wM <| wE oEx <| wE oEx <| wN (oAl 2 ze44 zo44) <| wT (oSt sh44) <| wM <| wZ) ?_
  refine pwp_seq <| kx [] [(1, some (bx (encA43 (A3.mk (ofZ c0) (ofZ c1) (ofZ c2)))))] (zR (oLa sh44) <| zT (oSt sh44) <| zZ) ?_
  refine pwp_ret ⟨_, (res_a (cs := (bx (encA43 (A3.mk (ofZ c0) (ofZ c1) (ofZ c2))))) (d := (encA43 (A3.mk (ofZ c0) (ofZ c1) (ofZ c2)))) rfl rfl sh44 rfl rfl .nil), ?_⟩
  rfl
theorem l_pix (x y : Int) (hx : -1048576 ≤ x ∧ x ≤ 1048576) (hy : -1048576 ≤ y ∧ y ≤ 1048576) (c0 c1 c2 : Int) (hc : redL [x, y, 1] = [c0, c1, c2]) : Takes Tryz.prog 18 [(encPix (RPix.mk x y))] (encA43 (A3.mk (ofZ c0) (ofZ c1) (ofZ c2))) := by
  refine fn_intro Tryz.func18 rfl cb18 rfl ?_
  show PWp _ _ _ _ ⟨[(0, (.d (encPix (RPix.mk x y))))], []⟩
  refine pwp_seq <| kx [(1, (.ref 0 0)), (2, (.ref 1 0))] [(0, some (bx (encPix (RPix.mk x y)))), (1, some (bx (encA43 (A3.mk (RInt.mk false []) (RInt.mk false []) (RInt.mk false [])))))] (zN (oBx 0) <| zN (oAl 1 ze44 zo44) <| zZ) ?_
  refine pwp_seq ?_
  have bn1 : QL ((x : Int) : Rat) 3 := (ql_int (z := x) (lenZ_int (by omega) (by omega)) (by decide))
  have bn2 : QL ((y : Int) : Rat) 3 := (ql_int (z := y) (lenZ_int (by omega) (by omega)) (by decide))
  have bn3 : ∀ c ∈ [c0, c1, c2], IOk (ofZ c) c 6 := red_iok (n := 6) (.cons (iok_mul (k := 6) (qok_num bn1) (qok_den bn2) (by decide)) (.cons (iok_mul (k := 6) (qok_num bn2) (qok_den bn1) (by decide)) (.cons (iok_mul (k := 6) (qok_den bn1) (qok_den bn2) (by decide)) .nil))) (pix_red hc)
  refine kd [] [(1, some (bx (encA43 (A3.mk (ofZ c0) (ofZ c1) (ofZ c2)))))] mo (wE (oFr fo23_0) <| wR (oL1 sh3) <| wE (oCl (g_whole x (by omega) (by omega))) <| wE (oFr fo23_1) <| wR (oL1 sh3) <| wE (oCl (g_whole y (by omega) (by omega))) <| wE (oBd pl91 ze91 zo91) <| wE (oCl (l_point ((x : Int) : Rat) ((y : Int) : Rat) (ql_up bn1 (by decide)) (ql_up bn2 (by decide)) c0 c1 c2 (pix_red hc) (pix_nz x y))) <| wT (oSt sh44) <| wZ) ?_
  refine pwp_ret ⟨_, (res_a (cs := (bx (encA43 (A3.mk (ofZ c0) (ofZ c1) (ofZ c2))))) (d := (encA43 (A3.mk (ofZ c0) (ofZ c1) (ofZ c2)))) rfl rfl sh44 rfl rfl .nil), ?_⟩
  rfl
end Go.Proofs.YtadkkhdnccljcaaGreat
namespace Go.Proofs.YtadkkhdnccljcaaGreat
open Go.Fid
set_option maxRecDepth 4000
set_option linter.unusedVariables false
set_option linter.unusedSimpArgs false
end Go.Proofs.YtadkkhdnccljcaaGreat
set_option linter.unusedVariables false
set_option linter.unusedSimpArgs false
namespace Go.Fid
end Go.Fid
