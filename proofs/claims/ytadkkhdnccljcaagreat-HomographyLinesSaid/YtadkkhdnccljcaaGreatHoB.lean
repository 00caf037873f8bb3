/-
  Functions walked: each takes its data to what is said. Printed by a program of ours.
-/
import Derived.Test.YtadkkhdnccljcaaGreatHoA
namespace Go.Proofs.YtadkkhdnccljcaaGreat
open Go.Fid
set_option maxRecDepth 4000
set_option linter.unusedVariables false
set_option linter.unusedSimpArgs false
theorem ar32 : arrB Tryz.prog 32 = some (9, 30, 2) := by kernel_rfl
theorem ar44 : arrB Tryz.prog 44 = some (3, 30, 2) := by kernel_rfl
theorem cb55 : callB Tryz.prog 55 = true := by kernel_rfl
theorem cb56 : callB Tryz.prog 56 = true := by kernel_rfl
theorem cb75 : callB Tryz.prog 75 = true := by kernel_rfl
theorem cb84 : callB Tryz.prog 84 = true := by kernel_rfl
theorem cb88 : callB Tryz.prog 88 = true := by kernel_rfl
theorem cb97 : callB Tryz.prog 97 = true := by kernel_rfl
theorem cb124 : callB Tryz.prog 124 = true := by kernel_rfl
theorem sh44 : shapeB Tryz.prog 44 = some (true, 6) := by kernel_rfl
theorem ze44 : zeroB Tryz.prog 44 = some [.bool false, .slice none 0 0, .bool false, .slice none 0 0, .bool false, .slice none 0 0] := by kernel_rfl
theorem zo44 : ZOk [.bool false, .slice none 0 0, .bool false, .slice none 0 0, .bool false, .slice none 0 0] [.val (.bool false), .sl 138 1 [], .val (.bool false), .sl 138 1 [], .val (.bool false), .sl 138 1 []] := by simp [ZOk, Value.oneCell']
theorem d_cross (p : A3 RInt) (p0 p1 p2 : Int) (hp0 : IOk p.a0 p0 1000000000) (hp1 : IOk p.a1 p1 1000000000) (hp2 : IOk p.a2 p2 1000000000) (q : A3 RInt) (q0 q1 q2 : Int) (hq0 : IOk q.a0 q0 1000000000) (hq1 : IOk q.a1 q1 1000000000) (hq2 : IOk q.a2 q2 1000000000) : Takes Tryz.prog 84 [(encA43 p), (encA43 q)] (encA43 (A3.mk (ofZ ((p1 * q2) - (p2 * q1))) (ofZ ((p2 * q0) - (p0 * q2))) (ofZ ((p0 * q1) - (p1 * q0))))) := by
  refine fn_intro Tryz.func84 rfl cb84 rfl ?_
  show PWp _ _ _ _ ⟨[(0, (.d (encA43 p))), (1, (.d (encA43 q)))], []⟩
  refine pwp_seq <| kx [(2, (.ref 0 0)), (3, (.ref 1 0)), (4, (.ref 2 0))] [(0, some (bx (encA43 p))), (1, some (bx (encA43 q))), (2, some (bx (encA43 (A3.mk (RInt.mk false []) (RInt.mk false []) (RInt.mk false [])))))] (zN (oBx 0) <| zN (oBx 1) <| zN (oAl 2 ze44 zo44) <| zZ) ?_
  refine pwp_seq <| kx [(5, (.ref 3 0))] [(3, some (bx (encA43 (A3.mk (RInt.mk false []) (RInt.mk false []) (RInt.mk false [])))))] (zN (oAl 3 ze44 zo44) <| zZ) ?_
  refine pwp_seq <| pwp_seq <| kx [(9, (vin 0))] [] (zM <| zZ) ?_
  refine pwp_block <| pwp_rounds 20 ?_
  refine pwp_round <| pwp_seq <| kx [(10, (vb true))] [] (zE (oBk true oLt) <| zZ) ?_
  refine pwp_seq <| pwp_cond (b := true) (by kernel_rfl) (fun _ => ?_) (fun h => by cases h)
  refine pwp_skip <| pwp_seq <| pwp_block <| pwp_seq <| kx [(6, (vin 0))] [] (zM <| zM <| zZ) ?_
  refine pwp_seq <| kx [(7, (vin 1)), (8, (vin 2))] [] (zM <| zE (oAd 1 (hr := by decide)) <| zE (oRe 1 (hr := by decide)) <| zM <| zE (oAd 2 (hr := by decide)) <| zE (oRe 2 (hr := by decide)) <| zM <| zM <| zZ) ?_
  refine kd [] [(3, some (bx (encA43 (A3.mk (ofZ ((p1 * q2) - (p2 * q1))) (RInt.mk false []) (RInt.mk false [])))))] mo (wM <| wM <| wE (oXr ar44 1) <| wR (oLa sh30) <| wM <| wE (oXr ar44 2) <| wR (oLa sh30) <| wE (oCl (s_mul hp1 hq2 (by decide) (by decide))) <| wM <| wE (oXr ar44 2) <| wR (oLa sh30) <| wM <| wE (oXr ar44 1) <| wR (oLa sh30) <| wE (oCl (s_mul hp2 hq1 (by decide) (by decide))) <| wE (oCl (s_sub (iok_mul (k := 2000000000) hp1 hq2 (by decide)) (iok_mul (k := 2000000000) hp2 hq1 (by decide)) (by decide) (by decide))) <| wE (oXr ar44 0) <| wT (oSt sh30) <| wZ) ?_
  refine kx [(9, (vin 1))] [] (zE (oAd 1 (hr := by decide)) <| zM <| zZ) ?_
  refine pwp_again (SimImp.refl _) ?_
  refine pwp_seq <| kx [(10, (vb true))] [] (zE (oBk true oLt) <| zZ) ?_
  refine pwp_seq <| pwp_cond (b := true) (by kernel_rfl) (fun _ => ?_) (fun h => by cases h)
  refine pwp_skip <| pwp_seq <| pwp_block <| pwp_seq <| kx [(6, (vin 1))] [] (zM <| zM <| zZ) ?_
  refine pwp_seq <| kx [(7, (vin 2)), (8, (vin 0))] [] (zM <| zE (oAd 2 (hr := by decide)) <| zE (oRe 2 (hr := by decide)) <| zM <| zE (oAd 3 (hr := by decide)) <| zE (oRe 0 (hr := by decide)) <| zM <| zM <| zZ) ?_
  refine kd [] [(3, some (bx (encA43 (A3.mk (ofZ ((p1 * q2) - (p2 * q1))) (ofZ ((p2 * q0) - (p0 * q2))) (RInt.mk false [])))))] mo (wM <| wM <| wE (oXr ar44 2) <| wR (oLa sh30) <| wM <| wE (oXr ar44 0) <| wR (oLa sh30) <| wE (oCl (s_mul hp2 hq0 (by decide) (by decide))) <| wM <| wE (oXr ar44 0) <| wR (oLa sh30) <| wM <| wE (oXr ar44 2) <| wR (oLa sh30) <| wE (oCl (s_mul hp0 hq2 (by decide) (by decide))) <| wE (oCl (s_sub (iok_mul (k := 2000000000) hp2 hq0 (by decide)) (iok_mul (k := 2000000000) hp0 hq2 (by decide)) (by decide) (by decide))) <| wE (oXr ar44 1) <| wT (oSt sh30) <| wZ) ?_
  refine kx [(9, (vin 2))] [] (zE (oAd 2 (hr := by decide)) <| zM <| zZ) ?_
  refine pwp_again (SimImp.refl _) ?_
  refine pwp_seq <| kx [(10, (vb true))] [] (zE (oBk true oLt) <| zZ) ?_
  refine pwp_seq <| pwp_cond (b := true) (by kernel_rfl) (fun _ => ?_) (fun h => by cases h)
  refine pwp_skip <| pwp_seq <| pwp_block <| pwp_seq <| pwp_sim (wk (l := [(2, (.ref 0 0)), (3, (.ref 1 0)), (4, (.ref 2 0)), (5, (.ref 3 0)), (9, (vin 2)), (10, (vb true))]) (b := [(0, some (bx (encA43 p))), (1, some (bx (encA43 q))), (2, some (bx (encA43 (A3.mk (RInt.mk false []) (RInt.mk false []) (RInt.mk false []))))), (3, some (bx (encA43 (A3.mk (ofZ ((p1 * q2) - (p2 * q1))) (ofZ ((p2 * q0) - (p0 * q2))) (RInt.mk false [])))))])) ?_
  refine kx [(6, (vin 2))] [] (zM <| zM <| zZ) ?_
  refine pwp_seq <| kx [(7, (vin 0)), (8, (vin 1))] [] (zM <| zE (oAd 3 (hr := by decide)) <| zE (oRe 0 (hr := by decide)) <| zM <| zE (oAd 4 (hr := by decide)) <| zE (oRe 1 (hr := by decide)) <| zM <| zM <| zZ) ?_
  refine kd [] [(3, some (bx (encA43 (A3.mk (ofZ ((p1 * q2) - (p2 * q1))) (ofZ ((p2 * q0) - (p0 * q2))) (ofZ ((p0 * q1) - (p1 * q0)))))))] mo (wM <| wM <| wE (oXr ar44 0) <| wR (oLa sh30) <| wM <| wE (oXr ar44 1) <| wR (oLa sh30) <| wE (oCl (s_mul hp0 hq1 (by decide) (by decide))) <| wM <| wE (oXr ar44 1) <| wR (oLa sh30) <| wM <| wE (oXr ar44 0) <| wR (oLa sh30) <| wE (oCl (s_mul hp1 hq0 (by decide) (by decide))) <| wE (oCl (s_sub (iok_mul (k := 2000000000) hp0 hq1 (by decide)) (iok_mul (k := 2000000000) hp1 hq0 (by decide)) (by decide) (by decide))) <| wE (oXr ar44 2) <| wT (oSt sh30) <| wZ) ?_
  refine kx [(9, (vin 3))] [] (zE (oAd 3 (hr := by decide)) <| zM <| zZ) ?_
  refine pwp_again (SimImp.refl _) ?_
  refine pwp_seq <| kx [(10, (vb false))] [] (zE (oBk false oLt) <| zZ) ?_
  refine pwp_seq <| pwp_cond (b := false) (by kernel_rfl) (fun h => by cases h) (fun _ => ?_)
  refine pwp_exit <| pwp_seq <| kx [] [(2, some (bx (encA43 (A3.mk (ofZ ((p1 * q2) - (p2 * q1))) (ofZ ((p2 * q0) - (p0 * q2))) (ofZ ((p0 * q1) - (p1 * q0)))))))] (zR (oLa sh44) <| zT (oSt sh44) <| zZ) ?_
  refine pwp_ret ⟨_, (res_a (cs := (bx (encA43 (A3.mk (ofZ ((p1 * q2) - (p2 * q1))) (ofZ ((p2 * q0) - (p0 * q2))) (ofZ ((p0 * q1) - (p1 * q0))))))) (d := (encA43 (A3.mk (ofZ ((p1 * q2) - (p2 * q1))) (ofZ ((p2 * q0) - (p0 * q2))) (ofZ ((p0 * q1) - (p1 * q0)))))) rfl rfl sh44 rfl rfl .nil), ?_⟩
  rfl
theorem l_cross (p : A3 RInt) (p0 p1 p2 : Int) (hp0 : IOk p.a0 p0 1000000000) (hp1 : IOk p.a1 p1 1000000000) (hp2 : IOk p.a2 p2 1000000000) (q : A3 RInt) (q0 q1 q2 : Int) (hq0 : IOk q.a0 q0 1000000000) (hq1 : IOk q.a1 q1 1000000000) (hq2 : IOk q.a2 q2 1000000000) : Takes Tryz.prog 55 [(encA43 p), (encA43 q)] (encA43 (A3.mk (ofZ ((p1 * q2) - (p2 * q1))) (ofZ ((p2 * q0) - (p0 * q2))) (ofZ ((p0 * q1) - (p1 * q0))))) := by
  refine fn_intro Tryz.func55 rfl cb55 rfl ?_
  show PWp _ _ _ _ ⟨[(0, (.d (encA43 p))), (1, (.d (encA43 q)))], []⟩
  refine pwp_seq <| kx [(2, (.ref 0 0)), (3, (.ref 1 0)), (4, (.ref 2 0))] [(0, some (bx (encA43 p))), (1, some (bx (encA43 q))), (2, some (bx (encA43 (A3.mk (RInt.mk false []) (RInt.mk false []) (RInt.mk false [])))))] (zN (oBx 0) <| zN (oBx 1) <| zN (oAl 2 ze44 zo44) <| zZ) ?_
  refine pwp_seq <| kd [] [(2, some (bx (encA43 (A3.mk (ofZ ((p1 * q2) - (p2 * q1))) (ofZ ((p2 * q0) - (p0 * q2))) (ofZ ((p0 * q1) - (p1 * q0)))))))] mo (wE (oXr ar44 1) <| wR (oLa sh30) <| wE (oXr ar44 2) <| wR (oLa sh30) <| wE (oCl (l_times p.a1 p1 (iu hp1) q.a2 q2 (iu hq2))) <| wE (oXr ar44 2) <| wR (oLa sh30) <| wE (oXr ar44 1) <| wR (oLa sh30) <| wE (oCl (l_times p.a2 p2 (iu hp2) q.a1 q1 (iu hq1))) <| wE (oCl (l_minus (ofZ (p1 * q2)) (p1 * q2) (iok_up (iok_mul (k := 2000000000) hp1 hq2 (by decide)) (by decide)) (ofZ (p2 * q1)) (p2 * q1) (iok_up (iok_mul (k := 2000000000) hp2 hq1 (by decide)) (by decide)))) <| wE (oXr ar44 2) <| wR (oLa sh30) <| wE (oXr ar44 0) <| wR (oLa sh30) <| wE (oCl (l_times p.a2 p2 (iu hp2) q.a0 q0 (iu hq0))) <| wE (oXr ar44 0) <| wR (oLa sh30) <| wE (oXr ar44 2) <| wR (oLa sh30) <| wE (oCl (l_times p.a0 p0 (iu hp0) q.a2 q2 (iu hq2))) <| wE (oCl (l_minus (ofZ (p2 * q0)) (p2 * q0) (iok_up (iok_mul (k := 2000000000) hp2 hq0 (by decide)) (by decide)) (ofZ (p0 * q2)) (p0 * q2) (iok_up (iok_mul (k := 2000000000) hp0 hq2 (by decide)) (by decide)))) <| wE (oXr ar44 0) <| wR (oLa sh30) <| wE (oXr ar44 1) <| wR (oLa sh30) <| wE (oCl (l_times p.a0 p0 (iu hp0) q.a1 q1 (iu hq1))) <| wE (oXr ar44 1) <| wR (oLa sh30) <| wE (oXr ar44 0) <| wR (oLa sh30) <| wE (oCl (l_times p.a1 p1 (iu hp1) q.a0 q0 (iu hq0))) <| wE (oCl (l_minus (ofZ (p0 * q1)) (p0 * q1) (iok_up (iok_mul (k := 2000000000) hp0 hq1 (by decide)) (by decide)) (ofZ (p1 * q0)) (p1 * q0) (iok_up (iok_mul (k := 2000000000) hp1 hq0 (by decide)) (by decide)))) <| wE (oBf ar44 ze44 zo44) <| wT (oSt sh44) <| wZ) ?_
  refine pwp_ret ⟨_, (res_a (cs := (bx (encA43 (A3.mk (ofZ ((p1 * q2) - (p2 * q1))) (ofZ ((p2 * q0) - (p0 * q2))) (ofZ ((p0 * q1) - (p1 * q0))))))) (d := (encA43 (A3.mk (ofZ ((p1 * q2) - (p2 * q1))) (ofZ ((p2 * q0) - (p0 * q2))) (ofZ ((p0 * q1) - (p1 * q0)))))) rfl rfl sh44 rfl rfl .nil), ?_⟩
  rfl
theorem d_dot (p : A3 RInt) (p0 p1 p2 : Int) (hp0 : IOk p.a0 p0 1000000000) (hp1 : IOk p.a1 p1 1000000000) (hp2 : IOk p.a2 p2 1000000000) (q : A3 RInt) (q0 q1 q2 : Int) (hq0 : IOk q.a0 q0 1000000000) (hq1 : IOk q.a1 q1 1000000000) (hq2 : IOk q.a2 q2 1000000000) : Takes Tryz.prog 88 [(encA43 p), (encA43 q)] (encI (ofZ (((p0 * q0) + (p1 * q1)) + (p2 * q2)))) := by
  refine fn_intro Tryz.func88 rfl cb88 rfl ?_
  show PWp _ _ _ _ ⟨[(0, (.d (encA43 p))), (1, (.d (encA43 q)))], []⟩
  refine pwp_seq <| kx [(2, (.ref 0 0)), (3, (.ref 1 0)), (4, (.ref 2 0))] [(0, some (bx (encA43 p))), (1, some (bx (encA43 q))), (2, some (bx (encI (RInt.mk false []))))] (zN (oBx 0) <| zN (oBx 1) <| zN (oAl 2 ze30 zo30) <| zZ) ?_
  refine pwp_seq <| kd [] [(2, some (bx (encI (ofZ (((p0 * q0) + (p1 * q1)) + (p2 * q2))))))] mo (wE (oXr ar44 0) <| wR (oLa sh30) <| wE (oXr ar44 0) <| wR (oLa sh30) <| wE (oCl (s_mul hp0 hq0 (by decide) (by decide))) <| wE (oXr ar44 1) <| wR (oLa sh30) <| wE (oXr ar44 1) <| wR (oLa sh30) <| wE (oCl (s_mul hp1 hq1 (by decide) (by decide))) <| wE (oXr ar44 2) <| wR (oLa sh30) <| wE (oXr ar44 2) <| wR (oLa sh30) <| wE (oCl (s_mul hp2 hq2 (by decide) (by decide))) <| wE (oBs el40 ze30 zo30) <| wE (oCl (by have h := d_sum 30 [(ofZ (p0 * q0)), (ofZ (p1 * q1)), (ofZ (p2 * q2))] [(p0 * q0), (p1 * q1), (p2 * q2)] (.cons (iok_up (iok_mul (k := 2000000000) hp0 hq0 (by decide)) (by decide)) (.cons (iok_up (iok_mul (k := 2000000000) hp1 hq1 (by decide)) (by decide)) (.cons (iok_up (iok_mul (k := 2000000000) hp2 hq2 (by decide)) (by decide)) .nil))) (by simp); rw [sumL3] at h; exact h)) <| wT (oSt sh30) <| wZ) ?_
  refine pwp_ret ⟨_, (res_a (cs := (bx (encI (ofZ (((p0 * q0) + (p1 * q1)) + (p2 * q2)))))) (d := (encI (ofZ (((p0 * q0) + (p1 * q1)) + (p2 * q2))))) rfl rfl sh30 rfl rfl .nil), ?_⟩
  rfl
theorem d_row0 (h : A9 RInt) (h0 h1 h2 h3 h4 h5 h6 h7 h8 : Int) (hh0 : IOk h.a0 h0 1000000000) (hh1 : IOk h.a1 h1 1000000000) (hh2 : IOk h.a2 h2 1000000000) (hh3 : IOk h.a3 h3 1000000000) (hh4 : IOk h.a4 h4 1000000000) (hh5 : IOk h.a5 h5 1000000000) (hh6 : IOk h.a6 h6 1000000000) (hh7 : IOk h.a7 h7 1000000000) (hh8 : IOk h.a8 h8 1000000000) : Takes Tryz.prog 97 [(encA31 h), (.val (.int .i64 (((0 : Nat) : Int))))] (encA43 (A3.mk h.a0 h.a1 h.a2)) := by
  refine fn_intro Tryz.func97 rfl cb97 rfl ?_
  show PWp _ _ _ _ ⟨[(0, (.d (encA31 h))), (1, (vin 0))], []⟩
  refine pwp_seq <| kx [(2, (.ref 0 0)), (4, (.ref 1 0))] [(0, some (bx (encA31 h))), (1, some (bx (encA43 (A3.mk (RInt.mk false []) (RInt.mk false []) (RInt.mk false [])))))] (zN (oBx 0) <| zN (oAl 1 ze44 zo44) <| zZ) ?_
  refine pwp_seq <| kd [] [(1, some (bx (encA43 (A3.mk h.a0 h.a1 h.a2))))] mo (wM <| wE (oMl 0 (hr := by decide)) <| wE (oXr ar32 0) <| wR (oLa sh30) <| wM <| wE (oMl 0 (hr := by decide)) <| wE (oAd 1 (hr := by decide)) <| wE (oXr ar32 1) <| wR (oLa sh30) <| wM <| wE (oMl 0 (hr := by decide)) <| wE (oAd 2 (hr := by decide)) <| wE (oXr ar32 2) <| wR (oLa sh30) <| wE (oBf ar44 ze44 zo44) <| wT (oSt sh44) <| wZ) ?_
  refine pwp_ret ⟨_, (res_a (cs := (bx (encA43 (A3.mk h.a0 h.a1 h.a2)))) (d := (encA43 (A3.mk h.a0 h.a1 h.a2))) rfl rfl sh44 rfl rfl .nil), ?_⟩
  rfl
theorem d_col0 (h : A9 RInt) (h0 h1 h2 h3 h4 h5 h6 h7 h8 : Int) (hh0 : IOk h.a0 h0 1000000000) (hh1 : IOk h.a1 h1 1000000000) (hh2 : IOk h.a2 h2 1000000000) (hh3 : IOk h.a3 h3 1000000000) (hh4 : IOk h.a4 h4 1000000000) (hh5 : IOk h.a5 h5 1000000000) (hh6 : IOk h.a6 h6 1000000000) (hh7 : IOk h.a7 h7 1000000000) (hh8 : IOk h.a8 h8 1000000000) : Takes Tryz.prog 124 [(encA31 h), (.val (.int .i64 (((0 : Nat) : Int))))] (encA43 (A3.mk h.a0 h.a3 h.a6)) := by
  refine fn_intro Tryz.func124 rfl cb124 rfl ?_
  show PWp _ _ _ _ ⟨[(0, (.d (encA31 h))), (1, (vin 0))], []⟩
  refine pwp_seq <| kx [(2, (.ref 0 0)), (4, (.ref 1 0))] [(0, some (bx (encA31 h))), (1, some (bx (encA43 (A3.mk (RInt.mk false []) (RInt.mk false []) (RInt.mk false [])))))] (zN (oBx 0) <| zN (oAl 1 ze44 zo44) <| zZ) ?_
  refine pwp_seq <| kd [] [(1, some (bx (encA43 (A3.mk h.a0 h.a3 h.a6))))] mo (wM <| wE (oXr ar32 0) <| wR (oLa sh30) <| wM <| wE (oAd 3 (hr := by decide)) <| wE (oXr ar32 3) <| wR (oLa sh30) <| wM <| wE (oAd 6 (hr := by decide)) <| wE (oXr ar32 6) <| wR (oLa sh30) <| wE (oBf ar44 ze44 zo44) <| wT (oSt sh44) <| wZ) ?_
  refine pwp_ret ⟨_, (res_a (cs := (bx (encA43 (A3.mk h.a0 h.a3 h.a6)))) (d := (encA43 (A3.mk h.a0 h.a3 h.a6))) rfl rfl sh44 rfl rfl .nil), ?_⟩
  rfl
theorem d_row1 (h : A9 RInt) (h0 h1 h2 h3 h4 h5 h6 h7 h8 : Int) (hh0 : IOk h.a0 h0 1000000000) (hh1 : IOk h.a1 h1 1000000000) (hh2 : IOk h.a2 h2 1000000000) (hh3 : IOk h.a3 h3 1000000000) (hh4 : IOk h.a4 h4 1000000000) (hh5 : IOk h.a5 h5 1000000000) (hh6 : IOk h.a6 h6 1000000000) (hh7 : IOk h.a7 h7 1000000000) (hh8 : IOk h.a8 h8 1000000000) : Takes Tryz.prog 97 [(encA31 h), (.val (.int .i64 (((1 : Nat) : Int))))] (encA43 (A3.mk h.a3 h.a4 h.a5)) := by
  refine fn_intro Tryz.func97 rfl cb97 rfl ?_
  show PWp _ _ _ _ ⟨[(0, (.d (encA31 h))), (1, (vin 1))], []⟩
  refine pwp_seq <| kx [(2, (.ref 0 0)), (4, (.ref 1 0))] [(0, some (bx (encA31 h))), (1, some (bx (encA43 (A3.mk (RInt.mk false []) (RInt.mk false []) (RInt.mk false [])))))] (zN (oBx 0) <| zN (oAl 1 ze44 zo44) <| zZ) ?_
  refine pwp_seq <| kd [] [(1, some (bx (encA43 (A3.mk h.a3 h.a4 h.a5))))] mo (wM <| wE (oMl 3 (hr := by decide)) <| wE (oXr ar32 3) <| wR (oLa sh30) <| wM <| wE (oMl 3 (hr := by decide)) <| wE (oAd 4 (hr := by decide)) <| wE (oXr ar32 4) <| wR (oLa sh30) <| wM <| wE (oMl 3 (hr := by decide)) <| wE (oAd 5 (hr := by decide)) <| wE (oXr ar32 5) <| wR (oLa sh30) <| wE (oBf ar44 ze44 zo44) <| wT (oSt sh44) <| wZ) ?_
  refine pwp_ret ⟨_, (res_a (cs := (bx (encA43 (A3.mk h.a3 h.a4 h.a5)))) (d := (encA43 (A3.mk h.a3 h.a4 h.a5))) rfl rfl sh44 rfl rfl .nil), ?_⟩
  rfl
theorem d_col1 (h : A9 RInt) (h0 h1 h2 h3 h4 h5 h6 h7 h8 : Int) (hh0 : IOk h.a0 h0 1000000000) (hh1 : IOk h.a1 h1 1000000000) (hh2 : IOk h.a2 h2 1000000000) (hh3 : IOk h.a3 h3 1000000000) (hh4 : IOk h.a4 h4 1000000000) (hh5 : IOk h.a5 h5 1000000000) (hh6 : IOk h.a6 h6 1000000000) (hh7 : IOk h.a7 h7 1000000000) (hh8 : IOk h.a8 h8 1000000000) : Takes Tryz.prog 124 [(encA31 h), (.val (.int .i64 (((1 : Nat) : Int))))] (encA43 (A3.mk h.a1 h.a4 h.a7)) := by
  refine fn_intro Tryz.func124 rfl cb124 rfl ?_
  show PWp _ _ _ _ ⟨[(0, (.d (encA31 h))), (1, (vin 1))], []⟩
  refine pwp_seq <| kx [(2, (.ref 0 0)), (4, (.ref 1 0))] [(0, some (bx (encA31 h))), (1, some (bx (encA43 (A3.mk (RInt.mk false []) (RInt.mk false []) (RInt.mk false [])))))] (zN (oBx 0) <| zN (oAl 1 ze44 zo44) <| zZ) ?_
  refine pwp_seq <| kd [] [(1, some (bx (encA43 (A3.mk h.a1 h.a4 h.a7))))] mo (wM <| wE (oXr ar32 1) <| wR (oLa sh30) <| wM <| wE (oAd 4 (hr := by decide)) <| wE (oXr ar32 4) <| wR (oLa sh30) <| wM <| wE (oAd 7 (hr := by decide)) <| wE (oXr ar32 7) <| wR (oLa sh30) <| wE (oBf ar44 ze44 zo44) <| wT (oSt sh44) <| wZ) ?_
  refine pwp_ret ⟨_, (res_a (cs := (bx (encA43 (A3.mk h.a1 h.a4 h.a7)))) (d := (encA43 (A3.mk h.a1 h.a4 h.a7))) rfl rfl sh44 rfl rfl .nil), ?_⟩
  rfl
theorem d_row2 (h : A9 RInt) (h0 h1 h2 h3 h4 h5 h6 h7 h8 : Int) (hh0 : IOk h.a0 h0 1000000000) (hh1 : IOk h.a1 h1 1000000000) (hh2 : IOk h.a2 h2 1000000000) (hh3 : IOk h.a3 h3 1000000000) (hh4 : IOk h.a4 h4 1000000000) (hh5 : IOk h.a5 h5 1000000000) (hh6 : IOk h.a6 h6 1000000000) (hh7 : IOk h.a7 h7 1000000000) (hh8 : IOk h.a8 h8 1000000000) : Takes Tryz.prog 97 [(encA31 h), (.val (.int .i64 (((2 : Nat) : Int))))] (encA43 (A3.mk h.a6 h.a7 h.a8)) := by
  refine fn_intro Tryz.func97 rfl cb97 rfl ?_
  show PWp _ _ _ _ ⟨[(0, (.d (encA31 h))), (1, (vin 2))], []⟩
  refine pwp_seq <| kx [(2, (.ref 0 0)), (4, (.ref 1 0))] [(0, some (bx (encA31 h))), (1, some (bx (encA43 (A3.mk (RInt.mk false []) (RInt.mk false []) (RInt.mk false [])))))] (zN (oBx 0) <| zN (oAl 1 ze44 zo44) <| zZ) ?_
  refine pwp_seq <| kd [] [(1, some (bx (encA43 (A3.mk h.a6 h.a7 h.a8))))] mo (wM <| wE (oMl 6 (hr := by decide)) <| wE (oXr ar32 6) <| wR (oLa sh30) <| wM <| wE (oMl 6 (hr := by decide)) <| wE (oAd 7 (hr := by decide)) <| wE (oXr ar32 7) <| wR (oLa sh30) <| wM <| wE (oMl 6 (hr := by decide)) <| wE (oAd 8 (hr := by decide)) <| wE (oXr ar32 8) <| wR (oLa sh30) <| wE (oBf ar44 ze44 zo44) <| wT (oSt sh44) <| wZ) ?_
  refine pwp_ret ⟨_, (res_a (cs := (bx (encA43 (A3.mk h.a6 h.a7 h.a8)))) (d := (encA43 (A3.mk h.a6 h.a7 h.a8))) rfl rfl sh44 rfl rfl .nil), ?_⟩
  rfl
theorem d_col2 (h : A9 RInt) (h0 h1 h2 h3 h4 h5 h6 h7 h8 : Int) (hh0 : IOk h.a0 h0 1000000000) (hh1 : IOk h.a1 h1 1000000000) (hh2 : IOk h.a2 h2 1000000000) (hh3 : IOk h.a3 h3 1000000000) (hh4 : IOk h.a4 h4 1000000000) (hh5 : IOk h.a5 h5 1000000000) (hh6 : IOk h.a6 h6 1000000000) (hh7 : IOk h.a7 h7 1000000000) (hh8 : IOk h.a8 h8 1000000000) : Takes Tryz.prog 124 [(encA31 h), (.val (.int .i64 (((2 : Nat) : Int))))] (encA43 (A3.mk h.a2 h.a5 h.a8)) := by
  refine fn_intro Tryz.func124 rfl cb124 rfl ?_
  show PWp _ _ _ _ ⟨[(0, (.d (encA31 h))), (1, (vin 2))], []⟩
  refine pwp_seq <| kx [(2, (.ref 0 0)), (4, (.ref 1 0))] [(0, some (bx (encA31 h))), (1, some (bx (encA43 (A3.mk (RInt.mk false []) (RInt.mk false []) (RInt.mk false [])))))] (zN (oBx 0) <| zN (oAl 1 ze44 zo44) <| zZ) ?_
  refine pwp_seq <| kd [] [(1, some (bx (encA43 (A3.mk h.a2 h.a5 h.a8))))] mo (wM <| wE (oXr ar32 2) <| wR (oLa sh30) <| wM <| wE (oAd 5 (hr := by decide)) <| wE (oXr ar32 5) <| wR (oLa sh30) <| wM <| wE (oAd 8 (hr := by decide)) <| wE (oXr ar32 8) <| wR (oLa sh30) <| wE (oBf ar44 ze44 zo44) <| wT (oSt sh44) <| wZ) ?_
  refine pwp_ret ⟨_, (res_a (cs := (bx (encA43 (A3.mk h.a2 h.a5 h.a8)))) (d := (encA43 (A3.mk h.a2 h.a5 h.a8))) rfl rfl sh44 rfl rfl .nil), ?_⟩
  rfl
theorem l_dot (p : A3 RInt) (p0 p1 p2 : Int) (hp0 : IOk p.a0 p0 1000000000) (hp1 : IOk p.a1 p1 1000000000) (hp2 : IOk p.a2 p2 1000000000) (q : A3 RInt) (q0 q1 q2 : Int) (hq0 : IOk q.a0 q0 1000000000) (hq1 : IOk q.a1 q1 1000000000) (hq2 : IOk q.a2 q2 1000000000) : Takes Tryz.prog 56 [(encA43 p), (encA43 q)] (encI (ofZ (((p0 * q0) + (p1 * q1)) + (p2 * q2)))) := by
  refine fn_intro Tryz.func56 rfl cb56 rfl ?_
  show PWp _ _ _ _ ⟨[(0, (.d (encA43 p))), (1, (.d (encA43 q)))], []⟩
  refine pwp_seq <| kx [(2, (.ref 0 0)), (3, (.ref 1 0)), (4, (.ref 2 0))] [(0, some (bx (encA43 p))), (1, some (bx (encA43 q))), (2, some (bx (encI (RInt.mk false []))))] (zN (oBx 0) <| zN (oBx 1) <| zN (oAl 2 ze30 zo30) <| zZ) ?_
  refine pwp_seq <| kd [] [(2, some (bx (encI (ofZ (((p0 * q0) + (p1 * q1)) + (p2 * q2))))))] mo (wE (oXr ar44 0) <| wR (oLa sh30) <| wE (oXr ar44 0) <| wR (oLa sh30) <| wE (oCl (l_times p.a0 p0 (iu hp0) q.a0 q0 (iu hq0))) <| wE (oXr ar44 1) <| wR (oLa sh30) <| wE (oXr ar44 1) <| wR (oLa sh30) <| wE (oCl (l_times p.a1 p1 (iu hp1) q.a1 q1 (iu hq1))) <| wE (oCl (l_plus (ofZ (p0 * q0)) (p0 * q0) (iok_up (iok_mul (k := 2000000000) hp0 hq0 (by decide)) (by decide)) (ofZ (p1 * q1)) (p1 * q1) (iok_up (iok_mul (k := 2000000000) hp1 hq1 (by decide)) (by decide)))) <| wE (oXr ar44 2) <| wR (oLa sh30) <| wE (oXr ar44 2) <| wR (oLa sh30) <| wE (oCl (l_times p.a2 p2 (iu hp2) q.a2 q2 (iu hq2))) <| wE (oCl (l_plus (ofZ ((p0 * q0) + (p1 * q1))) ((p0 * q0) + (p1 * q1)) (iok_up (iok_add (k := 2000000001) (iok_mul (k := 2000000000) hp0 hq0 (by decide)) (iok_mul (k := 2000000000) hp1 hq1 (by decide)) (by decide)) (by decide)) (ofZ (p2 * q2)) (p2 * q2) (iok_up (iok_mul (k := 2000000000) hp2 hq2 (by decide)) (by decide)))) <| wT (oSt sh30) <| wZ) ?_
  refine pwp_ret ⟨_, (res_a (cs := (bx (encI (ofZ (((p0 * q0) + (p1 * q1)) + (p2 * q2)))))) (d := (encI (ofZ (((p0 * q0) + (p1 * q1)) + (p2 * q2))))) rfl rfl sh30 rfl rfl .nil), ?_⟩
  rfl
theorem l_row0 (h : A9 RInt) (h0 h1 h2 h3 h4 h5 h6 h7 h8 : Int) (hh0 : IOk h.a0 h0 1000000000) (hh1 : IOk h.a1 h1 1000000000) (hh2 : IOk h.a2 h2 1000000000) (hh3 : IOk h.a3 h3 1000000000) (hh4 : IOk h.a4 h4 1000000000) (hh5 : IOk h.a5 h5 1000000000) (hh6 : IOk h.a6 h6 1000000000) (hh7 : IOk h.a7 h7 1000000000) (hh8 : IOk h.a8 h8 1000000000) : Takes Tryz.prog 75 [(encA31 h), (.val (.int .i64 (((0 : Nat) : Int))))] (encA43 (A3.mk h.a0 h.a1 h.a2)) := by
  refine fn_intro Tryz.func75 rfl cb75 rfl ?_
  show PWp _ _ _ _ ⟨[(0, (.d (encA31 h))), (1, (vin 0))], []⟩
  refine pwp_seq <| kx [(2, (.ref 0 0)), (4, (.ref 1 0))] [(0, some (bx (encA31 h))), (1, some (bx (encA43 (A3.mk (RInt.mk false []) (RInt.mk false []) (RInt.mk false [])))))] (zN (oBx 0) <| zN (oAl 1 ze44 zo44) <| zZ) ?_
  refine pwp_seq <| kd [] [(1, some (bx (encA43 (A3.mk h.a0 h.a1 h.a2))))] mo (wM <| wE (oMl 0 (hr := by decide)) <| wE (oXr ar32 0) <| wR (oLa sh30) <| wM <| wE (oMl 0 (hr := by decide)) <| wE (oAd 1 (hr := by decide)) <| wE (oXr ar32 1) <| wR (oLa sh30) <| wM <| wE (oMl 0 (hr := by decide)) <| wE (oAd 2 (hr := by decide)) <| wE (oXr ar32 2) <| wR (oLa sh30) <| wE (oBf ar44 ze44 zo44) <| wT (oSt sh44) <| wZ) ?_
  refine pwp_ret ⟨_, (res_a (cs := (bx (encA43 (A3.mk h.a0 h.a1 h.a2)))) (d := (encA43 (A3.mk h.a0 h.a1 h.a2))) rfl rfl sh44 rfl rfl .nil), ?_⟩
  rfl
theorem l_row1 (h : A9 RInt) (h0 h1 h2 h3 h4 h5 h6 h7 h8 : Int) (hh0 : IOk h.a0 h0 1000000000) (hh1 : IOk h.a1 h1 1000000000) (hh2 : IOk h.a2 h2 1000000000) (hh3 : IOk h.a3 h3 1000000000) (hh4 : IOk h.a4 h4 1000000000) (hh5 : IOk h.a5 h5 1000000000) (hh6 : IOk h.a6 h6 1000000000) (hh7 : IOk h.a7 h7 1000000000) (hh8 : IOk h.a8 h8 1000000000) : Takes Tryz.prog 75 [(encA31 h), (.val (.int .i64 (((1 : Nat) : Int))))] (encA43 (A3.mk h.a3 h.a4 h.a5)) := by
  refine fn_intro Tryz.func75 rfl cb75 rfl ?_
  show PWp _ _ _ _ ⟨[(0, (.d (encA31 h))), (1, (vin 1))], []⟩
  refine pwp_seq <| kx [(2, (.ref 0 0)), (4, (.ref 1 0))] [(0, some (bx (encA31 h))), (1, some (bx (encA43 (A3.mk (RInt.mk false []) (RInt.mk false []) (RInt.mk false [])))))] (zN (oBx 0) <| zN (oAl 1 ze44 zo44) <| zZ) ?_
  refine pwp_seq <| kd [] [(1, some (bx (encA43 (A3.mk h.a3 h.a4 h.a5))))] mo (wM <| wE (oMl 3 (hr := by decide)) <| wE (oXr ar32 3) <| wR (oLa sh30) <| wM <| wE (oMl 3 (hr := by decide)) <| wE (oAd 4 (hr := by decide)) <| wE (oXr ar32 4) <| wR (oLa sh30) <| wM <| wE (oMl 3 (hr := by decide)) <| wE (oAd 5 (hr := by decide)) <| wE (oXr ar32 5) <| wR (oLa sh30) <| wE (oBf ar44 ze44 zo44) <| wT (oSt sh44) <| wZ) ?_
  refine pwp_ret ⟨_, (res_a (cs := (bx (encA43 (A3.mk h.a3 h.a4 h.a5)))) (d := (encA43 (A3.mk h.a3 h.a4 h.a5))) rfl rfl sh44 rfl rfl .nil), ?_⟩
  rfl
theorem l_row2 (h : A9 RInt) (h0 h1 h2 h3 h4 h5 h6 h7 h8 : Int) (hh0 : IOk h.a0 h0 1000000000) (hh1 : IOk h.a1 h1 1000000000) (hh2 : IOk h.a2 h2 1000000000) (hh3 : IOk h.a3 h3 1000000000) (hh4 : IOk h.a4 h4 1000000000) (hh5 : IOk h.a5 h5 1000000000) (hh6 : IOk h.a6 h6 1000000000) (hh7 : IOk h.a7 h7 1000000000) (hh8 : IOk h.a8 h8 1000000000) : Takes Tryz.prog 75 [(encA31 h), (.val (.int .i64 (((2 : Nat) : Int))))] (encA43 (A3.mk h.a6 h.a7 h.a8)) := by
  refine fn_intro Tryz.func75 rfl cb75 rfl ?_
  show PWp _ _ _ _ ⟨[(0, (.d (encA31 h))), (1, (vin 2))], []⟩
  refine pwp_seq <| kx [(2, (.ref 0 0)), (4, (.ref 1 0))] [(0, some (bx (encA31 h))), (1, some (bx (encA43 (A3.mk (RInt.mk false []) (RInt.mk false []) (RInt.mk false [])))))] (zN (oBx 0) <| zN (oAl 1 ze44 zo44) <| zZ) ?_
  refine pwp_seq <| kd [] [(1, some (bx (encA43 (A3.mk h.a6 h.a7 h.a8))))] mo (wM <| wE (oMl 6 (hr := by decide)) <| wE (oXr ar32 6) <| wR (oLa sh30) <| wM <| wE (oMl 6 (hr := by decide)) <| wE (oAd 7 (hr := by decide)) <| wE (oXr ar32 7) <| wR (oLa sh30) <| wM <| wE (oMl 6 (hr := by decide)) <| wE (oAd 8 (hr := by decide)) <| wE (oXr ar32 8) <| wR (oLa sh30) <| wE (oBf ar44 ze44 zo44) <| wT (oSt sh44) <| wZ) ?_
  refine pwp_ret ⟨_, (res_a (cs := (bx (encA43 (A3.mk h.a6 h.a7 h.a8)))) (d := (encA43 (A3.mk h.a6 h.a7 h.a8))) rfl rfl sh44 rfl rfl .nil), ?_⟩
  rfl
end Go.Proofs.YtadkkhdnccljcaaGreat
