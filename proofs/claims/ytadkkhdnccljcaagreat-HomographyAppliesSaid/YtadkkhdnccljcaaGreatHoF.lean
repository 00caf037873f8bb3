/-
  Functions walked: each takes its data to what is said. Printed by a program of ours.
-/
import Derived.Test.YtadkkhdnccljcaaGreatHoE
import Derived.Test.YtadkkhdnccljcaaGreatIv
namespace Go.Proofs.YtadkkhdnccljcaaGreat
open Go.Fid
set_option maxRecDepth 4000
set_option linter.unusedVariables false
set_option linter.unusedSimpArgs false
theorem ar80 : arrB Tryz.prog 80 = some (9, 3, 1) := by kernel_rfl
theorem cb11 : callB Tryz.prog 11 = true := by kernel_rfl
theorem cb14 : callB Tryz.prog 14 = true := by kernel_rfl
theorem cb15 : callB Tryz.prog 15 = true := by kernel_rfl
theorem cb16 : callB Tryz.prog 16 = true := by kernel_rfl
theorem cb19 : callB Tryz.prog 19 = true := by kernel_rfl
theorem cb20 : callB Tryz.prog 20 = true := by kernel_rfl
theorem cb41 : callB Tryz.prog 41 = true := by kernel_rfl
theorem cb47 : callB Tryz.prog 47 = true := by kernel_rfl
theorem cb63 : callB Tryz.prog 63 = true := by kernel_rfl
theorem cb76 : callB Tryz.prog 76 = true := by kernel_rfl
theorem el49 : elemB Tryz.prog 49 = some (32, 18) := by kernel_rfl
theorem el65 : elemB Tryz.prog 65 = some (44, 6) := by kernel_rfl
theorem pl23 : placesB Tryz.prog 23 = some [(0, 1), (1, 1)] := by kernel_rfl
theorem pl25 : placesB Tryz.prog 25 = some [(0, 2), (2, 2)] := by kernel_rfl
theorem sh80 : shapeB Tryz.prog 80 = some (true, 9) := by kernel_rfl
theorem ze23 : zeroB Tryz.prog 23 = some [.int .i64 0, .int .i64 0] := by kernel_rfl
theorem ze26 : zeroB Tryz.prog 26 = some [.int .i64 0, .int .i64 0, .int .i64 0, .int .i64 0, .int .i64 0, .int .i64 0, .int .i64 0, .int .i64 0, .int .i64 0, .int .i64 0, .int .i64 0, .int .i64 0, .int .i64 0, .int .i64 0, .int .i64 0, .int .i64 0] := by kernel_rfl
theorem ze80 : zeroB Tryz.prog 80 = some [.int .i64 0, .int .i64 0, .int .i64 0, .int .i64 0, .int .i64 0, .int .i64 0, .int .i64 0, .int .i64 0, .int .i64 0] := by kernel_rfl
theorem zo23 : ZOk [.int .i64 0, .int .i64 0] [.val (.int .i64 0), .val (.int .i64 0)] := by simp [ZOk, Value.oneCell']
theorem zo26 : ZOk [.int .i64 0, .int .i64 0, .int .i64 0, .int .i64 0, .int .i64 0, .int .i64 0, .int .i64 0, .int .i64 0, .int .i64 0, .int .i64 0, .int .i64 0, .int .i64 0, .int .i64 0, .int .i64 0, .int .i64 0, .int .i64 0] [.val (.int .i64 0), .val (.int .i64 0), .val (.int .i64 0), .val (.int .i64 0), .val (.int .i64 0), .val (.int .i64 0), .val (.int .i64 0), .val (.int .i64 0), .val (.int .i64 0), .val (.int .i64 0), .val (.int .i64 0), .val (.int .i64 0), .val (.int .i64 0), .val (.int .i64 0), .val (.int .i64 0), .val (.int .i64 0)] := by simp [ZOk, Value.oneCell']
theorem zo80 : ZOk [.int .i64 0, .int .i64 0, .int .i64 0, .int .i64 0, .int .i64 0, .int .i64 0, .int .i64 0, .int .i64 0, .int .i64 0] [.val (.int .i64 0), .val (.int .i64 0), .val (.int .i64 0), .val (.int .i64 0), .val (.int .i64 0), .val (.int .i64 0), .val (.int .i64 0), .val (.int .i64 0), .val (.int .i64 0)] := by simp [ZOk, Value.oneCell']
theorem l_sameT3 (p : A3 RInt) (p0 p1 p2 : Int) (hp0 : IOk p.a0 p0 1000000) (hp1 : IOk p.a1 p1 1000000) (hp2 : IOk p.a2 p2 1000000) (q : A3 RInt) (q0 q1 q2 : Int) (hq0 : IOk q.a0 q0 1000000) (hq1 : IOk q.a1 q1 1000000) (hq2 : IOk q.a2 q2 1000000) (hv0 : validI p.a0 = true) (hv1 : validI p.a1 = true) (hv2 : validI p.a2 = true) (hs0 : sameI p.a0 q.a0 = true) (hs1 : sameI p.a1 q.a1 = true) (hs2 : sameI p.a2 q.a2 = true) : Takes Tryz.prog 16 [(encA43 p), (encA43 q)] (.val (.bool (true))) := by
  refine fn_intro Tryz.func16 rfl cb16 rfl ?_
  show PWp _ _ _ _ ⟨[(0, (.d (encA43 p))), (1, (.d (encA43 q)))], []⟩
  refine pwp_seq <| pwp_S (S' := [(2, (.ref 0 0)), (3, (.ref 1 0))]) (B' := [(0, some (bx (encA43 p))), (1, some (bx (encA43 q)))]) ?_ ?_
  · exact sN (n_bx (d := (encA43 p)) (cs := (bx (encA43 p))) 0 rfl rfl rfl rfl) rfl rfl rfl rfl <| sN (n_bx (d := (encA43 q)) (cs := (bx (encA43 q))) 1 rfl rfl rfl rfl) rfl rfl rfl rfl <| sM (vb false) rfl rfl <| sNil rfl rfl
  refine pwp_seq <| pwp_seq <| pwp_S (S' := [(2, (.ref 0 0)), (3, (.ref 1 0)), (6, (vin 0))]) (B' := [(0, some (bx (encA43 p))), (1, some (bx (encA43 q)))]) ?_ ?_
  · exact sM (vin 0) rfl rfl <| sNil rfl rfl
  refine pwp_block <| pwp_rounds 20 ?_
  refine pwp_round <| pwp_seq <| pwp_S (S' := [(2, (.ref 0 0)), (3, (.ref 1 0)), (6, (vin 0)), (7, (vb true))]) (B' := [(0, some (bx (encA43 p))), (1, some (bx (encA43 q)))]) ?_ ?_
  · exact sE' (e_bk (c := true) (e_lss rfl rfl rfl) (by decide)) rfl <| sNil rfl rfl
  refine pwp_seq <| pwp_cond (b := true) rfl (fun _ => ?_) (fun h => by cases h)
  refine pwp_skip <| pwp_seq <| pwp_block <| pwp_seq <| pwp_S (S' := [(2, (.ref 0 0)), (3, (.ref 1 0)), (5, (vin 0)), (6, (vin 0))]) (B' := [(0, some (bx (encA43 p))), (1, some (bx (encA43 q)))]) ?_ ?_
  · exact sM (vin 0) rfl rfl <| sM (vin 0) rfl rfl <| sNil rfl rfl
  refine pwp_seq <| pwp_D (S' := [(2, (.ref 0 0)), (3, (.ref 1 0)), (6, (vin 0)), (23, (vb false))]) (B' := [(0, some (bx (encA43 p))), (1, some (bx (encA43 q)))]) mo (by kernel_rfl) ?_ ?_
  · exact dM (vin 0) rfl rfl rfl <| dE' (e_ixar (j := 0) (q := 0) rfl ar44 rfl rfl rfl (by decide) rfl) rfl rfl <| dR (e_lda (cs := (bx (encA43 p))) (y := (.d (encI p.a0))) rfl rfl sh30 rfl rfl) rfl rfl rfl rfl rfl <| dE' (e_bk (c := true) (e_cl (r_valid p.a0 (Nat.le_trans hp0.l (by decide))) rfl rfl rfl) hv0) rfl rfl <| dE' (e_not (b := true) rfl rfl) rfl rfl <| dM (vb false) rfl rfl rfl <| dM (vin 0) rfl rfl rfl <| dE' (e_ixar (j := 0) (q := 0) rfl ar44 rfl rfl rfl (by decide) rfl) rfl rfl <| dR (e_lda (cs := (bx (encA43 p))) (y := (.d (encI p.a0))) rfl rfl sh30 rfl rfl) rfl rfl rfl rfl rfl <| dM (vin 0) rfl rfl rfl <| dE' (e_ixar (j := 0) (q := 0) rfl ar44 rfl rfl rfl (by decide) rfl) rfl rfl <| dR (e_lda (cs := (bx (encA43 q))) (y := (.d (encI q.a0))) rfl rfl sh30 rfl rfl) rfl rfl rfl rfl rfl <| dE' (e_bk (c := true) (e_cl (r_same p.a0 q.a0 (Nat.le_trans hp0.l (by decide)) (Nat.le_trans hq0.l (by decide))) rfl rfl rfl) hs0) rfl rfl <| dE' (e_not (b := true) rfl rfl) rfl rfl <| dE' (e_pkf (z := (vb false)) rfl rfl rfl) rfl rfl <| dNil rfl rfl (by kernel_rfl)
  refine pwp_cond (b := false) rfl (fun h => by cases h) (fun _ => ?_)
  refine pwp_skip <| pwp_S (S' := [(2, (.ref 0 0)), (3, (.ref 1 0)), (6, (vin 1))]) (B' := [(0, some (bx (encA43 p))), (1, some (bx (encA43 q)))]) ?_ ?_
  · exact sE' (e_add (r := ((1 : Nat) : Int)) rfl rfl rfl (by decide)) rfl <| sM (vin 1) rfl rfl <| sNil rfl rfl
  refine pwp_again (st := ⟨[(2, (.ref 0 0)), (3, (.ref 1 0)), (6, (vin 1))], [(0, some (bx (encA43 p))), (1, some (bx (encA43 q)))]⟩) (weak rfl rfl) ?_
  refine pwp_seq <| pwp_S (S' := [(2, (.ref 0 0)), (3, (.ref 1 0)), (6, (vin 1)), (7, (vb true))]) (B' := [(0, some (bx (encA43 p))), (1, some (bx (encA43 q)))]) ?_ ?_
  · exact sE' (e_bk (c := true) (e_lss rfl rfl rfl) (by decide)) rfl <| sNil rfl rfl
  refine pwp_seq <| pwp_cond (b := true) rfl (fun _ => ?_) (fun h => by cases h)
  refine pwp_skip <| pwp_seq <| pwp_block <| pwp_seq <| pwp_S (S' := [(2, (.ref 0 0)), (3, (.ref 1 0)), (5, (vin 1)), (6, (vin 1))]) (B' := [(0, some (bx (encA43 p))), (1, some (bx (encA43 q)))]) ?_ ?_
  · exact sM (vin 1) rfl rfl <| sM (vin 1) rfl rfl <| sNil rfl rfl
  refine pwp_seq <| pwp_D (S' := [(2, (.ref 0 0)), (3, (.ref 1 0)), (6, (vin 1)), (23, (vb false))]) (B' := [(0, some (bx (encA43 p))), (1, some (bx (encA43 q)))]) mo (by kernel_rfl) ?_ ?_
  · exact dM (vin 1) rfl rfl rfl <| dE' (e_ixar (j := 1) (q := 2) rfl ar44 rfl rfl rfl (by decide) rfl) rfl rfl <| dR (e_lda (cs := (bx (encA43 p))) (y := (.d (encI p.a1))) rfl rfl sh30 rfl rfl) rfl rfl rfl rfl rfl <| dE' (e_bk (c := true) (e_cl (r_valid p.a1 (Nat.le_trans hp1.l (by decide))) rfl rfl rfl) hv1) rfl rfl <| dE' (e_not (b := true) rfl rfl) rfl rfl <| dM (vb false) rfl rfl rfl <| dM (vin 1) rfl rfl rfl <| dE' (e_ixar (j := 1) (q := 2) rfl ar44 rfl rfl rfl (by decide) rfl) rfl rfl <| dR (e_lda (cs := (bx (encA43 p))) (y := (.d (encI p.a1))) rfl rfl sh30 rfl rfl) rfl rfl rfl rfl rfl <| dM (vin 1) rfl rfl rfl <| dE' (e_ixar (j := 1) (q := 2) rfl ar44 rfl rfl rfl (by decide) rfl) rfl rfl <| dR (e_lda (cs := (bx (encA43 q))) (y := (.d (encI q.a1))) rfl rfl sh30 rfl rfl) rfl rfl rfl rfl rfl <| dE' (e_bk (c := true) (e_cl (r_same p.a1 q.a1 (Nat.le_trans hp1.l (by decide)) (Nat.le_trans hq1.l (by decide))) rfl rfl rfl) hs1) rfl rfl <| dE' (e_not (b := true) rfl rfl) rfl rfl <| dE' (e_pkf (z := (vb false)) rfl rfl rfl) rfl rfl <| dNil rfl rfl (by kernel_rfl)
  refine pwp_cond (b := false) rfl (fun h => by cases h) (fun _ => ?_)
  refine pwp_skip <| pwp_S (S' := [(2, (.ref 0 0)), (3, (.ref 1 0)), (6, (vin 2))]) (B' := [(0, some (bx (encA43 p))), (1, some (bx (encA43 q)))]) ?_ ?_
  · exact sE' (e_add (r := ((2 : Nat) : Int)) rfl rfl rfl (by decide)) rfl <| sM (vin 2) rfl rfl <| sNil rfl rfl
  refine pwp_again (st := ⟨[(2, (.ref 0 0)), (3, (.ref 1 0)), (6, (vin 2))], [(0, some (bx (encA43 p))), (1, some (bx (encA43 q)))]⟩) (weak rfl rfl) ?_
  refine pwp_seq <| pwp_S (S' := [(2, (.ref 0 0)), (3, (.ref 1 0)), (6, (vin 2)), (7, (vb true))]) (B' := [(0, some (bx (encA43 p))), (1, some (bx (encA43 q)))]) ?_ ?_
  · exact sE' (e_bk (c := true) (e_lss rfl rfl rfl) (by decide)) rfl <| sNil rfl rfl
  refine pwp_seq <| pwp_cond (b := true) rfl (fun _ => ?_) (fun h => by cases h)
  refine pwp_skip <| pwp_seq <| pwp_block <| pwp_seq <| pwp_S (S' := [(2, (.ref 0 0)), (3, (.ref 1 0)), (5, (vin 2)), (6, (vin 2))]) (B' := [(0, some (bx (encA43 p))), (1, some (bx (encA43 q)))]) ?_ ?_
  · exact sM (vin 2) rfl rfl <| sM (vin 2) rfl rfl <| sNil rfl rfl
  refine pwp_seq <| pwp_D (S' := [(2, (.ref 0 0)), (3, (.ref 1 0)), (6, (vin 2)), (23, (vb false))]) (B' := [(0, some (bx (encA43 p))), (1, some (bx (encA43 q)))]) mo (by kernel_rfl) ?_ ?_
  · exact dM (vin 2) rfl rfl rfl <| dE' (e_ixar (j := 2) (q := 4) rfl ar44 rfl rfl rfl (by decide) rfl) rfl rfl <| dR (e_lda (cs := (bx (encA43 p))) (y := (.d (encI p.a2))) rfl rfl sh30 rfl rfl) rfl rfl rfl rfl rfl <| dE' (e_bk (c := true) (e_cl (r_valid p.a2 (Nat.le_trans hp2.l (by decide))) rfl rfl rfl) hv2) rfl rfl <| dE' (e_not (b := true) rfl rfl) rfl rfl <| dM (vb false) rfl rfl rfl <| dM (vin 2) rfl rfl rfl <| dE' (e_ixar (j := 2) (q := 4) rfl ar44 rfl rfl rfl (by decide) rfl) rfl rfl <| dR (e_lda (cs := (bx (encA43 p))) (y := (.d (encI p.a2))) rfl rfl sh30 rfl rfl) rfl rfl rfl rfl rfl <| dM (vin 2) rfl rfl rfl <| dE' (e_ixar (j := 2) (q := 4) rfl ar44 rfl rfl rfl (by decide) rfl) rfl rfl <| dR (e_lda (cs := (bx (encA43 q))) (y := (.d (encI q.a2))) rfl rfl sh30 rfl rfl) rfl rfl rfl rfl rfl <| dE' (e_bk (c := true) (e_cl (r_same p.a2 q.a2 (Nat.le_trans hp2.l (by decide)) (Nat.le_trans hq2.l (by decide))) rfl rfl rfl) hs2) rfl rfl <| dE' (e_not (b := true) rfl rfl) rfl rfl <| dE' (e_pkf (z := (vb false)) rfl rfl rfl) rfl rfl <| dNil rfl rfl (by kernel_rfl)
  refine pwp_cond (b := false) rfl (fun h => by cases h) (fun _ => ?_)
  refine pwp_skip <| pwp_S (S' := [(2, (.ref 0 0)), (3, (.ref 1 0)), (6, (vin 3))]) (B' := [(0, some (bx (encA43 p))), (1, some (bx (encA43 q)))]) ?_ ?_
  · exact sE' (e_add (r := ((3 : Nat) : Int)) rfl rfl rfl (by decide)) rfl <| sM (vin 3) rfl rfl <| sNil rfl rfl
  refine pwp_again (st := ⟨[(2, (.ref 0 0)), (3, (.ref 1 0)), (6, (vin 3))], [(0, some (bx (encA43 p))), (1, some (bx (encA43 q)))]⟩) (weak rfl rfl) ?_
  refine pwp_seq <| pwp_S (S' := [(2, (.ref 0 0)), (3, (.ref 1 0)), (6, (vin 3)), (7, (vb false))]) (B' := [(0, some (bx (encA43 p))), (1, some (bx (encA43 q)))]) ?_ ?_
  · exact sE' (e_bk (c := false) (e_lss rfl rfl rfl) (by decide)) rfl <| sNil rfl rfl
  refine pwp_seq <| pwp_cond (b := false) rfl (fun h => by cases h) (fun _ => ?_)
  refine pwp_exit <| pwp_seq <| pwp_S (S' := [(4, (vb true))]) (B' := []) ?_ ?_
  · exact sM (vb true) rfl rfl <| sNil rfl rfl
  refine pwp_ret ⟨_, (.tmp (d := (.val (.bool (true)))) rfl .nil), ?_⟩
  rfl
theorem l_sameT9 (p : A9 RInt) (p0 p1 p2 p3 p4 p5 p6 p7 p8 : Int) (hp0 : IOk p.a0 p0 1000000) (hp1 : IOk p.a1 p1 1000000) (hp2 : IOk p.a2 p2 1000000) (hp3 : IOk p.a3 p3 1000000) (hp4 : IOk p.a4 p4 1000000) (hp5 : IOk p.a5 p5 1000000) (hp6 : IOk p.a6 p6 1000000) (hp7 : IOk p.a7 p7 1000000) (hp8 : IOk p.a8 p8 1000000) (q : A9 RInt) (q0 q1 q2 q3 q4 q5 q6 q7 q8 : Int) (hq0 : IOk q.a0 q0 1000000) (hq1 : IOk q.a1 q1 1000000) (hq2 : IOk q.a2 q2 1000000) (hq3 : IOk q.a3 q3 1000000) (hq4 : IOk q.a4 q4 1000000) (hq5 : IOk q.a5 q5 1000000) (hq6 : IOk q.a6 q6 1000000) (hq7 : IOk q.a7 q7 1000000) (hq8 : IOk q.a8 q8 1000000) (hv0 : validI p.a0 = true) (hv1 : validI p.a1 = true) (hv2 : validI p.a2 = true) (hv3 : validI p.a3 = true) (hv4 : validI p.a4 = true) (hv5 : validI p.a5 = true) (hv6 : validI p.a6 = true) (hv7 : validI p.a7 = true) (hv8 : validI p.a8 = true) (hs0 : sameI p.a0 q.a0 = true) (hs1 : sameI p.a1 q.a1 = true) (hs2 : sameI p.a2 q.a2 = true) (hs3 : sameI p.a3 q.a3 = true) (hs4 : sameI p.a4 q.a4 = true) (hs5 : sameI p.a5 q.a5 = true) (hs6 : sameI p.a6 q.a6 = true) (hs7 : sameI p.a7 q.a7 = true) (hs8 : sameI p.a8 q.a8 = true) : Takes Tryz.prog 15 [(encA31 p), (encA31 q)] (.val (.bool (true))) := by
  refine fn_intro Tryz.func15 rfl cb15 rfl ?_
  show PWp _ _ _ _ ⟨[(0, (.d (encA31 p))), (1, (.d (encA31 q)))], []⟩
  refine pwp_seq <| pwp_S (S' := [(2, (.ref 0 0)), (3, (.ref 1 0))]) (B' := [(0, some (bx (encA31 p))), (1, some (bx (encA31 q)))]) ?_ ?_
  · exact sN (n_bx (d := (encA31 p)) (cs := (bx (encA31 p))) 0 rfl rfl rfl rfl) rfl rfl rfl rfl <| sN (n_bx (d := (encA31 q)) (cs := (bx (encA31 q))) 1 rfl rfl rfl rfl) rfl rfl rfl rfl <| sM (vb false) rfl rfl <| sNil rfl rfl
  refine pwp_seq <| pwp_seq <| pwp_S (S' := [(2, (.ref 0 0)), (3, (.ref 1 0)), (6, (vin 0))]) (B' := [(0, some (bx (encA31 p))), (1, some (bx (encA31 q)))]) ?_ ?_
  · exact sM (vin 0) rfl rfl <| sNil rfl rfl
  refine pwp_block <| pwp_rounds 20 ?_
  refine pwp_round <| pwp_seq <| pwp_S (S' := [(2, (.ref 0 0)), (3, (.ref 1 0)), (6, (vin 0)), (7, (vb true))]) (B' := [(0, some (bx (encA31 p))), (1, some (bx (encA31 q)))]) ?_ ?_
  · exact sE' (e_bk (c := true) (e_lss rfl rfl rfl) (by decide)) rfl <| sNil rfl rfl
  refine pwp_seq <| pwp_cond (b := true) rfl (fun _ => ?_) (fun h => by cases h)
  refine pwp_skip <| pwp_seq <| pwp_block <| pwp_seq <| pwp_S (S' := [(2, (.ref 0 0)), (3, (.ref 1 0)), (5, (vin 0)), (6, (vin 0))]) (B' := [(0, some (bx (encA31 p))), (1, some (bx (encA31 q)))]) ?_ ?_
  · exact sM (vin 0) rfl rfl <| sM (vin 0) rfl rfl <| sNil rfl rfl
  refine pwp_seq <| pwp_D (S' := [(2, (.ref 0 0)), (3, (.ref 1 0)), (6, (vin 0)), (23, (vb false))]) (B' := [(0, some (bx (encA31 p))), (1, some (bx (encA31 q)))]) mo (by kernel_rfl) ?_ ?_
  · exact dM (vin 0) rfl rfl rfl <| dE' (e_ixar (j := 0) (q := 0) rfl ar32 rfl rfl rfl (by decide) rfl) rfl rfl <| dR (e_lda (cs := (bx (encA31 p))) (y := (.d (encI p.a0))) rfl rfl sh30 rfl rfl) rfl rfl rfl rfl rfl <| dE' (e_bk (c := true) (e_cl (r_valid p.a0 (Nat.le_trans hp0.l (by decide))) rfl rfl rfl) hv0) rfl rfl <| dE' (e_not (b := true) rfl rfl) rfl rfl <| dM (vb false) rfl rfl rfl <| dM (vin 0) rfl rfl rfl <| dE' (e_ixar (j := 0) (q := 0) rfl ar32 rfl rfl rfl (by decide) rfl) rfl rfl <| dR (e_lda (cs := (bx (encA31 p))) (y := (.d (encI p.a0))) rfl rfl sh30 rfl rfl) rfl rfl rfl rfl rfl <| dM (vin 0) rfl rfl rfl <| dE' (e_ixar (j := 0) (q := 0) rfl ar32 rfl rfl rfl (by decide) rfl) rfl rfl <| dR (e_lda (cs := (bx (encA31 q))) (y := (.d (encI q.a0))) rfl rfl sh30 rfl rfl) rfl rfl rfl rfl rfl <| dE' (e_bk (c := true) (e_cl (r_same p.a0 q.a0 (Nat.le_trans hp0.l (by decide)) (Nat.le_trans hq0.l (by decide))) rfl rfl rfl) hs0) rfl rfl <| dE' (e_not (b := true) rfl rfl) rfl rfl <| dE' (e_pkf (z := (vb false)) rfl rfl rfl) rfl rfl <| dNil rfl rfl (by kernel_rfl)
  refine pwp_cond (b := false) rfl (fun h => by cases h) (fun _ => ?_)
  refine pwp_skip <| pwp_S (S' := [(2, (.ref 0 0)), (3, (.ref 1 0)), (6, (vin 1))]) (B' := [(0, some (bx (encA31 p))), (1, some (bx (encA31 q)))]) ?_ ?_
  · exact sE' (e_add (r := ((1 : Nat) : Int)) rfl rfl rfl (by decide)) rfl <| sM (vin 1) rfl rfl <| sNil rfl rfl
  refine pwp_again (st := ⟨[(2, (.ref 0 0)), (3, (.ref 1 0)), (6, (vin 1))], [(0, some (bx (encA31 p))), (1, some (bx (encA31 q)))]⟩) (weak rfl rfl) ?_
  refine pwp_seq <| pwp_S (S' := [(2, (.ref 0 0)), (3, (.ref 1 0)), (6, (vin 1)), (7, (vb true))]) (B' := [(0, some (bx (encA31 p))), (1, some (bx (encA31 q)))]) ?_ ?_
  · exact sE' (e_bk (c := true) (e_lss rfl rfl rfl) (by decide)) rfl <| sNil rfl rfl
  refine pwp_seq <| pwp_cond (b := true) rfl (fun _ => ?_) (fun h => by cases h)
  refine pwp_skip <| pwp_seq <| pwp_block <| pwp_seq <| pwp_S (S' := [(2, (.ref 0 0)), (3, (.ref 1 0)), (5, (vin 1)), (6, (vin 1))]) (B' := [(0, some (bx (encA31 p))), (1, some (bx (encA31 q)))]) ?_ ?_
  · exact sM (vin 1) rfl rfl <| sM (vin 1) rfl rfl <| sNil rfl rfl
  refine pwp_seq <| pwp_D (S' := [(2, (.ref 0 0)), (3, (.ref 1 0)), (6, (vin 1)), (23, (vb false))]) (B' := [(0, some (bx (encA31 p))), (1, some (bx (encA31 q)))]) mo (by kernel_rfl) ?_ ?_
  · exact dM (vin 1) rfl rfl rfl <| dE' (e_ixar (j := 1) (q := 2) rfl ar32 rfl rfl rfl (by decide) rfl) rfl rfl <| dR (e_lda (cs := (bx (encA31 p))) (y := (.d (encI p.a1))) rfl rfl sh30 rfl rfl) rfl rfl rfl rfl rfl <| dE' (e_bk (c := true) (e_cl (r_valid p.a1 (Nat.le_trans hp1.l (by decide))) rfl rfl rfl) hv1) rfl rfl <| dE' (e_not (b := true) rfl rfl) rfl rfl <| dM (vb false) rfl rfl rfl <| dM (vin 1) rfl rfl rfl <| dE' (e_ixar (j := 1) (q := 2) rfl ar32 rfl rfl rfl (by decide) rfl) rfl rfl <| dR (e_lda (cs := (bx (encA31 p))) (y := (.d (encI p.a1))) rfl rfl sh30 rfl rfl) rfl rfl rfl rfl rfl <| dM (vin 1) rfl rfl rfl <| dE' (e_ixar (j := 1) (q := 2) rfl ar32 rfl rfl rfl (by decide) rfl) rfl rfl <| dR (e_lda (cs := (bx (encA31 q))) (y := (.d (encI q.a1))) rfl rfl sh30 rfl rfl) rfl rfl rfl rfl rfl <| dE' (e_bk (c := true) (e_cl (r_same p.a1 q.a1 (Nat.le_trans hp1.l (by decide)) (Nat.le_trans hq1.l (by decide))) rfl rfl rfl) hs1) rfl rfl <| dE' (e_not (b := true) rfl rfl) rfl rfl <| dE' (e_pkf (z := (vb false)) rfl rfl rfl) rfl rfl <| dNil rfl rfl (by kernel_rfl)
  refine pwp_cond (b := false) rfl (fun h => by cases h) (fun _ => ?_)
  refine pwp_skip <| pwp_S (S' := [(2, (.ref 0 0)), (3, (.ref 1 0)), (6, (vin 2))]) (B' := [(0, some (bx (encA31 p))), (1, some (bx (encA31 q)))]) ?_ ?_
  · exact sE' (e_add (r := ((2 : Nat) : Int)) rfl rfl rfl (by decide)) rfl <| sM (vin 2) rfl rfl <| sNil rfl rfl
  refine pwp_again (st := ⟨[(2, (.ref 0 0)), (3, (.ref 1 0)), (6, (vin 2))], [(0, some (bx (encA31 p))), (1, some (bx (encA31 q)))]⟩) (weak rfl rfl) ?_
  refine pwp_seq <| pwp_S (S' := [(2, (.ref 0 0)), (3, (.ref 1 0)), (6, (vin 2)), (7, (vb true))]) (B' := [(0, some (bx (encA31 p))), (1, some (bx (encA31 q)))]) ?_ ?_
  · exact sE' (e_bk (c := true) (e_lss rfl rfl rfl) (by decide)) rfl <| sNil rfl rfl
  refine pwp_seq <| pwp_cond (b := true) rfl (fun _ => ?_) (fun h => by cases h)
  refine pwp_skip <| pwp_seq <| pwp_block <| pwp_seq <| pwp_S (S' := [(2, (.ref 0 0)), (3, (.ref 1 0)), (5, (vin 2)), (6, (vin 2))]) (B' := [(0, some (bx (encA31 p))), (1, some (bx (encA31 q)))]) ?_ ?_
  · exact sM (vin 2) rfl rfl <| sM (vin 2) rfl rfl <| sNil rfl rfl
  refine pwp_seq <| pwp_D (S' := [(2, (.ref 0 0)), (3, (.ref 1 0)), (6, (vin 2)), (23, (vb false))]) (B' := [(0, some (bx (encA31 p))), (1, some (bx (encA31 q)))]) mo (by kernel_rfl) ?_ ?_
  · exact dM (vin 2) rfl rfl rfl <| dE' (e_ixar (j := 2) (q := 4) rfl ar32 rfl rfl rfl (by decide) rfl) rfl rfl <| dR (e_lda (cs := (bx (encA31 p))) (y := (.d (encI p.a2))) rfl rfl sh30 rfl rfl) rfl rfl rfl rfl rfl <| dE' (e_bk (c := true) (e_cl (r_valid p.a2 (Nat.le_trans hp2.l (by decide))) rfl rfl rfl) hv2) rfl rfl <| dE' (e_not (b := true) rfl rfl) rfl rfl <| dM (vb false) rfl rfl rfl <| dM (vin 2) rfl rfl rfl <| dE' (e_ixar (j := 2) (q := 4) rfl ar32 rfl rfl rfl (by decide) rfl) rfl rfl <| dR (e_lda (cs := (bx (encA31 p))) (y := (.d (encI p.a2))) rfl rfl sh30 rfl rfl) rfl rfl rfl rfl rfl <| dM (vin 2) rfl rfl rfl <| dE' (e_ixar (j := 2) (q := 4) rfl ar32 rfl rfl rfl (by decide) rfl) rfl rfl <| dR (e_lda (cs := (bx (encA31 q))) (y := (.d (encI q.a2))) rfl rfl sh30 rfl rfl) rfl rfl rfl rfl rfl <| dE' (e_bk (c := true) (e_cl (r_same p.a2 q.a2 (Nat.le_trans hp2.l (by decide)) (Nat.le_trans hq2.l (by decide))) rfl rfl rfl) hs2) rfl rfl <| dE' (e_not (b := true) rfl rfl) rfl rfl <| dE' (e_pkf (z := (vb false)) rfl rfl rfl) rfl rfl <| dNil rfl rfl (by kernel_rfl)
  refine pwp_cond (b := false) rfl (fun h => by cases h) (fun _ => ?_)
  refine pwp_skip <| pwp_S (S' := [(2, (.ref 0 0)), (3, (.ref 1 0)), (6, (vin 3))]) (B' := [(0, some (bx (encA31 p))), (1, some (bx (encA31 q)))]) ?_ ?_
  · exact sE' (e_add (r := ((3 : Nat) : Int)) rfl rfl rfl (by decide)) rfl <| sM (vin 3) rfl rfl <| sNil rfl rfl
  refine pwp_again (st := ⟨[(2, (.ref 0 0)), (3, (.ref 1 0)), (6, (vin 3))], [(0, some (bx (encA31 p))), (1, some (bx (encA31 q)))]⟩) (weak rfl rfl) ?_
  refine pwp_seq <| pwp_S (S' := [(2, (.ref 0 0)), (3, (.ref 1 0)), (6, (vin 3)), (7, (vb true))]) (B' := [(0, some (bx (encA31 p))), (1, some (bx (encA31 q)))]) ?_ ?_
  · exact sE' (e_bk (c := true) (e_lss rfl rfl rfl) (by decide)) rfl <| sNil rfl rfl
  refine pwp_seq <| pwp_cond (b := true) rfl (fun _ => ?_) (fun h => by cases h)
  refine pwp_skip <| pwp_seq <| pwp_block <| pwp_seq <| pwp_S (S' := [(2, (.ref 0 0)), (3, (.ref 1 0)), (5, (vin 3)), (6, (vin 3))]) (B' := [(0, some (bx (encA31 p))), (1, some (bx (encA31 q)))]) ?_ ?_
  · exact sM (vin 3) rfl rfl <| sM (vin 3) rfl rfl <| sNil rfl rfl
  refine pwp_seq <| pwp_D (S' := [(2, (.ref 0 0)), (3, (.ref 1 0)), (6, (vin 3)), (23, (vb false))]) (B' := [(0, some (bx (encA31 p))), (1, some (bx (encA31 q)))]) mo (by kernel_rfl) ?_ ?_
  · exact dM (vin 3) rfl rfl rfl <| dE' (e_ixar (j := 3) (q := 6) rfl ar32 rfl rfl rfl (by decide) rfl) rfl rfl <| dR (e_lda (cs := (bx (encA31 p))) (y := (.d (encI p.a3))) rfl rfl sh30 rfl rfl) rfl rfl rfl rfl rfl <| dE' (e_bk (c := true) (e_cl (r_valid p.a3 (Nat.le_trans hp3.l (by decide))) rfl rfl rfl) hv3) rfl rfl <| dE' (e_not (b := true) rfl rfl) rfl rfl <| dM (vb false) rfl rfl rfl <| dM (vin 3) rfl rfl rfl <| dE' (e_ixar (j := 3) (q := 6) rfl ar32 rfl rfl rfl (by decide) rfl) rfl rfl <| dR (e_lda (cs := (bx (encA31 p))) (y := (.d (encI p.a3))) rfl rfl sh30 rfl rfl) rfl rfl rfl rfl rfl <| dM (vin 3) rfl rfl rfl <| dE' (e_ixar (j := 3) (q := 6) rfl ar32 rfl rfl rfl (by decide) rfl) rfl rfl <| dR (e_lda (cs := (bx (encA31 q))) (y := (.d (encI q.a3))) rfl rfl sh30 rfl rfl) rfl rfl rfl rfl rfl <| dE' (e_bk (c := true) (e_cl (r_same p.a3 q.a3 (Nat.le_trans hp3.l (by decide)) (Nat.le_trans hq3.l (by decide))) rfl rfl rfl) hs3) rfl rfl <| dE' (e_not (b := true) rfl rfl) rfl rfl <| dE' (e_pkf (z := (vb false)) rfl rfl rfl) rfl rfl <| dNil rfl rfl (by kernel_rfl)
  refine pwp_cond (b := false) rfl (fun h => by cases h) (fun _ => ?_)
  refine pwp_skip <| pwp_S (S' := [(2, (.ref 0 0)), (3, (.ref 1 0)), (6, (vin 4))]) (B' := [(0, some (bx (encA31 p))), (1, some (bx (encA31 q)))]) ?_ ?_
  · exact sE' (e_add (r := ((4 : Nat) : Int)) rfl rfl rfl (by decide)) rfl <| sM (vin 4) rfl rfl <| sNil rfl rfl
  refine pwp_again (st := ⟨[(2, (.ref 0 0)), (3, (.ref 1 0)), (6, (vin 4))], [(0, some (bx (encA31 p))), (1, some (bx (encA31 q)))]⟩) (weak rfl rfl) ?_
  refine pwp_seq <| pwp_S (S' := [(2, (.ref 0 0)), (3, (.ref 1 0)), (6, (vin 4)), (7, (vb true))]) (B' := [(0, some (bx (encA31 p))), (1, some (bx (encA31 q)))]) ?_ ?_
  · exact sE' (e_bk (c := true) (e_lss rfl rfl rfl) (by decide)) rfl <| sNil rfl rfl
  refine pwp_seq <| pwp_cond (b := true) rfl (fun _ => ?_) (fun h => by cases h)
  refine pwp_skip <| pwp_seq <| pwp_block <| pwp_seq <| pwp_S (S' := [(2, (.ref 0 0)), (3, (.ref 1 0)), (5, (vin 4)), (6, (vin 4))]) (B' := [(0, some (bx (encA31 p))), (1, some (bx (encA31 q)))]) ?_ ?_
  · exact sM (vin 4) rfl rfl <| sM (vin 4) rfl rfl <| sNil rfl rfl
  refine pwp_seq <| pwp_D (S' := [(2, (.ref 0 0)), (3, (.ref 1 0)), (6, (vin 4)), (23, (vb false))]) (B' := [(0, some (bx (encA31 p))), (1, some (bx (encA31 q)))]) mo (by kernel_rfl) ?_ ?_
  · exact dM (vin 4) rfl rfl rfl <| dE' (e_ixar (j := 4) (q := 8) rfl ar32 rfl rfl rfl (by decide) rfl) rfl rfl <| dR (e_lda (cs := (bx (encA31 p))) (y := (.d (encI p.a4))) rfl rfl sh30 rfl rfl) rfl rfl rfl rfl rfl <| dE' (e_bk (c := true) (e_cl (r_valid p.a4 (Nat.le_trans hp4.l (by decide))) rfl rfl rfl) hv4) rfl rfl <| dE' (e_not (b := true) rfl rfl) rfl rfl <| dM (vb false) rfl rfl rfl <| dM (vin 4) rfl rfl rfl <| dE' (e_ixar (j := 4) (q := 8) rfl ar32 rfl rfl rfl (by decide) rfl) rfl rfl <| dR (e_lda (cs := (bx (encA31 p))) (y := (.d (encI p.a4))) rfl rfl sh30 rfl rfl) rfl rfl rfl rfl rfl <| dM (vin 4) rfl rfl rfl <| dE' (e_ixar (j := 4) (q := 8) rfl ar32 rfl rfl rfl (by decide) rfl) rfl rfl <| dR (e_lda (cs := (bx (encA31 q))) (y := (.d (encI q.a4))) rfl rfl sh30 rfl rfl) rfl rfl rfl rfl rfl <| dE' (e_bk (c := true) (e_cl (r_same p.a4 q.a4 (Nat.le_trans hp4.l (by decide)) (Nat.le_trans hq4.l (by decide))) rfl rfl rfl) hs4) rfl rfl <| dE' (e_not (b := true) rfl rfl) rfl rfl <| dE' (e_pkf (z := (vb false)) rfl rfl rfl) rfl rfl <| dNil rfl rfl (by kernel_rfl)
  refine pwp_cond (b := false) rfl (fun h => by cases h) (fun _ => ?_)
  refine pwp_skip <| pwp_S (S' := [(2, (.ref 0 0)), (3, (.ref 1 0)), (6, (vin 5))]) (B' := [(0, some (bx (encA31 p))), (1, some (bx (encA31 q)))]) ?_ ?_
  · exact sE' (e_add (r := ((5 : Nat) : Int)) rfl rfl rfl (by decide)) rfl <| sM (vin 5) rfl rfl <| sNil rfl rfl
  refine pwp_again (st := ⟨[(2, (.ref 0 0)), (3, (.ref 1 0)), (6, (vin 5))], [(0, some (bx (encA31 p))), (1, some (bx (encA31 q)))]⟩) (weak rfl rfl) ?_
  refine pwp_seq <| pwp_S (S' := [(2, (.ref 0 0)), (3, (.ref 1 0)), (6, (vin 5)), (7, (vb true))]) (B' := [(0, some (bx (encA31 p))), (1, some (bx (encA31 q)))]) ?_ ?_
  · exact sE' (e_bk (c := true) (e_lss rfl rfl rfl) (by decide)) rfl <| sNil rfl rfl
  refine pwp_seq <| pwp_cond (b := true) rfl (fun _ => ?_) (fun h => by cases h)
  refine pwp_skip <| pwp_seq <| pwp_block <| pwp_seq <| pwp_S (S' := [(2, (.ref 0 0)), (3, (.ref 1 0)), (5, (vin 5)), (6, (vin 5))]) (B' := [(0, some (bx (encA31 p))), (1, some (bx (encA31 q)))]) ?_ ?_
  · exact sM (vin 5) rfl rfl <| sM (vin 5) rfl rfl <| sNil rfl rfl
  refine pwp_seq <| pwp_D (S' := [(2, (.ref 0 0)), (3, (.ref 1 0)), (6, (vin 5)), (23, (vb false))]) (B' := [(0, some (bx (encA31 p))), (1, some (bx (encA31 q)))]) mo (by kernel_rfl) ?_ ?_
  · exact dM (vin 5) rfl rfl rfl <| dE' (e_ixar (j := 5) (q := 10) rfl ar32 rfl rfl rfl (by decide) rfl) rfl rfl <| dR (e_lda (cs := (bx (encA31 p))) (y := (.d (encI p.a5))) rfl rfl sh30 rfl rfl) rfl rfl rfl rfl rfl <| dE' (e_bk (c := true) (e_cl (r_valid p.a5 (Nat.le_trans hp5.l (by decide))) rfl rfl rfl) hv5) rfl rfl <| dE' (e_not (b := true) rfl rfl) rfl rfl <| dM (vb false) rfl rfl rfl <| dM (vin 5) rfl rfl rfl <| dE' (e_ixar (j := 5) (q := 10) rfl ar32 rfl rfl rfl (by decide) rfl) rfl rfl <| dR (e_lda (cs := (bx (encA31 p))) (y := (.d (encI p.a5))) rfl rfl sh30 rfl rfl) rfl rfl rfl rfl rfl <| dM (vin 5) rfl rfl rfl <| dE' (e_ixar (j := 5) (q := 10) rfl ar32 rfl rfl rfl (by decide) rfl) rfl rfl <| dR (e_lda (cs := (bx (encA31 q))) (y := (.d (encI q.a5))) rfl rfl sh30 rfl rfl) rfl rfl rfl rfl rfl <| dE' (e_bk (c := true) (e_cl (r_same p.a5 q.a5 (Nat.le_trans hp5.l (by decide)) (Nat.le_trans hq5.l (by decide))) rfl rfl rfl) hs5) rfl rfl <| dE' (e_not (b := true) rfl rfl) rfl rfl <| dE' (e_pkf (z := (vb false)) rfl rfl rfl) rfl rfl <| dNil rfl rfl (by kernel_rfl)
  refine pwp_cond (b := false) rfl (fun h => by cases h) (fun _ => ?_)
  refine pwp_skip <| pwp_S (S' := [(2, (.ref 0 0)), (3, (.ref 1 0)), (6, (vin 6))]) (B' := [(0, some (bx (encA31 p))), (1, some (bx (encA31 q)))]) ?_ ?_
  · exact sE' (e_add (r := ((6 : Nat) : Int)) rfl rfl rfl (by decide)) rfl <| sM (vin 6) rfl rfl <| sNil rfl rfl
  refine pwp_again (st := ⟨[(2, (.ref 0 0)), (3, (.ref 1 0)), (6, (vin 6))], [(0, some (bx (encA31 p))), (1, some (bx (encA31 q)))]⟩) (weak rfl rfl) ?_
  refine pwp_seq <| pwp_S (S' := [(2, (.ref 0 0)), (3, (.ref 1 0)), (6, (vin 6)), (7, (vb true))]) (B' := [(0, some (bx (encA31 p))), (1, some (bx (encA31 q)))]) ?_ ?_
  · exact sE' (e_bk (c := true) (e_lss rfl rfl rfl) (by decide)) rfl <| sNil rfl rfl
  refine pwp_seq <| pwp_cond (b := true) rfl (fun _ => ?_) (fun h => by cases h)
  refine pwp_skip <| pwp_seq <| pwp_block <| pwp_seq <| pwp_S (S' := [(2, (.ref 0 0)), (3, (.ref 1 0)), (5, (vin 6)), (6, (vin 6))]) (B' := [(0, some (bx (encA31 p))), (1, some (bx (encA31 q)))]) ?_ ?_
  · exact sM (vin 6) rfl rfl <| sM (vin 6) rfl rfl <| sNil rfl rfl
  refine pwp_seq <| pwp_D (S' := [(2, (.ref 0 0)), (3, (.ref 1 0)), (6, (vin 6)), (23, (vb false))]) (B' := [(0, some (bx (encA31 p))), (1, some (bx (encA31 q)))]) mo (by kernel_rfl) ?_ ?_
  · exact dM (vin 6) rfl rfl rfl <| dE' (e_ixar (j := 6) (q := 12) rfl ar32 rfl rfl rfl (by decide) rfl) rfl rfl <| dR (e_lda (cs := (bx (encA31 p))) (y := (.d (encI p.a6))) rfl rfl sh30 rfl rfl) rfl rfl rfl rfl rfl <| dE' (e_bk (c := true) (e_cl (r_valid p.a6 (Nat.le_trans hp6.l (by decide))) rfl rfl rfl) hv6) rfl rfl <| dE' (e_not (b := true) rfl rfl) rfl rfl <| dM (vb false) rfl rfl rfl <| dM (vin 6) rfl rfl rfl <| dE' (e_ixar (j := 6) (q := 12) rfl ar32 rfl rfl rfl (by decide) rfl) rfl rfl <| dR (e_lda (cs := (bx (encA31 p))) (y := (.d (encI p.a6))) rfl rfl sh30 rfl rfl) rfl rfl rfl rfl rfl <| dM (vin 6) rfl rfl rfl <| dE' (e_ixar (j := 6) (q := 12) rfl ar32 rfl rfl rfl (by decide) rfl) rfl rfl <| dR (e_lda (cs := (bx (encA31 q))) (y := (.d (encI q.a6))) rfl rfl sh30 rfl rfl) rfl rfl rfl rfl rfl <| dE' (e_bk (c := true) (e_cl (r_same p.a6 q.a6 (Nat.le_trans hp6.l (by decide)) (Nat.le_trans hq6.l (by decide))) rfl rfl rfl) hs6) rfl rfl <| dE' (e_not (b := true) rfl rfl) rfl rfl <| dE' (e_pkf (z := (vb false)) rfl rfl rfl) rfl rfl <| dNil rfl rfl (by kernel_rfl)
  refine pwp_cond (b := false) rfl (fun h => by cases h) (fun _ => ?_)
  refine pwp_skip <| pwp_S (S' := [(2, (.ref 0 0)), (3, (.ref 1 0)), (6, (vin 7))]) (B' := [(0, some (bx (encA31 p))), (1, some (bx (encA31 q)))]) ?_ ?_
  · exact sE' (e_add (r := ((7 : Nat) : Int)) rfl rfl rfl (by decide)) rfl <| sM (vin 7) rfl rfl <| sNil rfl rfl
  refine pwp_again (st := ⟨[(2, (.ref 0 0)), (3, (.ref 1 0)), (6, (vin 7))], [(0, some (bx (encA31 p))), (1, some (bx (encA31 q)))]⟩) (weak rfl rfl) ?_
  refine pwp_seq <| pwp_S (S' := [(2, (.ref 0 0)), (3, (.ref 1 0)), (6, (vin 7)), (7, (vb true))]) (B' := [(0, some (bx (encA31 p))), (1, some (bx (encA31 q)))]) ?_ ?_
  · exact sE' (e_bk (c := true) (e_lss rfl rfl rfl) (by decide)) rfl <| sNil rfl rfl
  refine pwp_seq <| pwp_cond (b := true) rfl (fun _ => ?_) (fun h => by cases h)
  refine pwp_skip <| pwp_seq <| pwp_block <| pwp_seq <| pwp_S (S' := [(2, (.ref 0 0)), (3, (.ref 1 0)), (5, (vin 7)), (6, (vin 7))]) (B' := [(0, some (bx (encA31 p))), (1, some (bx (encA31 q)))]) ?_ ?_
  · exact sM (vin 7) rfl rfl <| sM (vin 7) rfl rfl <| sNil rfl rfl
  refine pwp_seq <| pwp_D (S' := [(2, (.ref 0 0)), (3, (.ref 1 0)), (6, (vin 7)), (23, (vb false))]) (B' := [(0, some (bx (encA31 p))), (1, some (bx (encA31 q)))]) mo (by kernel_rfl) ?_ ?_
  · exact dM (vin 7) rfl rfl rfl <| dE' (e_ixar (j := 7) (q := 14) rfl ar32 rfl rfl rfl (by decide) rfl) rfl rfl <| dR (e_lda (cs := (bx (encA31 p))) (y := (.d (encI p.a7))) rfl rfl sh30 rfl rfl) rfl rfl rfl rfl rfl <| dE' (e_bk (c := true) (e_cl (r_valid p.a7 (Nat.le_trans hp7.l (by decide))) rfl rfl rfl) hv7) rfl rfl <| dE' (e_not (b := true) rfl rfl) rfl rfl <| dM (vb false) rfl rfl rfl <| dM (vin 7) rfl rfl rfl <| dE' (e_ixar (j := 7) (q := 14) rfl ar32 rfl rfl rfl (by decide) rfl) rfl rfl <| dR (e_lda (cs := (bx (encA31 p))) (y := (.d (encI p.a7))) rfl rfl sh30 rfl rfl) rfl rfl rfl rfl rfl <| dM (vin 7) rfl rfl rfl <| dE' (e_ixar (j := 7) (q := 14) rfl ar32 rfl rfl rfl (by decide) rfl) rfl rfl <| dR (e_lda (cs := (bx (encA31 q))) (y := (.d (encI q.a7))) rfl rfl sh30 rfl rfl) rfl rfl rfl rfl rfl <| dE' (e_bk (c := true) (e_cl (r_same p.a7 q.a7 (Nat.le_trans hp7.l (by decide)) (Nat.le_trans hq7.l (by decide))) rfl rfl rfl) hs7) rfl rfl <| dE' (e_not (b := true) rfl rfl) rfl rfl <| dE' (e_pkf (z := (vb false)) rfl rfl rfl) rfl rfl <| dNil rfl rfl (by kernel_rfl)
  refine pwp_cond (b := false) rfl (fun h => by cases h) (fun _ => ?_)
  refine pwp_skip <| pwp_S (S' := [(2, (.ref 0 0)), (3, (.ref 1 0)), (6, (vin 8))]) (B' := [(0, some (bx (encA31 p))), (1, some (bx (encA31 q)))]) ?_ ?_
  · exact sE' (e_add (r := ((8 : Nat) : Int)) rfl rfl rfl (by decide)) rfl <| sM (vin 8) rfl rfl <| sNil rfl rfl
  refine pwp_again (st := ⟨[(2, (.ref 0 0)), (3, (.ref 1 0)), (6, (vin 8))], [(0, some (bx (encA31 p))), (1, some (bx (encA31 q)))]⟩) (weak rfl rfl) ?_
  refine pwp_seq <| pwp_S (S' := [(2, (.ref 0 0)), (3, (.ref 1 0)), (6, (vin 8)), (7, (vb true))]) (B' := [(0, some (bx (encA31 p))), (1, some (bx (encA31 q)))]) ?_ ?_
  · exact sE' (e_bk (c := true) (e_lss rfl rfl rfl) (by decide)) rfl <| sNil rfl rfl
  refine pwp_seq <| pwp_cond (b := true) rfl (fun _ => ?_) (fun h => by cases h)
  refine pwp_skip <| pwp_seq <| pwp_block <| pwp_seq <| pwp_S (S' := [(2, (.ref 0 0)), (3, (.ref 1 0)), (5, (vin 8)), (6, (vin 8))]) (B' := [(0, some (bx (encA31 p))), (1, some (bx (encA31 q)))]) ?_ ?_
  · exact sM (vin 8) rfl rfl <| sM (vin 8) rfl rfl <| sNil rfl rfl
  refine pwp_seq <| pwp_D (S' := [(2, (.ref 0 0)), (3, (.ref 1 0)), (6, (vin 8)), (23, (vb false))]) (B' := [(0, some (bx (encA31 p))), (1, some (bx (encA31 q)))]) mo (by kernel_rfl) ?_ ?_
  · exact dM (vin 8) rfl rfl rfl <| dE' (e_ixar (j := 8) (q := 16) rfl ar32 rfl rfl rfl (by decide) rfl) rfl rfl <| dR (e_lda (cs := (bx (encA31 p))) (y := (.d (encI p.a8))) rfl rfl sh30 rfl rfl) rfl rfl rfl rfl rfl <| dE' (e_bk (c := true) (e_cl (r_valid p.a8 (Nat.le_trans hp8.l (by decide))) rfl rfl rfl) hv8) rfl rfl <| dE' (e_not (b := true) rfl rfl) rfl rfl <| dM (vb false) rfl rfl rfl <| dM (vin 8) rfl rfl rfl <| dE' (e_ixar (j := 8) (q := 16) rfl ar32 rfl rfl rfl (by decide) rfl) rfl rfl <| dR (e_lda (cs := (bx (encA31 p))) (y := (.d (encI p.a8))) rfl rfl sh30 rfl rfl) rfl rfl rfl rfl rfl <| dM (vin 8) rfl rfl rfl <| dE' (e_ixar (j := 8) (q := 16) rfl ar32 rfl rfl rfl (by decide) rfl) rfl rfl <| dR (e_lda (cs := (bx (encA31 q))) (y := (.d (encI q.a8))) rfl rfl sh30 rfl rfl) rfl rfl rfl rfl rfl <| dE' (e_bk (c := true) (e_cl (r_same p.a8 q.a8 (Nat.le_trans hp8.l (by decide)) (Nat.le_trans hq8.l (by decide))) rfl rfl rfl) hs8) rfl rfl <| dE' (e_not (b := true) rfl rfl) rfl rfl <| dE' (e_pkf (z := (vb false)) rfl rfl rfl) rfl rfl <| dNil rfl rfl (by kernel_rfl)
  refine pwp_cond (b := false) rfl (fun h => by cases h) (fun _ => ?_)
  refine pwp_skip <| pwp_S (S' := [(2, (.ref 0 0)), (3, (.ref 1 0)), (6, (vin 9))]) (B' := [(0, some (bx (encA31 p))), (1, some (bx (encA31 q)))]) ?_ ?_
  · exact sE' (e_add (r := ((9 : Nat) : Int)) rfl rfl rfl (by decide)) rfl <| sM (vin 9) rfl rfl <| sNil rfl rfl
  refine pwp_again (st := ⟨[(2, (.ref 0 0)), (3, (.ref 1 0)), (6, (vin 9))], [(0, some (bx (encA31 p))), (1, some (bx (encA31 q)))]⟩) (weak rfl rfl) ?_
  refine pwp_seq <| pwp_S (S' := [(2, (.ref 0 0)), (3, (.ref 1 0)), (6, (vin 9)), (7, (vb false))]) (B' := [(0, some (bx (encA31 p))), (1, some (bx (encA31 q)))]) ?_ ?_
  · exact sE' (e_bk (c := false) (e_lss rfl rfl rfl) (by decide)) rfl <| sNil rfl rfl
  refine pwp_seq <| pwp_cond (b := false) rfl (fun h => by cases h) (fun _ => ?_)
  refine pwp_exit <| pwp_seq <| pwp_S (S' := [(4, (vb true))]) (B' := []) ?_ ?_
  · exact sM (vb true) rfl rfl <| sNil rfl rfl
  refine pwp_ret ⟨_, (.tmp (d := (.val (.bool (true)))) rfl .nil), ?_⟩
  rfl
theorem l_empty (tau : Nat) (l : List RInt) (zs : List Int) (hl : LOk 1000000 l zs) (hb : l.length ≤ 1000000) (he : ∀ x ∈ l, x = RInt.mk false []) : Takes Tryz.prog 14 [(.sl tau 2 (List.map encI l))] (.val (.bool (true))) := by
  refine fn_intro Tryz.func14 rfl cb14 rfl ?_
  show PWp _ _ _ _ ⟨[(0, (vl tau 2 encI l))], []⟩
  refine pwp_seq <| pwp_S (S' := [(0, (vl tau 2 encI l))]) (B' := []) ?_ ?_
  · exact sM (vb false) rfl rfl <| sNil rfl rfl
  refine pwp_seq <| pwp_seq <| pwp_S (S' := [(5, (vl tau 2 encI l)), (6, (vin l.length)), (7, (vin 0))]) (B' := []) ?_ ?_
  · exact sM (vl tau 2 encI l) rfl rfl <| sE' (e_ln (r := ((l.length : Nat) : Int)) rfl el40 rfl (by simp)) rfl <| sM (vin 0) rfl rfl <| sNil rfl rfl
  refine pwp_block <| pwp_loop (α := Nat) (fun i => ⟨[(5, (vl tau 2 encI l)), (6, (vin l.length)), (7, (vin i))], []⟩) (fun i => i ≤ l.length) (fun i => l.length - i) 0 (weak rfl rfl) (Nat.zero_le _) ?_
  rintro i hi
  have hx := all_nil he i
  refine pwp_seq <| pwp_S (S' := [(5, (vl tau 2 encI l)), (6, (vin l.length)), (7, (vin i)), (8, (vb (decide (((i : Nat) : Int) < ((l.length : Nat) : Int)))))]) (B' := []) ?_ ?_
  · exact sE' (e_lss rfl rfl rfl) rfl <| sNil rfl rfl
  refine pwp_seq <| pwp_cond (b := decide (((i : Nat) : Int) < ((l.length : Nat) : Int))) rfl (fun h1 => ?_) (fun h1 => ?_)
  · replace h1 := of_decide_eq_true h1
    refine pwp_skip <| pwp_seq <| pwp_block <| pwp_seq <| pwp_S (S' := [(4, (.ref 0 0)), (5, (vl tau 2 encI l)), (6, (vin l.length)), (7, (vin i))]) (B' := [(0, some (bx (encI (l.getD i (RInt.mk false [])))))]) ?_ ?_
    · exact sE' (e_ixs (j := i) (cs := (Dat.cells (encI (l.getD i (RInt.mk false []))))) rfl el40 rfl rfl (by omega) (ixm _ _ _ _ (by omega))) rfl <| sE' (e_lca (cs := (Dat.cells (encI (l.getD i (RInt.mk false []))))) (y := (.d (encI (l.getD i (RInt.mk false []))))) rfl rfl sh30 rfl rfl) rfl <| sN (n_al (cs := (bx (encI (RInt.mk false [])))) 0 rfl ze30 zo30 rfl) rfl rfl rfl rfl <| sT (t_std (d := (encI (l.getD i (RInt.mk false [])))) (cs := (bx (encI (l.getD i (RInt.mk false []))))) rfl rfl rfl sh30 rfl rfl rfl rfl) rfl rfl rfl <| sNil rfl rfl
    refine pwp_seq <| pwp_S (S' := [(5, (vl tau 2 encI l)), (6, (vin l.length)), (7, (vin i)), (18, (vb ((l.getD i (RInt.mk false [])).neg || decide (0 < ((((l.getD i (RInt.mk false [])).gs).length : Nat) : Int)))))]) (B' := []) ?_ ?_
    · refine sE' (e_fldr (q := 0) rfl rfl fo30_0 rfl) rfl <| sR (e_ld1 (cs := (bx (encI (l.getD i (RInt.mk false []))))) (y := (vb ((l.getD i (RInt.mk false [])).neg))) rfl rfl sh4 rfl) rfl rfl rfl rfl <| sM (vb ((l.getD i (RInt.mk false [])).neg)) rfl rfl <| ?_
      rcases hb2 : ((l.getD i (RInt.mk false [])).neg) with _ | _
      · exact sE' (e_fldr (q := 1) rfl rfl fo30_1 rfl) rfl <| sR (e_ld1 (cs := (bx (encI (l.getD i (RInt.mk false []))))) (y := (vl 138 1 enc_u32 ((l.getD i (RInt.mk false [])).gs))) rfl rfl sh28 rfl) rfl rfl rfl rfl <| sE' (e_ln (r := ((((l.getD i (RInt.mk false [])).gs).length : Nat) : Int)) rfl el28 rfl (by simp)) rfl <| sE' (e_gtr rfl rfl rfl) rfl <| sE' (e_pkfo rfl rfl rfl) rfl <| sNil rfl rfl
      · exact sK rfl rfl rfl <| sK rfl rfl rfl <| sK rfl rfl rfl <| sK rfl rfl rfl <| sE' (e_pkt (z := (vb true)) rfl rfl rfl) rfl <| sNil rfl rfl
    refine pwp_cond (b := ((l.getD i (RInt.mk false [])).neg || decide (0 < ((((l.getD i (RInt.mk false [])).gs).length : Nat) : Int)))) rfl (fun h3 => ?_) (fun h3 => ?_)
    · exfalso; rw [hx] at h3; revert h3; decide
    · refine pwp_skip <| pwp_S (S' := [(5, (vl tau 2 encI l)), (6, (vin l.length)), (7, (vin (i + 1)))]) (B' := []) ?_ ?_
      · exact sE' (e_add (r := (((i + 1) : Nat) : Int)) rfl rfl rfl (wi64 (by omega) (by omega) (by omega))) rfl <| sM (vin (i + 1)) rfl rfl <| sNil rfl rfl
      exact ⟨(i + 1), (weak rfl rfl), (by show i + 1 ≤ l.length; omega), (by first | omega | (dsimp only; omega))⟩
  · replace h1 := of_decide_eq_false h1
    refine pwp_exit <| pwp_seq <| pwp_S (S' := [(2, (vb true))]) (B' := []) ?_ ?_
    · exact sM (vb true) rfl rfl <| sNil rfl rfl
    refine pwp_ret ⟨_, (.tmp (d := (.val (.bool (true)))) rfl .nil), ?_⟩
    rfl
theorem l_short4 (tau : Nat) (l : List RInt) (zs : List Int) (hl : LOk 140737488355328 l zs) (hb : l.length ≤ 1000000) : Takes Tryz.prog 76 [(.sl tau 2 (List.map encI l))] (.val (.bool ((List.all l short4)))) := by
  refine fn_intro Tryz.func76 rfl cb76 rfl ?_
  show PWp _ _ _ _ ⟨[(0, (vl tau 2 encI l))], []⟩
  refine pwp_seq <| pwp_S (S' := [(0, (vl tau 2 encI l))]) (B' := []) ?_ ?_
  · exact sM (vb false) rfl rfl <| sNil rfl rfl
  refine pwp_seq <| pwp_seq <| pwp_S (S' := [(5, (vl tau 2 encI l)), (6, (vin l.length)), (7, (vin 0))]) (B' := []) ?_ ?_
  · exact sM (vl tau 2 encI l) rfl rfl <| sE' (e_ln (r := ((l.length : Nat) : Int)) rfl el40 rfl (by simp)) rfl <| sM (vin 0) rfl rfl <| sNil rfl rfl
  refine pwp_block <| pwp_loop (α := Nat) (fun i => ⟨[(5, (vl tau 2 encI l)), (6, (vin l.length)), (7, (vin i))], []⟩) (fun i => i ≤ l.length ∧ (l.take i).all short4 = true) (fun i => l.length - i) 0 (weak rfl rfl) ⟨Nat.zero_le _, by simp⟩ ?_
  rintro i ⟨hi, hal⟩
  refine pwp_seq <| pwp_S (S' := [(5, (vl tau 2 encI l)), (6, (vin l.length)), (7, (vin i)), (8, (vb (decide (((i : Nat) : Int) < ((l.length : Nat) : Int)))))]) (B' := []) ?_ ?_
  · exact sE' (e_lss rfl rfl rfl) rfl <| sNil rfl rfl
  refine pwp_seq <| pwp_cond (b := decide (((i : Nat) : Int) < ((l.length : Nat) : Int))) rfl (fun h1 => ?_) (fun h1 => ?_)
  · replace h1 := of_decide_eq_true h1
    refine pwp_skip <| pwp_seq <| pwp_block <| pwp_seq <| pwp_S (S' := [(4, (.ref 0 0)), (5, (vl tau 2 encI l)), (6, (vin l.length)), (7, (vin i))]) (B' := [(0, some (bx (encI (l.getD i (RInt.mk false [])))))]) ?_ ?_
    · exact sE' (e_ixs (j := i) (cs := (Dat.cells (encI (l.getD i (RInt.mk false []))))) rfl el40 rfl rfl (by omega) (ixm _ _ _ _ (by omega))) rfl <| sE' (e_lca (cs := (Dat.cells (encI (l.getD i (RInt.mk false []))))) (y := (.d (encI (l.getD i (RInt.mk false []))))) rfl rfl sh30 rfl rfl) rfl <| sN (n_al (cs := (bx (encI (RInt.mk false [])))) 0 rfl ze30 zo30 rfl) rfl rfl rfl rfl <| sT (t_std (d := (encI (l.getD i (RInt.mk false [])))) (cs := (bx (encI (l.getD i (RInt.mk false []))))) rfl rfl rfl sh30 rfl rfl rfl rfl) rfl rfl rfl <| sNil rfl rfl
    refine pwp_seq <| pwp_S (S' := [(5, (vl tau 2 encI l)), (6, (vin l.length)), (7, (vin i)), (14, (vb (decide (4 < ((((l.getD i (RInt.mk false [])).gs).length : Nat) : Int)))))]) (B' := []) ?_ ?_
    · exact sE' (e_fldr (q := 1) rfl rfl fo30_1 rfl) rfl <| sR (e_ld1 (cs := (bx (encI (l.getD i (RInt.mk false []))))) (y := (vl 138 1 enc_u32 ((l.getD i (RInt.mk false [])).gs))) rfl rfl sh28 rfl) rfl rfl rfl rfl <| sE' (e_ln (r := ((((l.getD i (RInt.mk false [])).gs).length : Nat) : Int)) rfl el28 rfl (by simp)) rfl <| sE' (e_gtr rfl rfl rfl) rfl <| sNil rfl rfl
    refine pwp_cond (b := decide (4 < ((((l.getD i (RInt.mk false [])).gs).length : Nat) : Int))) rfl (fun h2 => ?_) (fun h2 => ?_)
    · replace h2 := of_decide_eq_true h2
      refine pwp_seq <| pwp_S (S' := [(2, (vb false))]) (B' := []) ?_ ?_
      · exact sM (vb false) rfl rfl <| sNil rfl rfl
      refine pwp_ret ⟨_, (.tmp (d := (.val (.bool (false)))) rfl .nil), ?_⟩
      rw [all_not (f := short4) (l := l) (i := i) (d := RInt.mk false []) (by omega) (short4_no h2)]; rfl
    · replace h2 := of_decide_eq_false h2
      refine pwp_skip <| pwp_S (S' := [(5, (vl tau 2 encI l)), (6, (vin l.length)), (7, (vin (i + 1)))]) (B' := []) ?_ ?_
      · exact sE' (e_add (r := (((i + 1) : Nat) : Int)) rfl rfl rfl (wi64 (by omega) (by omega) (by omega))) rfl <| sM (vin (i + 1)) rfl rfl <| sNil rfl rfl
      exact ⟨(i + 1), (weak rfl rfl), ⟨by omega, all_take (d := ⟨false, []⟩) (by omega) hal (short4_yes h2)⟩, (by first | omega | (dsimp only; omega))⟩
  · replace h1 := of_decide_eq_false h1
    have hie : i = l.length := by omega
    rw [hie, List.take_length] at hal
    refine pwp_exit <| pwp_seq <| pwp_S (S' := [(2, (vb true))]) (B' := []) ?_ ?_
    · exact sM (vb true) rfl rfl <| sNil rfl rfl
    refine pwp_ret ⟨_, (.tmp (d := (.val (.bool (true)))) rfl .nil), ?_⟩
    rw [hal]; rfl
theorem l_reduce (h : A9 RInt) (h0 h1 h2 h3 h4 h5 h6 h7 h8 : Int) (hh0 : IOk h.a0 h0 1000000) (hh1 : IOk h.a1 h1 1000000) (hh2 : IOk h.a2 h2 1000000) (hh3 : IOk h.a3 h3 1000000) (hh4 : IOk h.a4 h4 1000000) (hh5 : IOk h.a5 h5 1000000) (hh6 : IOk h.a6 h6 1000000) (hh7 : IOk h.a7 h7 1000000) (hh8 : IOk h.a8 h8 1000000) (c0 c1 c2 c3 c4 c5 c6 c7 c8 : Int) (hc : redL [h0, h1, h2, h3, h4, h5, h6, h7, h8] = [c0, c1, c2, c3, c4, c5, c6, c7, c8]) (hnz : sgnL [h0, h1, h2, h3, h4, h5, h6, h7, h8] ≠ 0) (hd : signI (det3 h0 h1 h2 h3 h4 h5 h6 h7 h8) ≠ 0) : Takes Tryz.prog 47 [(encA31 h)] (.tup [(encA31 (A9.mk (ofZ c0) (ofZ c1) (ofZ c2) (ofZ c3) (ofZ c4) (ofZ c5) (ofZ c6) (ofZ c7) (ofZ c8))), (.val (.bool (true)))]) := by
  let y3 := [(ofZ c0), (ofZ c1), (ofZ c2), (ofZ c3), (ofZ c4), (ofZ c5), (ofZ c6), (ofZ c7), (ofZ c8)]
  let y2 := (encA31 (A9.mk (ofZ c0) (ofZ c1) (ofZ c2) (ofZ c3) (ofZ c4) (ofZ c5) (ofZ c6) (ofZ c7) (ofZ c8)))
  let y1 := (bx (encA31 (A9.mk (RInt.mk false []) (RInt.mk false []) (RInt.mk false []) (RInt.mk false []) (RInt.mk false []) (RInt.mk false []) (RInt.mk false []) (RInt.mk false []) (RInt.mk false []))))
  refine fn_intro Tryz.func47 rfl cb47 rfl ?_
  show PWp _ _ _ _ ⟨[(0, (.d (encA31 h)))], []⟩
  refine pwp_seq <| pwp_S (S' := [(1, (.ref 0 0)), (2, (.ref 1 0))]) (B' := [(0, some (bx (encA31 h))), (1, some y1)]) ?_ ?_
  · exact sN (n_bx (d := (encA31 h)) (cs := (bx (encA31 h))) 0 rfl rfl rfl rfl) rfl rfl rfl rfl <| sN (n_al (cs := y1) 1 rfl ze32 zo32 rfl) rfl rfl rfl rfl <| sM (vb false) rfl rfl <| sNil rfl rfl
  refine pwp_seq ?_
  have bn1 : ∀ c ∈ [c0, c1, c2, c3, c4, c5, c6, c7, c8], IOk (ofZ c) c 1000000 := red_iok (n := 1000000) (.cons hh0 (.cons hh1 (.cons hh2 (.cons hh3 (.cons hh4 (.cons hh5 (.cons hh6 (.cons hh7 (.cons hh8 .nil))))))))) hc
  refine pwp_S (S' := [(1, (.ref 0 0)), (2, (.ref 1 0)), (4, (vl 30 2 encI y3))]) (B' := [(0, some (bx (encA31 h))), (1, some y1)]) ?_ ?_
  · exact sE' (e_slv rfl ar32 rfl rfl rfl) rfl <| sR (e_clv (cs := (bx (encA31 h))) (es := List.map encI [h.a0, h.a1, h.a2, h.a3, h.a4, h.a5, h.a6, h.a7, h.a8]) (by have h := l_red 1000000 [h.a0, h.a1, h.a2, h.a3, h.a4, h.a5, h.a6, h.a7, h.a8] [h0, h1, h2, h3, h4, h5, h6, h7, h8] (.cons hh0 (.cons hh1 (.cons hh2 (.cons hh3 (.cons hh4 (.cons hh5 (.cons hh6 (.cons hh7 (.cons hh8 .nil))))))))) (Nat.le_of_ble_eq_true rfl) hnz; rw [hc] at h; exact h) rfl rfl rfl (.v .nil) (pubs_cells _ _ (fun _ => rfl)) rfl rfl (avo_sl_30 (by decide) (by decide) _)) rfl rfl rfl rfl <| sM (vl 30 2 encI y3) rfl rfl <| sNil rfl rfl
  refine pwp_seq <| pwp_seq ?_
  have bn2 : IOk (ofZ (det3 h0 h1 h2 h3 h4 h5 h6 h7 h8)) (det3 h0 h1 h2 h3 h4 h5 h6 h7 h8) 3000003 := (iok_eqz (det3_cr _ _ _ _ _ _ _ _ _) (iok_add (k := 3000003) (iok_add (k := 3000002) (iok_mul (k := 3000001) (iok_sub (k := 2000001) (iok_mul (k := 2000000) hh1 hh5 (by decide)) (iok_mul (k := 2000000) hh2 hh4 (by decide)) (by decide)) hh6 (by decide)) (iok_mul (k := 3000001) (iok_sub (k := 2000001) (iok_mul (k := 2000000) hh2 hh3 (by decide)) (iok_mul (k := 2000000) hh0 hh5 (by decide)) (by decide)) hh7 (by decide)) (by decide)) (iok_mul (k := 3000001) (iok_sub (k := 2000001) (iok_mul (k := 2000000) hh0 hh4 (by decide)) (iok_mul (k := 2000000) hh1 hh3 (by decide)) (by decide)) hh8 (by decide)) (by decide)))
  refine pwp_D (S' := [(2, (.ref 1 0)), (4, (vl 30 2 encI y3)), (18, (vb false))]) (B' := [(1, some y1)]) mo (by kernel_rfl) ?_ ?_
  · exact dM (vl 30 2 encI y3) rfl rfl rfl <| dE' (e_nilF rfl el40 rfl (by exact Nat.succ_pos _)) rfl rfl <| dM (vb false) rfl rfl rfl <| dR (e_lda (cs := (bx (encA31 h))) (y := (.d (encA31 h))) rfl rfl sh32 rfl rfl) rfl rfl rfl rfl rfl <| dE' (e_cl (l_row0 h h0 h1 h2 h3 h4 h5 h6 h7 h8 (iu hh0) (iu hh1) (iu hh2) (iu hh3) (iu hh4) (iu hh5) (iu hh6) (iu hh7) (iu hh8)) rfl rfl rfl) rfl rfl <| dR (e_lda (cs := (bx (encA31 h))) (y := (.d (encA31 h))) rfl rfl sh32 rfl rfl) rfl rfl rfl rfl rfl <| dE' (e_cl (l_row1 h h0 h1 h2 h3 h4 h5 h6 h7 h8 (iu hh0) (iu hh1) (iu hh2) (iu hh3) (iu hh4) (iu hh5) (iu hh6) (iu hh7) (iu hh8)) rfl rfl rfl) rfl rfl <| dR (e_lda (cs := (bx (encA31 h))) (y := (.d (encA31 h))) rfl rfl sh32 rfl rfl) rfl rfl rfl rfl rfl <| dE' (e_cl (l_row2 h h0 h1 h2 h3 h4 h5 h6 h7 h8 (iu hh0) (iu hh1) (iu hh2) (iu hh3) (iu hh4) (iu hh5) (iu hh6) (iu hh7) (iu hh8)) rfl rfl rfl) rfl rfl <| dE' (e_cl (l_det (A3.mk h.a0 h.a1 h.a2) h0 h1 h2 hh0 hh1 hh2 (A3.mk h.a3 h.a4 h.a5) h3 h4 h5 hh3 hh4 hh5 (A3.mk h.a6 h.a7 h.a8) h6 h7 h8 hh6 hh7 hh8) rfl rfl rfl) rfl rfl <| dE' (e_bk (c := false) (e_cl (l_zero (ofZ (det3 h0 h1 h2 h3 h4 h5 h6 h7 h8)) (det3 h0 h1 h2 h3 h4 h5 h6 h7 h8) (iu bn2)) rfl rfl rfl) (beq_eq_false_iff_ne.2 hd)) rfl rfl <| dE' (e_pkf (z := (vb false)) rfl rfl rfl) rfl rfl <| dNil rfl rfl (by kernel_rfl)
  refine pwp_cond (b := false) rfl (fun h => by cases h) (fun _ => ?_)
  refine pwp_skip <| pwp_seq <| pwp_S (S' := [(2, (.ref 1 0)), (3, (vb true))]) (B' := [(1, some (bx y2))]) ?_ ?_
  · exact sM (vl 30 2 encI y3) rfl rfl <| sE' (e_sap (cs := (Dat.cells y2)) rfl ar32 rfl rfl rfl rfl) rfl <| sE' (e_lca (cs := (Dat.cells y2)) (y := (.d y2)) rfl rfl sh32 rfl rfl) rfl <| sT (t_std (d := y2) (cs := (bx y2)) rfl rfl rfl sh32 rfl rfl rfl rfl) rfl rfl rfl <| sM (vb true) rfl rfl <| sNil rfl rfl
  refine pwp_ret ⟨_, (res_a (cs := (bx (encA31 (A9.mk (ofZ c0) (ofZ c1) (ofZ c2) (ofZ c3) (ofZ c4) (ofZ c5) (ofZ c6) (ofZ c7) (ofZ c8))))) (d := (encA31 (A9.mk (ofZ c0) (ofZ c1) (ofZ c2) (ofZ c3) (ofZ c4) (ofZ c5) (ofZ c6) (ofZ c7) (ofZ c8)))) rfl rfl sh32 rfl rfl (.tmp (d := (.val (.bool (true)))) rfl .nil)), ?_⟩
  rfl
theorem l_made (n0 n1 n2 n3 n4 n5 n6 n7 n8 : Int) (hn0 : -1048576 ≤ n0 ∧ n0 ≤ 1048576) (hn1 : -1048576 ≤ n1 ∧ n1 ≤ 1048576) (hn2 : -1048576 ≤ n2 ∧ n2 ≤ 1048576) (hn3 : -1048576 ≤ n3 ∧ n3 ≤ 1048576) (hn4 : -1048576 ≤ n4 ∧ n4 ≤ 1048576) (hn5 : -1048576 ≤ n5 ∧ n5 ≤ 1048576) (hn6 : -1048576 ≤ n6 ∧ n6 ≤ 1048576) (hn7 : -1048576 ≤ n7 ∧ n7 ≤ 1048576) (hn8 : -1048576 ≤ n8 ∧ n8 ≤ 1048576) (c0 c1 c2 c3 c4 c5 c6 c7 c8 : Int) (hc : redL [n0, n1, n2, n3, n4, n5, n6, n7, n8] = [c0, c1, c2, c3, c4, c5, c6, c7, c8]) (hnz : sgnL [n0, n1, n2, n3, n4, n5, n6, n7, n8] ≠ 0) (hd : signI (det3 n0 n1 n2 n3 n4 n5 n6 n7 n8) ≠ 0) : Takes Tryz.prog 41 [(encA80 (A9.mk n0 n1 n2 n3 n4 n5 n6 n7 n8))] (.tup [(encA31 (A9.mk (ofZ c0) (ofZ c1) (ofZ c2) (ofZ c3) (ofZ c4) (ofZ c5) (ofZ c6) (ofZ c7) (ofZ c8))), (.val (.bool (true)))]) := by
  let y14 := (encA80 (A9.mk n0 n1 n2 n3 n4 n5 n6 n7 n8))
  let y13 := (A9.mk (ofZ n0) (ofZ n1) (ofZ n2) (ofZ n3) (ofZ n4) (ofZ n5) (ofZ n6) (ofZ n7) (ofZ n8))
  let y12 := (encA31 (A9.mk (ofZ c0) (ofZ c1) (ofZ c2) (ofZ c3) (ofZ c4) (ofZ c5) (ofZ c6) (ofZ c7) (ofZ c8)))
  let y11 := (bx (encA31 y13))
  let y10 := (bx (encA31 (A9.mk (ofZ n0) (ofZ n1) (ofZ n2) (ofZ n3) (ofZ n4) (ofZ n5) (ofZ n6) (ofZ n7) (RInt.mk false []))))
  let y9 := (bx (encA31 (A9.mk (ofZ n0) (ofZ n1) (ofZ n2) (ofZ n3) (ofZ n4) (ofZ n5) (ofZ n6) (RInt.mk false []) (RInt.mk false []))))
  let y8 := (bx (encA31 (A9.mk (ofZ n0) (ofZ n1) (ofZ n2) (ofZ n3) (ofZ n4) (ofZ n5) (RInt.mk false []) (RInt.mk false []) (RInt.mk false []))))
  let y7 := (bx (encA31 (A9.mk (ofZ n0) (ofZ n1) (ofZ n2) (ofZ n3) (ofZ n4) (RInt.mk false []) (RInt.mk false []) (RInt.mk false []) (RInt.mk false []))))
  let y6 := (bx (encA31 (A9.mk (ofZ n0) (ofZ n1) (ofZ n2) (ofZ n3) (RInt.mk false []) (RInt.mk false []) (RInt.mk false []) (RInt.mk false []) (RInt.mk false []))))
  let y5 := (bx (encA31 (A9.mk (ofZ n0) (ofZ n1) (ofZ n2) (RInt.mk false []) (RInt.mk false []) (RInt.mk false []) (RInt.mk false []) (RInt.mk false []) (RInt.mk false []))))
  let y4 := (bx (encA31 (A9.mk (ofZ n0) (ofZ n1) (RInt.mk false []) (RInt.mk false []) (RInt.mk false []) (RInt.mk false []) (RInt.mk false []) (RInt.mk false []) (RInt.mk false []))))
  let y3 := (bx (encA31 (A9.mk (ofZ n0) (RInt.mk false []) (RInt.mk false []) (RInt.mk false []) (RInt.mk false []) (RInt.mk false []) (RInt.mk false []) (RInt.mk false []) (RInt.mk false []))))
  let y2 := (encA31 (A9.mk (RInt.mk false []) (RInt.mk false []) (RInt.mk false []) (RInt.mk false []) (RInt.mk false []) (RInt.mk false []) (RInt.mk false []) (RInt.mk false []) (RInt.mk false [])))
  let y1 := (bx y2)
  refine fn_intro Tryz.func41 rfl cb41 rfl ?_
  show PWp _ _ _ _ ⟨[(0, (.d y14))], []⟩
  refine pwp_seq <| pwp_S (S' := [(1, (.ref 0 0)), (2, (.ref 1 0))]) (B' := [(0, some (bx y14)), (1, some y1)]) ?_ ?_
  · exact sN (n_bx (d := y14) (cs := (bx y14)) 0 rfl rfl rfl rfl) rfl rfl rfl rfl <| sN (n_al (cs := y1) 1 rfl ze32 zo32 rfl) rfl rfl rfl rfl <| sM (vb false) rfl rfl <| sNil rfl rfl
  refine pwp_seq <| pwp_S (S' := [(1, (.ref 0 0)), (2, (.ref 1 0)), (4, (.ref 2 0))]) (B' := [(0, some (bx y14)), (1, some y1), (2, some y1)]) ?_ ?_
  · exact sE' (e_blda (pd := []) (y := y2) rfl ar32 ze32 zo32 rfl rfl rfl rfl) rfl <| sN (n_al (cs := y1) 2 rfl ze32 zo32 rfl) rfl rfl rfl rfl <| sT (t_std (d := y2) (cs := y1) rfl rfl rfl sh32 rfl rfl rfl rfl) rfl rfl rfl <| sNil rfl rfl
  refine pwp_seq <| pwp_seq <| pwp_S (S' := [(2, (.ref 1 0)), (4, (.ref 2 0)), (8, (.d y14)), (9, (vin 0))]) (B' := [(1, some y1), (2, some y1)]) ?_ ?_
  · exact sR (e_lda (cs := (bx y14)) (y := (.d y14)) rfl rfl sh80 rfl rfl) rfl rfl rfl rfl <| sM (vin 0) rfl rfl <| sNil rfl rfl
  refine pwp_block <| pwp_rounds 20 ?_
  refine pwp_round <| pwp_seq <| pwp_S (S' := [(2, (.ref 1 0)), (4, (.ref 2 0)), (8, (.d y14)), (9, (vin 0)), (10, (vb true))]) (B' := [(1, some y1), (2, some y1)]) ?_ ?_
  · exact sE' (e_bk (c := true) (e_lss rfl rfl rfl) (by decide)) rfl <| sNil rfl rfl
  refine pwp_seq <| pwp_cond (b := true) rfl (fun _ => ?_) (fun h => by cases h)
  refine pwp_skip <| pwp_seq <| pwp_block <| pwp_seq <| pwp_S (S' := [(2, (.ref 1 0)), (4, (.ref 2 0)), (5, (vin 0)), (6, (vi n0)), (8, (.d y14)), (9, (vin 0))]) (B' := [(1, some y1), (2, some y1)]) ?_ ?_
  · exact sM (vin 0) rfl rfl <| sE' (e_ixa (j := 0) (cs := (Dat.cells y14)) (y := (vi n0)) rfl rfl ar80 sh3 (fun _ => rfl) rfl rfl rfl rfl rfl) rfl <| sM (vin 0) rfl rfl <| sM (vi n0) rfl rfl <| sNil rfl rfl
  refine pwp_S (S' := [(2, (.ref 1 0)), (4, (.ref 2 0)), (8, (.d y14)), (9, (vin 0))]) (B' := [(1, some y1), (2, some y3)]) ?_ ?_
  · exact sM (vin 0) rfl rfl <| sM (vi n0) rfl rfl <| sE' (e_cl (l_wholeI n0 (by omega) (by omega)) rfl rfl rfl) rfl <| sE' (e_ixar (j := 0) (q := 0) rfl ar32 rfl rfl rfl (by decide) rfl) rfl <| sT (t_std (d := (encI (ofZ n0))) (cs := y3) rfl rfl rfl sh30 rfl rfl rfl rfl) rfl rfl rfl <| sNil rfl rfl
  refine pwp_S (S' := [(2, (.ref 1 0)), (4, (.ref 2 0)), (8, (.d y14)), (9, (vin 1))]) (B' := [(1, some y1), (2, some y3)]) ?_ ?_
  · exact sE' (e_add (r := ((1 : Nat) : Int)) rfl rfl rfl (by decide)) rfl <| sM (vin 1) rfl rfl <| sNil rfl rfl
  refine pwp_again (st := ⟨[(2, (.ref 1 0)), (4, (.ref 2 0)), (8, (.d y14)), (9, (vin 1))], [(1, some y1), (2, some y3)]⟩) (weak rfl rfl) ?_
  refine pwp_seq <| pwp_S (S' := [(2, (.ref 1 0)), (4, (.ref 2 0)), (8, (.d y14)), (9, (vin 1)), (10, (vb true))]) (B' := [(1, some y1), (2, some y3)]) ?_ ?_
  · exact sE' (e_bk (c := true) (e_lss rfl rfl rfl) (by decide)) rfl <| sNil rfl rfl
  refine pwp_seq <| pwp_cond (b := true) rfl (fun _ => ?_) (fun h => by cases h)
  refine pwp_skip <| pwp_seq <| pwp_block <| pwp_seq <| pwp_S (S' := [(2, (.ref 1 0)), (4, (.ref 2 0)), (5, (vin 1)), (6, (vi n1)), (8, (.d y14)), (9, (vin 1))]) (B' := [(1, some y1), (2, some y3)]) ?_ ?_
  · exact sM (vin 1) rfl rfl <| sE' (e_ixa (j := 1) (cs := (Dat.cells y14)) (y := (vi n1)) rfl rfl ar80 sh3 (fun _ => rfl) rfl rfl rfl rfl rfl) rfl <| sM (vin 1) rfl rfl <| sM (vi n1) rfl rfl <| sNil rfl rfl
  refine pwp_S (S' := [(2, (.ref 1 0)), (4, (.ref 2 0)), (8, (.d y14)), (9, (vin 1))]) (B' := [(1, some y1), (2, some y4)]) ?_ ?_
  · exact sM (vin 1) rfl rfl <| sM (vi n1) rfl rfl <| sE' (e_cl (l_wholeI n1 (by omega) (by omega)) rfl rfl rfl) rfl <| sE' (e_ixar (j := 1) (q := 2) rfl ar32 rfl rfl rfl (by decide) rfl) rfl <| sT (t_std (d := (encI (ofZ n1))) (cs := y4) rfl rfl rfl sh30 rfl rfl rfl rfl) rfl rfl rfl <| sNil rfl rfl
  refine pwp_S (S' := [(2, (.ref 1 0)), (4, (.ref 2 0)), (8, (.d y14)), (9, (vin 2))]) (B' := [(1, some y1), (2, some y4)]) ?_ ?_
  · exact sE' (e_add (r := ((2 : Nat) : Int)) rfl rfl rfl (by decide)) rfl <| sM (vin 2) rfl rfl <| sNil rfl rfl
  refine pwp_again (st := ⟨[(2, (.ref 1 0)), (4, (.ref 2 0)), (8, (.d y14)), (9, (vin 2))], [(1, some y1), (2, some y4)]⟩) (weak rfl rfl) ?_
  refine pwp_seq <| pwp_S (S' := [(2, (.ref 1 0)), (4, (.ref 2 0)), (8, (.d y14)), (9, (vin 2)), (10, (vb true))]) (B' := [(1, some y1), (2, some y4)]) ?_ ?_
  · exact sE' (e_bk (c := true) (e_lss rfl rfl rfl) (by decide)) rfl <| sNil rfl rfl
  refine pwp_seq <| pwp_cond (b := true) rfl (fun _ => ?_) (fun h => by cases h)
  refine pwp_skip <| pwp_seq <| pwp_block <| pwp_seq <| pwp_S (S' := [(2, (.ref 1 0)), (4, (.ref 2 0)), (5, (vin 2)), (6, (vi n2)), (8, (.d y14)), (9, (vin 2))]) (B' := [(1, some y1), (2, some y4)]) ?_ ?_
  · exact sM (vin 2) rfl rfl <| sE' (e_ixa (j := 2) (cs := (Dat.cells y14)) (y := (vi n2)) rfl rfl ar80 sh3 (fun _ => rfl) rfl rfl rfl rfl rfl) rfl <| sM (vin 2) rfl rfl <| sM (vi n2) rfl rfl <| sNil rfl rfl
  refine pwp_S (S' := [(2, (.ref 1 0)), (4, (.ref 2 0)), (8, (.d y14)), (9, (vin 2))]) (B' := [(1, some y1), (2, some y5)]) ?_ ?_
  · exact sM (vin 2) rfl rfl <| sM (vi n2) rfl rfl <| sE' (e_cl (l_wholeI n2 (by omega) (by omega)) rfl rfl rfl) rfl <| sE' (e_ixar (j := 2) (q := 4) rfl ar32 rfl rfl rfl (by decide) rfl) rfl <| sT (t_std (d := (encI (ofZ n2))) (cs := y5) rfl rfl rfl sh30 rfl rfl rfl rfl) rfl rfl rfl <| sNil rfl rfl
  refine pwp_S (S' := [(2, (.ref 1 0)), (4, (.ref 2 0)), (8, (.d y14)), (9, (vin 3))]) (B' := [(1, some y1), (2, some y5)]) ?_ ?_
  · exact sE' (e_add (r := ((3 : Nat) : Int)) rfl rfl rfl (by decide)) rfl <| sM (vin 3) rfl rfl <| sNil rfl rfl
  refine pwp_again (st := ⟨[(2, (.ref 1 0)), (4, (.ref 2 0)), (8, (.d y14)), (9, (vin 3))], [(1, some y1), (2, some y5)]⟩) (weak rfl rfl) ?_
  refine pwp_seq <| pwp_S (S' := [(2, (.ref 1 0)), (4, (.ref 2 0)), (8, (.d y14)), (9, (vin 3)), (10, (vb true))]) (B' := [(1, some y1), (2, some y5)]) ?_ ?_
  · exact sE' (e_bk (c := true) (e_lss rfl rfl rfl) (by decide)) rfl <| sNil rfl rfl
  refine pwp_seq <| pwp_cond (b := true) rfl (fun _ => ?_) (fun h => by cases h)
  refine pwp_skip <| pwp_seq <| pwp_block <| pwp_seq <| pwp_S (S' := [(2, (.ref 1 0)), (4, (.ref 2 0)), (5, (vin 3)), (6, (vi n3)), (8, (.d y14)), (9, (vin 3))]) (B' := [(1, some y1), (2, some y5)]) ?_ ?_
  · exact sM (vin 3) rfl rfl <| sE' (e_ixa (j := 3) (cs := (Dat.cells y14)) (y := (vi n3)) rfl rfl ar80 sh3 (fun _ => rfl) rfl rfl rfl rfl rfl) rfl <| sM (vin 3) rfl rfl <| sM (vi n3) rfl rfl <| sNil rfl rfl
  refine pwp_S (S' := [(2, (.ref 1 0)), (4, (.ref 2 0)), (8, (.d y14)), (9, (vin 3))]) (B' := [(1, some y1), (2, some y6)]) ?_ ?_
  · exact sM (vin 3) rfl rfl <| sM (vi n3) rfl rfl <| sE' (e_cl (l_wholeI n3 (by omega) (by omega)) rfl rfl rfl) rfl <| sE' (e_ixar (j := 3) (q := 6) rfl ar32 rfl rfl rfl (by decide) rfl) rfl <| sT (t_std (d := (encI (ofZ n3))) (cs := y6) rfl rfl rfl sh30 rfl rfl rfl rfl) rfl rfl rfl <| sNil rfl rfl
  refine pwp_S (S' := [(2, (.ref 1 0)), (4, (.ref 2 0)), (8, (.d y14)), (9, (vin 4))]) (B' := [(1, some y1), (2, some y6)]) ?_ ?_
  · exact sE' (e_add (r := ((4 : Nat) : Int)) rfl rfl rfl (by decide)) rfl <| sM (vin 4) rfl rfl <| sNil rfl rfl
  refine pwp_again (st := ⟨[(2, (.ref 1 0)), (4, (.ref 2 0)), (8, (.d y14)), (9, (vin 4))], [(1, some y1), (2, some y6)]⟩) (weak rfl rfl) ?_
  refine pwp_seq <| pwp_S (S' := [(2, (.ref 1 0)), (4, (.ref 2 0)), (8, (.d y14)), (9, (vin 4)), (10, (vb true))]) (B' := [(1, some y1), (2, some y6)]) ?_ ?_
  · exact sE' (e_bk (c := true) (e_lss rfl rfl rfl) (by decide)) rfl <| sNil rfl rfl
  refine pwp_seq <| pwp_cond (b := true) rfl (fun _ => ?_) (fun h => by cases h)
  refine pwp_skip <| pwp_seq <| pwp_block <| pwp_seq <| pwp_S (S' := [(2, (.ref 1 0)), (4, (.ref 2 0)), (5, (vin 4)), (6, (vi n4)), (8, (.d y14)), (9, (vin 4))]) (B' := [(1, some y1), (2, some y6)]) ?_ ?_
  · exact sM (vin 4) rfl rfl <| sE' (e_ixa (j := 4) (cs := (Dat.cells y14)) (y := (vi n4)) rfl rfl ar80 sh3 (fun _ => rfl) rfl rfl rfl rfl rfl) rfl <| sM (vin 4) rfl rfl <| sM (vi n4) rfl rfl <| sNil rfl rfl
  refine pwp_S (S' := [(2, (.ref 1 0)), (4, (.ref 2 0)), (8, (.d y14)), (9, (vin 4))]) (B' := [(1, some y1), (2, some y7)]) ?_ ?_
  · exact sM (vin 4) rfl rfl <| sM (vi n4) rfl rfl <| sE' (e_cl (l_wholeI n4 (by omega) (by omega)) rfl rfl rfl) rfl <| sE' (e_ixar (j := 4) (q := 8) rfl ar32 rfl rfl rfl (by decide) rfl) rfl <| sT (t_std (d := (encI (ofZ n4))) (cs := y7) rfl rfl rfl sh30 rfl rfl rfl rfl) rfl rfl rfl <| sNil rfl rfl
  refine pwp_S (S' := [(2, (.ref 1 0)), (4, (.ref 2 0)), (8, (.d y14)), (9, (vin 5))]) (B' := [(1, some y1), (2, some y7)]) ?_ ?_
  · exact sE' (e_add (r := ((5 : Nat) : Int)) rfl rfl rfl (by decide)) rfl <| sM (vin 5) rfl rfl <| sNil rfl rfl
  refine pwp_again (st := ⟨[(2, (.ref 1 0)), (4, (.ref 2 0)), (8, (.d y14)), (9, (vin 5))], [(1, some y1), (2, some y7)]⟩) (weak rfl rfl) ?_
  refine pwp_seq <| pwp_S (S' := [(2, (.ref 1 0)), (4, (.ref 2 0)), (8, (.d y14)), (9, (vin 5)), (10, (vb true))]) (B' := [(1, some y1), (2, some y7)]) ?_ ?_
  · exact sE' (e_bk (c := true) (e_lss rfl rfl rfl) (by decide)) rfl <| sNil rfl rfl
  refine pwp_seq <| pwp_cond (b := true) rfl (fun _ => ?_) (fun h => by cases h)
  refine pwp_skip <| pwp_seq <| pwp_block <| pwp_seq <| pwp_S (S' := [(2, (.ref 1 0)), (4, (.ref 2 0)), (5, (vin 5)), (6, (vi n5)), (8, (.d y14)), (9, (vin 5))]) (B' := [(1, some y1), (2, some y7)]) ?_ ?_
  · exact sM (vin 5) rfl rfl <| sE' (e_ixa (j := 5) (cs := (Dat.cells y14)) (y := (vi n5)) rfl rfl ar80 sh3 (fun _ => rfl) rfl rfl rfl rfl rfl) rfl <| sM (vin 5) rfl rfl <| sM (vi n5) rfl rfl <| sNil rfl rfl
  refine pwp_S (S' := [(2, (.ref 1 0)), (4, (.ref 2 0)), (8, (.d y14)), (9, (vin 5))]) (B' := [(1, some y1), (2, some y8)]) ?_ ?_
  · exact sM (vin 5) rfl rfl <| sM (vi n5) rfl rfl <| sE' (e_cl (l_wholeI n5 (by omega) (by omega)) rfl rfl rfl) rfl <| sE' (e_ixar (j := 5) (q := 10) rfl ar32 rfl rfl rfl (by decide) rfl) rfl <| sT (t_std (d := (encI (ofZ n5))) (cs := y8) rfl rfl rfl sh30 rfl rfl rfl rfl) rfl rfl rfl <| sNil rfl rfl
  refine pwp_S (S' := [(2, (.ref 1 0)), (4, (.ref 2 0)), (8, (.d y14)), (9, (vin 6))]) (B' := [(1, some y1), (2, some y8)]) ?_ ?_
  · exact sE' (e_add (r := ((6 : Nat) : Int)) rfl rfl rfl (by decide)) rfl <| sM (vin 6) rfl rfl <| sNil rfl rfl
  refine pwp_again (st := ⟨[(2, (.ref 1 0)), (4, (.ref 2 0)), (8, (.d y14)), (9, (vin 6))], [(1, some y1), (2, some y8)]⟩) (weak rfl rfl) ?_
  refine pwp_seq <| pwp_S (S' := [(2, (.ref 1 0)), (4, (.ref 2 0)), (8, (.d y14)), (9, (vin 6)), (10, (vb true))]) (B' := [(1, some y1), (2, some y8)]) ?_ ?_
  · exact sE' (e_bk (c := true) (e_lss rfl rfl rfl) (by decide)) rfl <| sNil rfl rfl
  refine pwp_seq <| pwp_cond (b := true) rfl (fun _ => ?_) (fun h => by cases h)
  refine pwp_skip <| pwp_seq <| pwp_block <| pwp_seq <| pwp_S (S' := [(2, (.ref 1 0)), (4, (.ref 2 0)), (5, (vin 6)), (6, (vi n6)), (8, (.d y14)), (9, (vin 6))]) (B' := [(1, some y1), (2, some y8)]) ?_ ?_
  · exact sM (vin 6) rfl rfl <| sE' (e_ixa (j := 6) (cs := (Dat.cells y14)) (y := (vi n6)) rfl rfl ar80 sh3 (fun _ => rfl) rfl rfl rfl rfl rfl) rfl <| sM (vin 6) rfl rfl <| sM (vi n6) rfl rfl <| sNil rfl rfl
  refine pwp_S (S' := [(2, (.ref 1 0)), (4, (.ref 2 0)), (8, (.d y14)), (9, (vin 6))]) (B' := [(1, some y1), (2, some y9)]) ?_ ?_
  · exact sM (vin 6) rfl rfl <| sM (vi n6) rfl rfl <| sE' (e_cl (l_wholeI n6 (by omega) (by omega)) rfl rfl rfl) rfl <| sE' (e_ixar (j := 6) (q := 12) rfl ar32 rfl rfl rfl (by decide) rfl) rfl <| sT (t_std (d := (encI (ofZ n6))) (cs := y9) rfl rfl rfl sh30 rfl rfl rfl rfl) rfl rfl rfl <| sNil rfl rfl
  refine pwp_S (S' := [(2, (.ref 1 0)), (4, (.ref 2 0)), (8, (.d y14)), (9, (vin 7))]) (B' := [(1, some y1), (2, some y9)]) ?_ ?_
  · exact sE' (e_add (r := ((7 : Nat) : Int)) rfl rfl rfl (by decide)) rfl <| sM (vin 7) rfl rfl <| sNil rfl rfl
  refine pwp_again (st := ⟨[(2, (.ref 1 0)), (4, (.ref 2 0)), (8, (.d y14)), (9, (vin 7))], [(1, some y1), (2, some y9)]⟩) (weak rfl rfl) ?_
  refine pwp_seq <| pwp_S (S' := [(2, (.ref 1 0)), (4, (.ref 2 0)), (8, (.d y14)), (9, (vin 7)), (10, (vb true))]) (B' := [(1, some y1), (2, some y9)]) ?_ ?_
  · exact sE' (e_bk (c := true) (e_lss rfl rfl rfl) (by decide)) rfl <| sNil rfl rfl
  refine pwp_seq <| pwp_cond (b := true) rfl (fun _ => ?_) (fun h => by cases h)
  refine pwp_skip <| pwp_seq <| pwp_block <| pwp_seq <| pwp_S (S' := [(2, (.ref 1 0)), (4, (.ref 2 0)), (5, (vin 7)), (6, (vi n7)), (8, (.d y14)), (9, (vin 7))]) (B' := [(1, some y1), (2, some y9)]) ?_ ?_
  · exact sM (vin 7) rfl rfl <| sE' (e_ixa (j := 7) (cs := (Dat.cells y14)) (y := (vi n7)) rfl rfl ar80 sh3 (fun _ => rfl) rfl rfl rfl rfl rfl) rfl <| sM (vin 7) rfl rfl <| sM (vi n7) rfl rfl <| sNil rfl rfl
  refine pwp_S (S' := [(2, (.ref 1 0)), (4, (.ref 2 0)), (8, (.d y14)), (9, (vin 7))]) (B' := [(1, some y1), (2, some y10)]) ?_ ?_
  · exact sM (vin 7) rfl rfl <| sM (vi n7) rfl rfl <| sE' (e_cl (l_wholeI n7 (by omega) (by omega)) rfl rfl rfl) rfl <| sE' (e_ixar (j := 7) (q := 14) rfl ar32 rfl rfl rfl (by decide) rfl) rfl <| sT (t_std (d := (encI (ofZ n7))) (cs := y10) rfl rfl rfl sh30 rfl rfl rfl rfl) rfl rfl rfl <| sNil rfl rfl
  refine pwp_S (S' := [(2, (.ref 1 0)), (4, (.ref 2 0)), (8, (.d y14)), (9, (vin 8))]) (B' := [(1, some y1), (2, some y10)]) ?_ ?_
  · exact sE' (e_add (r := ((8 : Nat) : Int)) rfl rfl rfl (by decide)) rfl <| sM (vin 8) rfl rfl <| sNil rfl rfl
  refine pwp_again (st := ⟨[(2, (.ref 1 0)), (4, (.ref 2 0)), (8, (.d y14)), (9, (vin 8))], [(1, some y1), (2, some y10)]⟩) (weak rfl rfl) ?_
  refine pwp_seq <| pwp_S (S' := [(2, (.ref 1 0)), (4, (.ref 2 0)), (8, (.d y14)), (9, (vin 8)), (10, (vb true))]) (B' := [(1, some y1), (2, some y10)]) ?_ ?_
  · exact sE' (e_bk (c := true) (e_lss rfl rfl rfl) (by decide)) rfl <| sNil rfl rfl
  refine pwp_seq <| pwp_cond (b := true) rfl (fun _ => ?_) (fun h => by cases h)
  refine pwp_skip <| pwp_seq <| pwp_block <| pwp_seq <| pwp_S (S' := [(2, (.ref 1 0)), (4, (.ref 2 0)), (5, (vin 8)), (6, (vi n8)), (8, (.d y14)), (9, (vin 8))]) (B' := [(1, some y1), (2, some y10)]) ?_ ?_
  · exact sM (vin 8) rfl rfl <| sE' (e_ixa (j := 8) (cs := (Dat.cells y14)) (y := (vi n8)) rfl rfl ar80 sh3 (fun _ => rfl) rfl rfl rfl rfl rfl) rfl <| sM (vin 8) rfl rfl <| sM (vi n8) rfl rfl <| sNil rfl rfl
  refine pwp_S (S' := [(2, (.ref 1 0)), (4, (.ref 2 0)), (8, (.d y14)), (9, (vin 8))]) (B' := [(1, some y1), (2, some y11)]) ?_ ?_
  · exact sM (vin 8) rfl rfl <| sM (vi n8) rfl rfl <| sE' (e_cl (l_wholeI n8 (by omega) (by omega)) rfl rfl rfl) rfl <| sE' (e_ixar (j := 8) (q := 16) rfl ar32 rfl rfl rfl (by decide) rfl) rfl <| sT (t_std (d := (encI (ofZ n8))) (cs := y11) rfl rfl rfl sh30 rfl rfl rfl rfl) rfl rfl rfl <| sNil rfl rfl
  refine pwp_S (S' := [(2, (.ref 1 0)), (4, (.ref 2 0)), (8, (.d y14)), (9, (vin 9))]) (B' := [(1, some y1), (2, some y11)]) ?_ ?_
  · exact sE' (e_add (r := ((9 : Nat) : Int)) rfl rfl rfl (by decide)) rfl <| sM (vin 9) rfl rfl <| sNil rfl rfl
  refine pwp_again (st := ⟨[(2, (.ref 1 0)), (4, (.ref 2 0)), (8, (.d y14)), (9, (vin 9))], [(1, some y1), (2, some y11)]⟩) (weak rfl rfl) ?_
  refine pwp_seq <| pwp_S (S' := [(2, (.ref 1 0)), (4, (.ref 2 0)), (8, (.d y14)), (9, (vin 9)), (10, (vb false))]) (B' := [(1, some y1), (2, some y11)]) ?_ ?_
  · exact sE' (e_bk (c := false) (e_lss rfl rfl rfl) (by decide)) rfl <| sNil rfl rfl
  refine pwp_seq <| pwp_cond (b := false) rfl (fun h => by cases h) (fun _ => ?_)
  refine pwp_exit <| pwp_seq ?_
  have bn1 : ∀ c ∈ [c0, c1, c2, c3, c4, c5, c6, c7, c8], IOk (ofZ c) c 3 := red_iok (n := 3) (.cons (iok_int (z := n0) (by omega) (by omega)) (.cons (iok_int (z := n1) (by omega) (by omega)) (.cons (iok_int (z := n2) (by omega) (by omega)) (.cons (iok_int (z := n3) (by omega) (by omega)) (.cons (iok_int (z := n4) (by omega) (by omega)) (.cons (iok_int (z := n5) (by omega) (by omega)) (.cons (iok_int (z := n6) (by omega) (by omega)) (.cons (iok_int (z := n7) (by omega) (by omega)) (.cons (iok_int (z := n8) (by omega) (by omega)) .nil))))))))) hc
  refine pwp_S (S' := [(2, (.ref 1 0)), (3, (vb true))]) (B' := [(1, some (bx y12))]) ?_ ?_
  · exact sR (e_lda (cs := y11) (y := (.d (encA31 y13))) rfl rfl sh32 rfl rfl) rfl rfl rfl rfl <| sE' (e_cl (l_reduce y13 n0 n1 n2 n3 n4 n5 n6 n7 n8 (iok_up (iok_int (z := n0) (by omega) (by omega)) (by decide)) (iok_up (iok_int (z := n1) (by omega) (by omega)) (by decide)) (iok_up (iok_int (z := n2) (by omega) (by omega)) (by decide)) (iok_up (iok_int (z := n3) (by omega) (by omega)) (by decide)) (iok_up (iok_int (z := n4) (by omega) (by omega)) (by decide)) (iok_up (iok_int (z := n5) (by omega) (by omega)) (by decide)) (iok_up (iok_int (z := n6) (by omega) (by omega)) (by decide)) (iok_up (iok_int (z := n7) (by omega) (by omega)) (by decide)) (iok_up (iok_int (z := n8) (by omega) (by omega)) (by decide)) c0 c1 c2 c3 c4 c5 c6 c7 c8 hc hnz hd) rfl rfl rfl) rfl <| sE' (e_exD (d := y12) rfl rfl rfl) rfl <| sE' (e_exD (d := (.val (.bool (true)))) rfl rfl rfl) rfl <| sT (t_std (d := y12) (cs := (bx y12)) rfl rfl rfl sh32 rfl rfl rfl rfl) rfl rfl rfl <| sM (vb true) rfl rfl <| sNil rfl rfl
  refine pwp_ret ⟨_, (res_a (cs := (bx (encA31 (A9.mk (ofZ c0) (ofZ c1) (ofZ c2) (ofZ c3) (ofZ c4) (ofZ c5) (ofZ c6) (ofZ c7) (ofZ c8))))) (d := (encA31 (A9.mk (ofZ c0) (ofZ c1) (ofZ c2) (ofZ c3) (ofZ c4) (ofZ c5) (ofZ c6) (ofZ c7) (ofZ c8)))) rfl rfl sh32 rfl rfl (.tmp (d := (.val (.bool (true)))) rfl .nil)), ?_⟩
  rfl
theorem l_Reduced (a : Int) (hal : -1048576 ≤ a) (hah : a ≤ 1048576) (b : Int) (hbl : -1048576 ≤ b) (hbh : b ≤ 1048576) (d : Int) (hdl : -1048576 ≤ d) (hdh : d ≤ 1048576) (c0 c1 c2 : Int) (hc : redL [a, b, d] = [c0, c1, c2]) (hnz : sgnL [a, b, d] ≠ 0) : Takes Tryz.prog 63 [(.val (.int .i64 (a))), (.val (.int .i64 (b))), (.val (.int .i64 (d)))] (.tup [(encA43 (A3.mk (ofZ c0) (ofZ c1) (ofZ c2))), (.val (.bool (true)))]) := by
  refine fn_intro Tryz.func63 rfl cb63 rfl ?_
  show PWp _ _ _ _ ⟨[(0, (vi a)), (1, (vi b)), (2, (vi d))], []⟩
  refine pwp_seq <| pwp_S (S' := [(0, (vi a)), (1, (vi b)), (2, (vi d)), (6, (.ref 0 0))]) (B' := [(0, some (bx (encA43 (A3.mk (RInt.mk false []) (RInt.mk false []) (RInt.mk false [])))))]) ?_ ?_
  · exact sN (n_al (cs := (bx (encA43 (A3.mk (RInt.mk false []) (RInt.mk false []) (RInt.mk false []))))) 0 rfl ze44 zo44 rfl) rfl rfl rfl rfl <| sM (vb false) rfl rfl <| sNil rfl rfl
  refine pwp_seq ?_
  have bn1 : ∀ c ∈ [c0, c1, c2], IOk (ofZ c) c 3 := red_iok (n := 3) (.cons (iok_int (z := a) (by omega) (by omega)) (.cons (iok_int (z := b) (by omega) (by omega)) (.cons (iok_int (z := d) (by omega) (by omega)) .nil))) hc
  refine pwp_S (S' := [(6, (.ref 0 0)), (7, (vb true))]) (B' := [(0, some (bx (encA43 (A3.mk (ofZ c0) (ofZ c1) (ofZ c2)))))]) ?_ ?_
  · exact sM (vi a) rfl rfl <| sE' (e_cl (l_wholeI a (by omega) (by omega)) rfl rfl rfl) rfl <| sM (vi b) rfl rfl <| sE' (e_cl (l_wholeI b (by omega) (by omega)) rfl rfl rfl) rfl <| sM (vi d) rfl rfl <| sE' (e_cl (l_wholeI d (by omega) (by omega)) rfl rfl rfl) rfl <| sE' (e_bldF (ds := [(encI (ofZ a)), (encI (ofZ b)), (encI (ofZ d))]) (y := (encA43 (A3.mk (ofZ a) (ofZ b) (ofZ d)))) rfl ar44 ze44 zo44 rfl rfl rfl rfl rfl) rfl <| sE' (e_cl (l_trip (A3.mk (ofZ a) (ofZ b) (ofZ d)) a b d (iok_up (iok_int (z := a) (by omega) (by omega)) (by decide)) (iok_up (iok_int (z := b) (by omega) (by omega)) (by decide)) (iok_up (iok_int (z := d) (by omega) (by omega)) (by decide)) c0 c1 c2 hc hnz) rfl rfl rfl) rfl <| sE' (e_exD (d := (encA43 (A3.mk (ofZ c0) (ofZ c1) (ofZ c2)))) rfl rfl rfl) rfl <| sE' (e_exD (d := (.val (.bool (true)))) rfl rfl rfl) rfl <| sT (t_std (d := (encA43 (A3.mk (ofZ c0) (ofZ c1) (ofZ c2)))) (cs := (bx (encA43 (A3.mk (ofZ c0) (ofZ c1) (ofZ c2))))) rfl rfl rfl sh44 rfl rfl rfl rfl) rfl rfl rfl <| sM (vb true) rfl rfl <| sNil rfl rfl
  refine pwp_ret ⟨_, (res_a (cs := (bx (encA43 (A3.mk (ofZ c0) (ofZ c1) (ofZ c2))))) (d := (encA43 (A3.mk (ofZ c0) (ofZ c1) (ofZ c2)))) rfl rfl sh44 rfl rfl (.tmp (d := (.val (.bool (true)))) rfl .nil)), ?_⟩
  rfl
set_option maxHeartbeats 4000000 in
theorem l_known27  : Takes Tryz.prog 11 [] (.val (.bool (true))) := by
  let y10 := (encA43 (A3.mk (ofZ 1) (ofZ 2) (ofZ 1)))
  let y9 := (encA43 (A3.mk (ofZ 33) (ofZ 2) (ofZ 1)))
  let y8 := (bx y9)
  let y7 := (encA43 (A3.mk (RInt.mk false []) (RInt.mk false []) (RInt.mk false [])))
  let y6 := (A9.mk (ofZ 4) (ofZ 0) (ofZ 0) (ofZ 0) (ofZ 4) (ofZ 0) (ofZ (-1)) (ofZ (-1)) (ofZ 3))
  let y5 := (encA31 (A9.mk (ofZ 1) (ofZ 0) (ofZ 32) (ofZ 0) (ofZ 1) (ofZ 0) (ofZ 0) (ofZ 0) (ofZ 1)))
  let y4 := (encA31 y6)
  let y3 := (bx y5)
  let y2 := (bx y4)
  let y1 := (bx (encA31 (A9.mk (RInt.mk false []) (RInt.mk false []) (RInt.mk false []) (RInt.mk false []) (RInt.mk false []) (RInt.mk false []) (RInt.mk false []) (RInt.mk false []) (RInt.mk false []))))
  refine fn_intro Tryz.func11 rfl cb11 rfl ?_
  show PWp _ _ _ _ ⟨[], []⟩
  refine pwp_seq <| pwp_S (S' := []) (B' := []) ?_ ?_
  · exact sM (vb false) rfl rfl <| sNil rfl rfl
  refine pwp_seq <| pwp_S (S' := [(1, (.ref 0 0))]) (B' := [(0, some y3)]) ?_ ?_
  · exact sE' (e_bldF (ds := [(.val (.int .i64 (((1 : Nat) : Int)))), (.val (.int .i64 (((0 : Nat) : Int)))), (.val (.int .i64 (((32 : Nat) : Int)))), (.val (.int .i64 (((0 : Nat) : Int)))), (.val (.int .i64 (((1 : Nat) : Int)))), (.val (.int .i64 (((0 : Nat) : Int)))), (.val (.int .i64 (((0 : Nat) : Int)))), (.val (.int .i64 (((0 : Nat) : Int)))), (.val (.int .i64 (((1 : Nat) : Int))))]) (y := (encA80 (A9.mk ((1 : Nat) : Int) ((0 : Nat) : Int) ((32 : Nat) : Int) ((0 : Nat) : Int) ((1 : Nat) : Int) ((0 : Nat) : Int) ((0 : Nat) : Int) ((0 : Nat) : Int) ((1 : Nat) : Int)))) rfl ar80 ze80 zo80 rfl rfl rfl rfl rfl) rfl <| sE' (e_cl (l_made ((1 : Nat) : Int) ((0 : Nat) : Int) ((32 : Nat) : Int) ((0 : Nat) : Int) ((1 : Nat) : Int) ((0 : Nat) : Int) ((0 : Nat) : Int) ((0 : Nat) : Int) ((1 : Nat) : Int) (by omega) (by omega) (by omega) (by omega) (by omega) (by omega) (by omega) (by omega) (by omega) 1 0 32 0 1 0 0 0 1 (by decide +kernel) (by decide +kernel) (by decide +kernel)) rfl rfl rfl) rfl <| sM (.d (.tup [y5, (.val (.bool (true)))])) rfl rfl <| sE' (e_exD (d := y5) rfl rfl rfl) rfl <| sE' (e_exD (d := (.val (.bool (true)))) rfl rfl rfl) rfl <| sN (n_al (cs := y1) 0 rfl ze32 zo32 rfl) rfl rfl rfl rfl <| sT (t_std (d := y5) (cs := y3) rfl rfl rfl sh32 rfl rfl rfl rfl) rfl rfl rfl <| sM (vb true) rfl rfl <| sNil rfl rfl
  refine pwp_seq <| pwp_S (S' := [(1, (.ref 0 0)), (3, (.ref 1 0))]) (B' := [(0, some y3), (1, some (bx y10))]) ?_ ?_
  · exact sE' (e_cl (l_Reduced ((1 : Nat) : Int) (by omega) (by omega) ((2 : Nat) : Int) (by omega) (by omega) ((1 : Nat) : Int) (by omega) (by omega) 1 2 1 (by decide +kernel) (by decide +kernel)) rfl rfl rfl) rfl <| sM (.d (.tup [y10, (.val (.bool (true)))])) rfl rfl <| sE' (e_exD (d := y10) rfl rfl rfl) rfl <| sE' (e_exD (d := (.val (.bool (true)))) rfl rfl rfl) rfl <| sN (n_al (cs := (bx y7)) 1 rfl ze44 zo44 rfl) rfl rfl rfl rfl <| sT (t_std (d := y10) (cs := (bx y10)) rfl rfl rfl sh44 rfl rfl rfl rfl) rfl rfl rfl <| sM (vb true) rfl rfl <| sNil rfl rfl
  refine pwp_seq <| pwp_S (S' := [(1, (.ref 0 0)), (3, (.ref 1 0)), (5, (.ref 2 0))]) (B' := [(0, some y3), (1, some (bx y10)), (2, some y8)]) ?_ ?_
  · exact sE' (e_cl (l_Reduced ((33 : Nat) : Int) (by omega) (by omega) ((2 : Nat) : Int) (by omega) (by omega) ((1 : Nat) : Int) (by omega) (by omega) 33 2 1 (by decide +kernel) (by decide +kernel)) rfl rfl rfl) rfl <| sM (.d (.tup [y9, (.val (.bool (true)))])) rfl rfl <| sE' (e_exD (d := y9) rfl rfl rfl) rfl <| sE' (e_exD (d := (.val (.bool (true)))) rfl rfl rfl) rfl <| sN (n_al (cs := (bx y7)) 2 rfl ze44 zo44 rfl) rfl rfl rfl rfl <| sT (t_std (d := y9) (cs := y8) rfl rfl rfl sh44 rfl rfl rfl rfl) rfl rfl rfl <| sM (vb true) rfl rfl <| sNil rfl rfl
  refine pwp_seq <| pwp_S (S' := [(1, (.ref 0 0)), (5, (.ref 2 0)), (7, (.ref 3 0)), (8, (vi 0))]) (B' := [(0, some y3), (2, some y8), (3, some y8)]) ?_ ?_
  · exact sR (e_lda (cs := y3) (y := (.d y5)) rfl rfl sh32 rfl rfl) rfl rfl rfl rfl <| sR (e_lda (cs := (bx y10)) (y := (.d y10)) rfl rfl sh44 rfl rfl) rfl rfl rfl rfl <| sE' (e_cl (d_apply (A9.mk (ofZ 1) (ofZ 0) (ofZ 32) (ofZ 0) (ofZ 1) (ofZ 0) (ofZ 0) (ofZ 0) (ofZ 1)) 1 0 32 0 1 0 0 0 1 (iok_up (iok_small (z := 1) (by decide)) (by decide)) (iok_up (iok_small (z := 0) (by decide)) (by decide)) (iok_up (iok_small (z := 32) (by decide)) (by decide)) (iok_up (iok_small (z := 0) (by decide)) (by decide)) (iok_up (iok_small (z := 1) (by decide)) (by decide)) (iok_up (iok_small (z := 0) (by decide)) (by decide)) (iok_up (iok_small (z := 0) (by decide)) (by decide)) (iok_up (iok_small (z := 0) (by decide)) (by decide)) (iok_up (iok_small (z := 1) (by decide)) (by decide)) (A3.mk (ofZ 1) (ofZ 2) (ofZ 1)) 1 2 1 (iok_up (iok_small (z := 1) (by decide)) (by decide)) (iok_up (iok_small (z := 2) (by decide)) (by decide)) (iok_up (iok_small (z := 1) (by decide)) (by decide)) 33 2 1 (by decide +kernel) (valH_closed [1, 0, 32, 0, 1, 0, 0, 0, 1] _ (by decide +kernel)) (redB_closed [1, 2, 1] (by decide +kernel)) (by decide +kernel)) rfl rfl rfl) rfl <| sM (.d (.tup [y9, (.val (.int .i64 (0)))])) rfl rfl <| sE' (e_exD (d := y9) rfl rfl rfl) rfl <| sE' (e_exD (d := (.val (.int .i64 (0)))) rfl rfl rfl) rfl <| sN (n_al (cs := (bx y7)) 3 rfl ze44 zo44 rfl) rfl rfl rfl rfl <| sT (t_std (d := y9) (cs := y8) rfl rfl rfl sh44 rfl rfl rfl rfl) rfl rfl rfl <| sM (vi 0) rfl rfl <| sNil rfl rfl
  refine pwp_seq <| pwp_S (S' := [(1, (.ref 0 0)), (5, (.ref 2 0)), (7, (.ref 3 0)), (8, (vi 0)), (9, (.ref 4 0)), (10, (vi 0))]) (B' := [(0, some y3), (2, some y8), (3, some y8), (4, some y2)]) ?_ ?_
  · exact sE' (e_bld (pd := []) (y := (encPair (RPair.mk (RPix.mk 0 0) (RPix.mk 0 0)))) rfl pl25 ze25 zo25 rfl rfl rfl rfl) rfl <| sE' (e_bld (pd := [(0, (.val (.int .i64 (((1 : Nat) : Int)))))]) (y := (encPix (RPix.mk ((1 : Nat) : Int) 0))) rfl pl23 ze23 zo23 rfl rfl rfl rfl) rfl <| sE' (e_bld (pd := [(0, (.val (.int .i64 (((2 : Nat) : Int)))))]) (y := (encPix (RPix.mk ((2 : Nat) : Int) 0))) rfl pl23 ze23 zo23 rfl rfl rfl rfl) rfl <| sE' (e_bld (pd := [(0, (encPix (RPix.mk ((1 : Nat) : Int) 0))), (1, (encPix (RPix.mk ((2 : Nat) : Int) 0)))]) (y := (encPair (RPair.mk (RPix.mk ((1 : Nat) : Int) 0) (RPix.mk ((2 : Nat) : Int) 0)))) rfl pl25 ze25 zo25 rfl rfl rfl rfl) rfl <| sE' (e_bld (pd := [(1, (.val (.int .i64 (((1 : Nat) : Int)))))]) (y := (encPix (RPix.mk 0 ((1 : Nat) : Int)))) rfl pl23 ze23 zo23 rfl rfl rfl rfl) rfl <| sE' (e_bld (pd := [(1, (.val (.int .i64 (((2 : Nat) : Int)))))]) (y := (encPix (RPix.mk 0 ((2 : Nat) : Int)))) rfl pl23 ze23 zo23 rfl rfl rfl rfl) rfl <| sE' (e_bld (pd := [(0, (encPix (RPix.mk 0 ((1 : Nat) : Int)))), (1, (encPix (RPix.mk 0 ((2 : Nat) : Int))))]) (y := (encPair (RPair.mk (RPix.mk 0 ((1 : Nat) : Int)) (RPix.mk 0 ((2 : Nat) : Int))))) rfl pl25 ze25 zo25 rfl rfl rfl rfl) rfl <| sE' (e_bld (pd := [(0, (.val (.int .i64 (((1 : Nat) : Int))))), (1, (.val (.int .i64 (((1 : Nat) : Int)))))]) (y := (encPix (RPix.mk ((1 : Nat) : Int) ((1 : Nat) : Int)))) rfl pl23 ze23 zo23 rfl rfl rfl rfl) rfl <| sE' (e_bld (pd := [(0, (.val (.int .i64 (((4 : Nat) : Int))))), (1, (.val (.int .i64 (((4 : Nat) : Int)))))]) (y := (encPix (RPix.mk ((4 : Nat) : Int) ((4 : Nat) : Int)))) rfl pl23 ze23 zo23 rfl rfl rfl rfl) rfl <| sE' (e_bld (pd := [(0, (encPix (RPix.mk ((1 : Nat) : Int) ((1 : Nat) : Int)))), (1, (encPix (RPix.mk ((4 : Nat) : Int) ((4 : Nat) : Int))))]) (y := (encPair (RPair.mk (RPix.mk ((1 : Nat) : Int) ((1 : Nat) : Int)) (RPix.mk ((4 : Nat) : Int) ((4 : Nat) : Int))))) rfl pl25 ze25 zo25 rfl rfl rfl rfl) rfl <| sE' (e_bldF (ds := [(encPair (RPair.mk (RPix.mk 0 0) (RPix.mk 0 0))), (encPair (RPair.mk (RPix.mk ((1 : Nat) : Int) 0) (RPix.mk ((2 : Nat) : Int) 0))), (encPair (RPair.mk (RPix.mk 0 ((1 : Nat) : Int)) (RPix.mk 0 ((2 : Nat) : Int)))), (encPair (RPair.mk (RPix.mk ((1 : Nat) : Int) ((1 : Nat) : Int)) (RPix.mk ((4 : Nat) : Int) ((4 : Nat) : Int))))]) (y := (encA26 (A4.mk (RPair.mk (RPix.mk 0 0) (RPix.mk 0 0)) (RPair.mk (RPix.mk ((1 : Nat) : Int) 0) (RPix.mk ((2 : Nat) : Int) 0)) (RPair.mk (RPix.mk 0 ((1 : Nat) : Int)) (RPix.mk 0 ((2 : Nat) : Int))) (RPair.mk (RPix.mk ((1 : Nat) : Int) ((1 : Nat) : Int)) (RPix.mk ((4 : Nat) : Int) ((4 : Nat) : Int)))))) rfl ar26 ze26 zo26 rfl rfl rfl rfl rfl) rfl <| sE' (e_cl (d_four 0 0 0 0 ((1 : Nat) : Int) 0 ((2 : Nat) : Int) 0 0 ((1 : Nat) : Int) 0 ((2 : Nat) : Int) ((1 : Nat) : Int) ((1 : Nat) : Int) ((4 : Nat) : Int) ((4 : Nat) : Int) (by omega) (by omega) (by omega) (by omega) (by omega) (by omega) (by omega) (by omega) (by omega) (by omega) (by omega) (by omega) (by omega) (by omega) (by omega) (by omega) (-1) (by decide +kernel) 1 (by decide +kernel) 1 (by decide +kernel) 1 (by decide +kernel) (-12) (by decide +kernel) 8 (by decide +kernel) 8 (by decide +kernel) 4 (by decide +kernel) 0 (by decide +kernel) 1 (by decide +kernel) 0 (by decide +kernel) 0 (by decide +kernel) 0 (by decide +kernel) 1 (by decide +kernel) (-1) (by decide +kernel) 1 (by decide +kernel) 1 (by decide +kernel) 0 (by decide +kernel) 16 (by decide +kernel) 0 (by decide +kernel) 0 (by decide +kernel) 0 (by decide +kernel) 16 (by decide +kernel) (-12) (by decide +kernel) 8 (by decide +kernel) 8 (by decide +kernel) 4 0 0 0 4 0 (-1) (-1) 3 (by decide +kernel) (by decide +kernel) (by decide +kernel) (by decide +kernel) (by decide +kernel) (by decide +kernel) (by decide +kernel) (by decide +kernel) (by decide +kernel) (by decide +kernel)) rfl rfl rfl) rfl <| sM (.d (.tup [y4, (.val (.int .i64 (0)))])) rfl rfl <| sE' (e_exD (d := y4) rfl rfl rfl) rfl <| sE' (e_exD (d := (.val (.int .i64 (0)))) rfl rfl rfl) rfl <| sN (n_al (cs := y1) 4 rfl ze32 zo32 rfl) rfl rfl rfl rfl <| sT (t_std (d := y4) (cs := y2) rfl rfl rfl sh32 rfl rfl rfl rfl) rfl rfl rfl <| sM (vi 0) rfl rfl <| sNil rfl rfl
  refine pwp_seq <| pwp_S (S' := [(1, (.ref 0 0)), (5, (.ref 2 0)), (7, (.ref 3 0)), (8, (vi 0)), (9, (.ref 4 0)), (10, (vi 0)), (11, (.ref 5 0))]) (B' := [(0, some y3), (2, some y8), (3, some y8), (4, some y2), (5, some y2)]) ?_ ?_
  · exact sE' (e_bldF (ds := [(.val (.int .i64 (((4 : Nat) : Int)))), (.val (.int .i64 (((0 : Nat) : Int)))), (.val (.int .i64 (((0 : Nat) : Int)))), (.val (.int .i64 (((0 : Nat) : Int)))), (.val (.int .i64 (((4 : Nat) : Int)))), (.val (.int .i64 (((0 : Nat) : Int)))), (.val (.int .i64 (-1))), (.val (.int .i64 (-1))), (.val (.int .i64 (((3 : Nat) : Int))))]) (y := (encA80 (A9.mk ((4 : Nat) : Int) ((0 : Nat) : Int) ((0 : Nat) : Int) ((0 : Nat) : Int) ((4 : Nat) : Int) ((0 : Nat) : Int) (-1) (-1) ((3 : Nat) : Int)))) rfl ar80 ze80 zo80 rfl rfl rfl rfl rfl) rfl <| sE' (e_cl (l_made ((4 : Nat) : Int) ((0 : Nat) : Int) ((0 : Nat) : Int) ((0 : Nat) : Int) ((4 : Nat) : Int) ((0 : Nat) : Int) (-1) (-1) ((3 : Nat) : Int) (by omega) (by omega) (by omega) (by omega) (by omega) (by omega) (by omega) (by omega) (by omega) 4 0 0 0 4 0 (-1) (-1) 3 (by decide +kernel) (by decide +kernel) (by decide +kernel)) rfl rfl rfl) rfl <| sM (.d (.tup [y4, (.val (.bool (true)))])) rfl rfl <| sE' (e_exD (d := y4) rfl rfl rfl) rfl <| sE' (e_exD (d := (.val (.bool (true)))) rfl rfl rfl) rfl <| sN (n_al (cs := y1) 5 rfl ze32 zo32 rfl) rfl rfl rfl rfl <| sT (t_std (d := y4) (cs := y2) rfl rfl rfl sh32 rfl rfl rfl rfl) rfl rfl rfl <| sM (vb true) rfl rfl <| sNil rfl rfl
  refine pwp_seq <| pwp_S (S' := [(0, (vb true))]) (B' := []) ?_ ?_
  · exact sM (vi 0) rfl rfl <| sE' (e_eql rfl rfl rfl) rfl <| sM (vb true) rfl rfl <| sM (vi 0) rfl rfl <| sE' (e_eql rfl rfl rfl) rfl <| sE' (e_pkt (z := (vb true)) rfl rfl rfl) rfl <| sM (vb true) rfl rfl <| sR (e_lda (cs := y8) (y := (.d y9)) rfl rfl sh44 rfl rfl) rfl rfl rfl rfl <| sR (e_lda (cs := y8) (y := (.d y9)) rfl rfl sh44 rfl rfl) rfl rfl rfl rfl <| sE' (e_cl (l_sameT3 (A3.mk (ofZ 33) (ofZ 2) (ofZ 1)) 33 2 1 (iok_up (iok_small (z := 33) (by decide)) (by decide)) (iok_up (iok_small (z := 2) (by decide)) (by decide)) (iok_up (iok_small (z := 1) (by decide)) (by decide)) (A3.mk (ofZ 33) (ofZ 2) (ofZ 1)) 33 2 1 (iok_up (iok_small (z := 33) (by decide)) (by decide)) (iok_up (iok_small (z := 2) (by decide)) (by decide)) (iok_up (iok_small (z := 1) (by decide)) (by decide)) (validI_ofZ _) (validI_ofZ _) (validI_ofZ _) (sameI_self _) (sameI_self _) (sameI_self _)) rfl rfl rfl) rfl <| sE' (e_pkt (z := (vb true)) rfl rfl rfl) rfl <| sM (vb true) rfl rfl <| sR (e_lda (cs := y2) (y := (.d y4)) rfl rfl sh32 rfl rfl) rfl rfl rfl rfl <| sR (e_lda (cs := y2) (y := (.d y4)) rfl rfl sh32 rfl rfl) rfl rfl rfl rfl <| sE' (e_cl (l_sameT9 y6 4 0 0 0 4 0 (-1) (-1) 3 (iok_up (iok_small (z := 4) (by decide)) (by decide)) (iok_up (iok_small (z := 0) (by decide)) (by decide)) (iok_up (iok_small (z := 0) (by decide)) (by decide)) (iok_up (iok_small (z := 0) (by decide)) (by decide)) (iok_up (iok_small (z := 4) (by decide)) (by decide)) (iok_up (iok_small (z := 0) (by decide)) (by decide)) (iok_up (iok_small (z := (-1)) (by decide)) (by decide)) (iok_up (iok_small (z := (-1)) (by decide)) (by decide)) (iok_up (iok_small (z := 3) (by decide)) (by decide)) y6 4 0 0 0 4 0 (-1) (-1) 3 (iok_up (iok_small (z := 4) (by decide)) (by decide)) (iok_up (iok_small (z := 0) (by decide)) (by decide)) (iok_up (iok_small (z := 0) (by decide)) (by decide)) (iok_up (iok_small (z := 0) (by decide)) (by decide)) (iok_up (iok_small (z := 4) (by decide)) (by decide)) (iok_up (iok_small (z := 0) (by decide)) (by decide)) (iok_up (iok_small (z := (-1)) (by decide)) (by decide)) (iok_up (iok_small (z := (-1)) (by decide)) (by decide)) (iok_up (iok_small (z := 3) (by decide)) (by decide)) (validI_ofZ _) (validI_ofZ _) (validI_ofZ _) (validI_ofZ _) (validI_ofZ _) (validI_ofZ _) (validI_ofZ _) (validI_ofZ _) (validI_ofZ _) (sameI_self _) (sameI_self _) (sameI_self _) (sameI_self _) (sameI_self _) (sameI_self _) (sameI_self _) (sameI_self _) (sameI_self _)) rfl rfl rfl) rfl <| sE' (e_pkt (z := (vb true)) rfl rfl rfl) rfl <| sM (vb true) rfl rfl <| sR (e_lda (cs := y3) (y := (.d y5)) rfl rfl sh32 rfl rfl) rfl rfl rfl rfl <| sE' (e_bk (c := true) (e_cl (d_valid (A9.mk (ofZ 1) (ofZ 0) (ofZ 32) (ofZ 0) (ofZ 1) (ofZ 0) (ofZ 0) (ofZ 0) (ofZ 1)) 1 0 32 0 1 0 0 0 1 (iok_up (iok_small (z := 1) (by decide)) (by decide)) (iok_up (iok_small (z := 0) (by decide)) (by decide)) (iok_up (iok_small (z := 32) (by decide)) (by decide)) (iok_up (iok_small (z := 0) (by decide)) (by decide)) (iok_up (iok_small (z := 1) (by decide)) (by decide)) (iok_up (iok_small (z := 0) (by decide)) (by decide)) (iok_up (iok_small (z := 0) (by decide)) (by decide)) (iok_up (iok_small (z := 0) (by decide)) (by decide)) (iok_up (iok_small (z := 1) (by decide)) (by decide))) rfl rfl rfl) (valH_closed [1, 0, 32, 0, 1, 0, 0, 0, 1] _ (by decide +kernel))) rfl <| sE' (e_pkt (z := (vb true)) rfl rfl rfl) rfl <| sM (vb true) rfl rfl <| sE' (e_blda (pd := []) (y := y7) rfl ar44 ze44 zo44 rfl rfl rfl rfl) rfl <| sE' (e_bk (c := false) (e_cl (d_proper (A3.mk (RInt.mk false []) (RInt.mk false []) (RInt.mk false [])) 0 0 0 (iu iok_zero) (iu iok_zero) (iu iok_zero)) rfl rfl rfl) (by decide +kernel)) rfl <| sE' (e_not (b := false) rfl rfl) rfl <| sE' (e_pkt (z := (vb true)) rfl rfl rfl) rfl <| sM (vb true) rfl rfl <| sNil rfl rfl
  refine pwp_ret ⟨_, (.tmp (d := (.val (.bool (true)))) rfl .nil), ?_⟩
  rfl
theorem l_map1 (h : A9 RInt) (h0 h1 h2 h3 h4 h5 h6 h7 h8 : Int) (hh0 : IOk h.a0 h0 140737488355328) (hh1 : IOk h.a1 h1 140737488355328) (hh2 : IOk h.a2 h2 140737488355328) (hh3 : IOk h.a3 h3 140737488355328) (hh4 : IOk h.a4 h4 140737488355328) (hh5 : IOk h.a5 h5 140737488355328) (hh6 : IOk h.a6 h6 140737488355328) (hh7 : IOk h.a7 h7 140737488355328) (hh8 : IOk h.a8 h8 140737488355328) : Takes Tryz.prog 20 [(encA31 h)] (.sl 32 18 (List.map encA31 [h])) := by
  refine fn_intro Tryz.func20 rfl cb20 rfl ?_
  show PWp _ _ _ _ ⟨[(0, (.d (encA31 h)))], []⟩
  refine pwp_seq <| pwp_S (S' := [(1, (.ref 0 0))]) (B' := [(0, some (bx (encA31 h)))]) ?_ ?_
  · exact sN (n_bx (d := (encA31 h)) (cs := (bx (encA31 h))) 0 rfl rfl rfl rfl) rfl rfl rfl rfl <| sE' (e_asgnil 32 18 rfl) rfl <| sNil rfl rfl
  refine pwp_seq <| pwp_S (S' := [(2, (vl 32 18 encA31 [h]))]) (B' := []) ?_ ?_
  · exact sR (e_lda (cs := (bx (encA31 h))) (y := (.d (encA31 h))) rfl rfl sh32 rfl rfl) rfl rfl rfl rfl <| sE' (e_bsl (pd := [(0, (encA31 h))]) (es := List.map encA31 [h]) rfl el49 ze32 zo32 rfl rfl rfl rfl rfl rfl rfl rfl) rfl <| sM (vl 32 18 encA31 [h]) rfl rfl <| sNil rfl rfl
  refine pwp_ret ⟨_, (.tmp (d := (.sl 32 18 (List.map encA31 [h]))) rfl .nil), ?_⟩
  rfl
theorem l_briefT11 (h : A9 RInt) (h0 h1 h2 h3 h4 h5 h6 h7 h8 : Int) (hh0 : IOk h.a0 h0 140737488355328) (hh1 : IOk h.a1 h1 140737488355328) (hh2 : IOk h.a2 h2 140737488355328) (hh3 : IOk h.a3 h3 140737488355328) (hh4 : IOk h.a4 h4 140737488355328) (hh5 : IOk h.a5 h5 140737488355328) (hh6 : IOk h.a6 h6 140737488355328) (hh7 : IOk h.a7 h7 140737488355328) (hh8 : IOk h.a8 h8 140737488355328) (p : A3 RInt) (p0 p1 p2 : Int) (hp0 : IOk p.a0 p0 140737488355328) (hp1 : IOk p.a1 p1 140737488355328) (hp2 : IOk p.a2 p2 140737488355328) (hb0 : List.all [h.a0, h.a1, h.a2, h.a3, h.a4, h.a5, h.a6, h.a7, h.a8] short4 = true) (hb1 : List.all [p.a0, p.a1, p.a2] short4 = true) : Takes Tryz.prog 19 [(.sl 32 18 (List.map encA31 [h])), (.sl 44 6 (List.map encA43 [p]))] (.val (.bool (true))) := by
  refine fn_intro Tryz.func19 rfl cb19 rfl ?_
  show PWp _ _ _ _ ⟨[(0, (vl 32 18 encA31 [h])), (1, (vl 44 6 encA43 [p]))], []⟩
  refine pwp_seq <| pwp_S (S' := [(0, (vl 32 18 encA31 [h])), (1, (vl 44 6 encA43 [p]))]) (B' := []) ?_ ?_
  · exact sM (vb false) rfl rfl <| sNil rfl rfl
  refine pwp_seq <| pwp_seq <| pwp_S (S' := [(1, (vl 44 6 encA43 [p])), (9, (vl 32 18 encA31 [h])), (10, (vin 1)), (11, (vin 0))]) (B' := []) ?_ ?_
  · exact sM (vl 32 18 encA31 [h]) rfl rfl <| sE' (e_ln (r := ((1 : Nat) : Int)) rfl el49 rfl (by simp)) rfl <| sM (vin 0) rfl rfl <| sNil rfl rfl
  refine pwp_block <| pwp_rounds 20 ?_
  refine pwp_round <| pwp_seq <| pwp_S (S' := [(1, (vl 44 6 encA43 [p])), (9, (vl 32 18 encA31 [h])), (10, (vin 1)), (11, (vin 0)), (12, (vb true))]) (B' := []) ?_ ?_
  · exact sE' (e_bk (c := true) (e_lss rfl rfl rfl) (by decide)) rfl <| sNil rfl rfl
  refine pwp_seq <| pwp_cond (b := true) rfl (fun _ => ?_) (fun h => by cases h)
  refine pwp_skip <| pwp_seq <| pwp_block <| pwp_seq <| pwp_S (S' := [(1, (vl 44 6 encA43 [p])), (6, (.ref 0 0)), (9, (vl 32 18 encA31 [h])), (10, (vin 1)), (11, (vin 0))]) (B' := [(0, some (bx (encA31 h)))]) ?_ ?_
  · exact sE' (e_ixs (j := 0) (cs := (Dat.cells (encA31 h))) rfl el49 rfl rfl rfl rfl) rfl <| sE' (e_lca (cs := (Dat.cells (encA31 h))) (y := (.d (encA31 h))) rfl rfl sh32 rfl rfl) rfl <| sN (n_al (cs := (bx (encA31 (A9.mk (RInt.mk false []) (RInt.mk false []) (RInt.mk false []) (RInt.mk false []) (RInt.mk false []) (RInt.mk false []) (RInt.mk false []) (RInt.mk false []) (RInt.mk false []))))) 0 rfl ze32 zo32 rfl) rfl rfl rfl rfl <| sT (t_std (d := (encA31 h)) (cs := (bx (encA31 h))) rfl rfl rfl sh32 rfl rfl rfl rfl) rfl rfl rfl <| sNil rfl rfl
  refine pwp_seq <| pwp_S (S' := [(1, (vl 44 6 encA43 [p])), (9, (vl 32 18 encA31 [h])), (10, (vin 1)), (11, (vin 0)), (17, (vb false))]) (B' := []) ?_ ?_
  · exact sE' (e_slv rfl ar32 rfl rfl rfl) rfl <| sR (e_clv (cs := (bx (encA31 h))) (es := List.map encI [h.a0, h.a1, h.a2, h.a3, h.a4, h.a5, h.a6, h.a7, h.a8]) (l_short4 1000000 [h.a0, h.a1, h.a2, h.a3, h.a4, h.a5, h.a6, h.a7, h.a8] [h0, h1, h2, h3, h4, h5, h6, h7, h8] (.cons hh0 (.cons hh1 (.cons hh2 (.cons hh3 (.cons hh4 (.cons hh5 (.cons hh6 (.cons hh7 (.cons hh8 .nil))))))))) (Nat.le_of_ble_eq_true rfl)) rfl rfl rfl (.v .nil) (pubs_cells _ _ (fun _ => rfl)) rfl rfl (.val _)) rfl rfl rfl rfl <| sE' (e_bk (c := false) (e_not rfl rfl) (congrArg (!·) hb0)) rfl <| sNil rfl rfl
  refine pwp_cond (b := false) rfl (fun h => by cases h) (fun _ => ?_)
  refine pwp_skip <| pwp_S (S' := [(1, (vl 44 6 encA43 [p])), (9, (vl 32 18 encA31 [h])), (10, (vin 1)), (11, (vin 1))]) (B' := []) ?_ ?_
  · exact sE' (e_add (r := ((1 : Nat) : Int)) rfl rfl rfl (by decide)) rfl <| sM (vin 1) rfl rfl <| sNil rfl rfl
  refine pwp_again (st := ⟨[(1, (vl 44 6 encA43 [p])), (9, (vl 32 18 encA31 [h])), (10, (vin 1)), (11, (vin 1))], []⟩) (weak rfl rfl) ?_
  refine pwp_seq <| pwp_S (S' := [(1, (vl 44 6 encA43 [p])), (9, (vl 32 18 encA31 [h])), (10, (vin 1)), (11, (vin 1)), (12, (vb false))]) (B' := []) ?_ ?_
  · exact sE' (e_bk (c := false) (e_lss rfl rfl rfl) (by decide)) rfl <| sNil rfl rfl
  refine pwp_seq <| pwp_cond (b := false) rfl (fun h => by cases h) (fun _ => ?_)
  refine pwp_exit <| pwp_seq <| pwp_seq <| pwp_S (S' := [(19, (vl 44 6 encA43 [p])), (20, (vin 1)), (21, (vin 0))]) (B' := []) ?_ ?_
  · exact sM (vl 44 6 encA43 [p]) rfl rfl <| sE' (e_ln (r := ((1 : Nat) : Int)) rfl el65 rfl (by simp)) rfl <| sM (vin 0) rfl rfl <| sNil rfl rfl
  refine pwp_block <| pwp_rounds 20 ?_
  refine pwp_round <| pwp_seq <| pwp_S (S' := [(19, (vl 44 6 encA43 [p])), (20, (vin 1)), (21, (vin 0)), (22, (vb true))]) (B' := []) ?_ ?_
  · exact sE' (e_bk (c := true) (e_lss rfl rfl rfl) (by decide)) rfl <| sNil rfl rfl
  refine pwp_seq <| pwp_cond (b := true) rfl (fun _ => ?_) (fun h => by cases h)
  refine pwp_skip <| pwp_seq <| pwp_block <| pwp_seq <| pwp_S (S' := [(8, (.ref 1 0)), (19, (vl 44 6 encA43 [p])), (20, (vin 1)), (21, (vin 0))]) (B' := [(1, some (bx (encA43 p)))]) ?_ ?_
  · exact sE' (e_ixs (j := 0) (cs := (Dat.cells (encA43 p))) rfl el65 rfl rfl rfl rfl) rfl <| sE' (e_lca (cs := (Dat.cells (encA43 p))) (y := (.d (encA43 p))) rfl rfl sh44 rfl rfl) rfl <| sN (n_al (cs := (bx (encA43 (A3.mk (RInt.mk false []) (RInt.mk false []) (RInt.mk false []))))) 1 rfl ze44 zo44 rfl) rfl rfl rfl rfl <| sT (t_std (d := (encA43 p)) (cs := (bx (encA43 p))) rfl rfl rfl sh44 rfl rfl rfl rfl) rfl rfl rfl <| sNil rfl rfl
  refine pwp_seq <| pwp_S (S' := [(19, (vl 44 6 encA43 [p])), (20, (vin 1)), (21, (vin 0)), (27, (vb false))]) (B' := []) ?_ ?_
  · exact sE' (e_slv rfl ar44 rfl rfl rfl) rfl <| sR (e_clv (cs := (bx (encA43 p))) (es := List.map encI [p.a0, p.a1, p.a2]) (l_short4 1000000 [p.a0, p.a1, p.a2] [p0, p1, p2] (.cons hp0 (.cons hp1 (.cons hp2 .nil))) (Nat.le_of_ble_eq_true rfl)) rfl rfl rfl (.v .nil) (pubs_cells _ _ (fun _ => rfl)) rfl rfl (.val _)) rfl rfl rfl rfl <| sE' (e_bk (c := false) (e_not rfl rfl) (congrArg (!·) hb1)) rfl <| sNil rfl rfl
  refine pwp_cond (b := false) rfl (fun h => by cases h) (fun _ => ?_)
  refine pwp_skip <| pwp_S (S' := [(19, (vl 44 6 encA43 [p])), (20, (vin 1)), (21, (vin 1))]) (B' := []) ?_ ?_
  · exact sE' (e_add (r := ((1 : Nat) : Int)) rfl rfl rfl (by decide)) rfl <| sM (vin 1) rfl rfl <| sNil rfl rfl
  refine pwp_again (st := ⟨[(19, (vl 44 6 encA43 [p])), (20, (vin 1)), (21, (vin 1))], []⟩) (weak rfl rfl) ?_
  refine pwp_seq <| pwp_S (S' := [(19, (vl 44 6 encA43 [p])), (20, (vin 1)), (21, (vin 1)), (22, (vb false))]) (B' := []) ?_ ?_
  · exact sE' (e_bk (c := false) (e_lss rfl rfl rfl) (by decide)) rfl <| sNil rfl rfl
  refine pwp_seq <| pwp_cond (b := false) rfl (fun h => by cases h) (fun _ => ?_)
  refine pwp_exit <| pwp_seq <| pwp_S (S' := [(4, (vb true))]) (B' := []) ?_ ?_
  · exact sM (vb true) rfl rfl <| sNil rfl rfl
  refine pwp_ret ⟨_, (.tmp (d := (.val (.bool (true)))) rfl .nil), ?_⟩
  rfl
theorem l_briefF11_0 (h : A9 RInt) (h0 h1 h2 h3 h4 h5 h6 h7 h8 : Int) (hh0 : IOk h.a0 h0 140737488355328) (hh1 : IOk h.a1 h1 140737488355328) (hh2 : IOk h.a2 h2 140737488355328) (hh3 : IOk h.a3 h3 140737488355328) (hh4 : IOk h.a4 h4 140737488355328) (hh5 : IOk h.a5 h5 140737488355328) (hh6 : IOk h.a6 h6 140737488355328) (hh7 : IOk h.a7 h7 140737488355328) (hh8 : IOk h.a8 h8 140737488355328) (p : A3 RInt) (p0 p1 p2 : Int) (hp0 : IOk p.a0 p0 140737488355328) (hp1 : IOk p.a1 p1 140737488355328) (hp2 : IOk p.a2 p2 140737488355328) (hbx : List.all [h.a0, h.a1, h.a2, h.a3, h.a4, h.a5, h.a6, h.a7, h.a8] short4 = false) : Takes Tryz.prog 19 [(.sl 32 18 (List.map encA31 [h])), (.sl 44 6 (List.map encA43 [p]))] (.val (.bool (false))) := by
  refine fn_intro Tryz.func19 rfl cb19 rfl ?_
  show PWp _ _ _ _ ⟨[(0, (vl 32 18 encA31 [h])), (1, (vl 44 6 encA43 [p]))], []⟩
  refine pwp_seq <| pwp_S (S' := [(0, (vl 32 18 encA31 [h])), (1, (vl 44 6 encA43 [p]))]) (B' := []) ?_ ?_
  · exact sM (vb false) rfl rfl <| sNil rfl rfl
  refine pwp_seq <| pwp_seq <| pwp_S (S' := [(1, (vl 44 6 encA43 [p])), (9, (vl 32 18 encA31 [h])), (10, (vin 1)), (11, (vin 0))]) (B' := []) ?_ ?_
  · exact sM (vl 32 18 encA31 [h]) rfl rfl <| sE' (e_ln (r := ((1 : Nat) : Int)) rfl el49 rfl (by simp)) rfl <| sM (vin 0) rfl rfl <| sNil rfl rfl
  refine pwp_block <| pwp_rounds 20 ?_
  refine pwp_round <| pwp_seq <| pwp_S (S' := [(1, (vl 44 6 encA43 [p])), (9, (vl 32 18 encA31 [h])), (10, (vin 1)), (11, (vin 0)), (12, (vb true))]) (B' := []) ?_ ?_
  · exact sE' (e_bk (c := true) (e_lss rfl rfl rfl) (by decide)) rfl <| sNil rfl rfl
  refine pwp_seq <| pwp_cond (b := true) rfl (fun _ => ?_) (fun h => by cases h)
  refine pwp_skip <| pwp_seq <| pwp_block <| pwp_seq <| pwp_S (S' := [(1, (vl 44 6 encA43 [p])), (6, (.ref 0 0)), (9, (vl 32 18 encA31 [h])), (10, (vin 1)), (11, (vin 0))]) (B' := [(0, some (bx (encA31 h)))]) ?_ ?_
  · exact sE' (e_ixs (j := 0) (cs := (Dat.cells (encA31 h))) rfl el49 rfl rfl rfl rfl) rfl <| sE' (e_lca (cs := (Dat.cells (encA31 h))) (y := (.d (encA31 h))) rfl rfl sh32 rfl rfl) rfl <| sN (n_al (cs := (bx (encA31 (A9.mk (RInt.mk false []) (RInt.mk false []) (RInt.mk false []) (RInt.mk false []) (RInt.mk false []) (RInt.mk false []) (RInt.mk false []) (RInt.mk false []) (RInt.mk false []))))) 0 rfl ze32 zo32 rfl) rfl rfl rfl rfl <| sT (t_std (d := (encA31 h)) (cs := (bx (encA31 h))) rfl rfl rfl sh32 rfl rfl rfl rfl) rfl rfl rfl <| sNil rfl rfl
  refine pwp_seq <| pwp_S (S' := [(1, (vl 44 6 encA43 [p])), (9, (vl 32 18 encA31 [h])), (10, (vin 1)), (11, (vin 0)), (17, (vb true))]) (B' := []) ?_ ?_
  · exact sE' (e_slv rfl ar32 rfl rfl rfl) rfl <| sR (e_clv (cs := (bx (encA31 h))) (es := List.map encI [h.a0, h.a1, h.a2, h.a3, h.a4, h.a5, h.a6, h.a7, h.a8]) (l_short4 1000000 [h.a0, h.a1, h.a2, h.a3, h.a4, h.a5, h.a6, h.a7, h.a8] [h0, h1, h2, h3, h4, h5, h6, h7, h8] (.cons hh0 (.cons hh1 (.cons hh2 (.cons hh3 (.cons hh4 (.cons hh5 (.cons hh6 (.cons hh7 (.cons hh8 .nil))))))))) (Nat.le_of_ble_eq_true rfl)) rfl rfl rfl (.v .nil) (pubs_cells _ _ (fun _ => rfl)) rfl rfl (.val _)) rfl rfl rfl rfl <| sE' (e_bk (c := true) (e_not rfl rfl) (congrArg (!·) hbx)) rfl <| sNil rfl rfl
  refine pwp_cond (b := true) rfl (fun _ => ?_) (fun h => by cases h)
  refine pwp_seq <| pwp_S (S' := [(4, (vb false))]) (B' := []) ?_ ?_
  · exact sM (vb false) rfl rfl <| sNil rfl rfl
  refine pwp_ret ⟨_, (.tmp (d := (.val (.bool (false)))) rfl .nil), ?_⟩
  rfl
theorem l_briefF11_1 (h : A9 RInt) (h0 h1 h2 h3 h4 h5 h6 h7 h8 : Int) (hh0 : IOk h.a0 h0 140737488355328) (hh1 : IOk h.a1 h1 140737488355328) (hh2 : IOk h.a2 h2 140737488355328) (hh3 : IOk h.a3 h3 140737488355328) (hh4 : IOk h.a4 h4 140737488355328) (hh5 : IOk h.a5 h5 140737488355328) (hh6 : IOk h.a6 h6 140737488355328) (hh7 : IOk h.a7 h7 140737488355328) (hh8 : IOk h.a8 h8 140737488355328) (p : A3 RInt) (p0 p1 p2 : Int) (hp0 : IOk p.a0 p0 140737488355328) (hp1 : IOk p.a1 p1 140737488355328) (hp2 : IOk p.a2 p2 140737488355328) (hb0 : List.all [h.a0, h.a1, h.a2, h.a3, h.a4, h.a5, h.a6, h.a7, h.a8] short4 = true) (hbx : List.all [p.a0, p.a1, p.a2] short4 = false) : Takes Tryz.prog 19 [(.sl 32 18 (List.map encA31 [h])), (.sl 44 6 (List.map encA43 [p]))] (.val (.bool (false))) := by
  refine fn_intro Tryz.func19 rfl cb19 rfl ?_
  show PWp _ _ _ _ ⟨[(0, (vl 32 18 encA31 [h])), (1, (vl 44 6 encA43 [p]))], []⟩
  refine pwp_seq <| pwp_S (S' := [(0, (vl 32 18 encA31 [h])), (1, (vl 44 6 encA43 [p]))]) (B' := []) ?_ ?_
  · exact sM (vb false) rfl rfl <| sNil rfl rfl
  refine pwp_seq <| pwp_seq <| pwp_S (S' := [(1, (vl 44 6 encA43 [p])), (9, (vl 32 18 encA31 [h])), (10, (vin 1)), (11, (vin 0))]) (B' := []) ?_ ?_
  · exact sM (vl 32 18 encA31 [h]) rfl rfl <| sE' (e_ln (r := ((1 : Nat) : Int)) rfl el49 rfl (by simp)) rfl <| sM (vin 0) rfl rfl <| sNil rfl rfl
  refine pwp_block <| pwp_rounds 20 ?_
  refine pwp_round <| pwp_seq <| pwp_S (S' := [(1, (vl 44 6 encA43 [p])), (9, (vl 32 18 encA31 [h])), (10, (vin 1)), (11, (vin 0)), (12, (vb true))]) (B' := []) ?_ ?_
  · exact sE' (e_bk (c := true) (e_lss rfl rfl rfl) (by decide)) rfl <| sNil rfl rfl
  refine pwp_seq <| pwp_cond (b := true) rfl (fun _ => ?_) (fun h => by cases h)
  refine pwp_skip <| pwp_seq <| pwp_block <| pwp_seq <| pwp_S (S' := [(1, (vl 44 6 encA43 [p])), (6, (.ref 0 0)), (9, (vl 32 18 encA31 [h])), (10, (vin 1)), (11, (vin 0))]) (B' := [(0, some (bx (encA31 h)))]) ?_ ?_
  · exact sE' (e_ixs (j := 0) (cs := (Dat.cells (encA31 h))) rfl el49 rfl rfl rfl rfl) rfl <| sE' (e_lca (cs := (Dat.cells (encA31 h))) (y := (.d (encA31 h))) rfl rfl sh32 rfl rfl) rfl <| sN (n_al (cs := (bx (encA31 (A9.mk (RInt.mk false []) (RInt.mk false []) (RInt.mk false []) (RInt.mk false []) (RInt.mk false []) (RInt.mk false []) (RInt.mk false []) (RInt.mk false []) (RInt.mk false []))))) 0 rfl ze32 zo32 rfl) rfl rfl rfl rfl <| sT (t_std (d := (encA31 h)) (cs := (bx (encA31 h))) rfl rfl rfl sh32 rfl rfl rfl rfl) rfl rfl rfl <| sNil rfl rfl
  refine pwp_seq <| pwp_S (S' := [(1, (vl 44 6 encA43 [p])), (9, (vl 32 18 encA31 [h])), (10, (vin 1)), (11, (vin 0)), (17, (vb false))]) (B' := []) ?_ ?_
  · exact sE' (e_slv rfl ar32 rfl rfl rfl) rfl <| sR (e_clv (cs := (bx (encA31 h))) (es := List.map encI [h.a0, h.a1, h.a2, h.a3, h.a4, h.a5, h.a6, h.a7, h.a8]) (l_short4 1000000 [h.a0, h.a1, h.a2, h.a3, h.a4, h.a5, h.a6, h.a7, h.a8] [h0, h1, h2, h3, h4, h5, h6, h7, h8] (.cons hh0 (.cons hh1 (.cons hh2 (.cons hh3 (.cons hh4 (.cons hh5 (.cons hh6 (.cons hh7 (.cons hh8 .nil))))))))) (Nat.le_of_ble_eq_true rfl)) rfl rfl rfl (.v .nil) (pubs_cells _ _ (fun _ => rfl)) rfl rfl (.val _)) rfl rfl rfl rfl <| sE' (e_bk (c := false) (e_not rfl rfl) (congrArg (!·) hb0)) rfl <| sNil rfl rfl
  refine pwp_cond (b := false) rfl (fun h => by cases h) (fun _ => ?_)
  refine pwp_skip <| pwp_S (S' := [(1, (vl 44 6 encA43 [p])), (9, (vl 32 18 encA31 [h])), (10, (vin 1)), (11, (vin 1))]) (B' := []) ?_ ?_
  · exact sE' (e_add (r := ((1 : Nat) : Int)) rfl rfl rfl (by decide)) rfl <| sM (vin 1) rfl rfl <| sNil rfl rfl
  refine pwp_again (st := ⟨[(1, (vl 44 6 encA43 [p])), (9, (vl 32 18 encA31 [h])), (10, (vin 1)), (11, (vin 1))], []⟩) (weak rfl rfl) ?_
  refine pwp_seq <| pwp_S (S' := [(1, (vl 44 6 encA43 [p])), (9, (vl 32 18 encA31 [h])), (10, (vin 1)), (11, (vin 1)), (12, (vb false))]) (B' := []) ?_ ?_
  · exact sE' (e_bk (c := false) (e_lss rfl rfl rfl) (by decide)) rfl <| sNil rfl rfl
  refine pwp_seq <| pwp_cond (b := false) rfl (fun h => by cases h) (fun _ => ?_)
  refine pwp_exit <| pwp_seq <| pwp_seq <| pwp_S (S' := [(19, (vl 44 6 encA43 [p])), (20, (vin 1)), (21, (vin 0))]) (B' := []) ?_ ?_
  · exact sM (vl 44 6 encA43 [p]) rfl rfl <| sE' (e_ln (r := ((1 : Nat) : Int)) rfl el65 rfl (by simp)) rfl <| sM (vin 0) rfl rfl <| sNil rfl rfl
  refine pwp_block <| pwp_rounds 20 ?_
  refine pwp_round <| pwp_seq <| pwp_S (S' := [(19, (vl 44 6 encA43 [p])), (20, (vin 1)), (21, (vin 0)), (22, (vb true))]) (B' := []) ?_ ?_
  · exact sE' (e_bk (c := true) (e_lss rfl rfl rfl) (by decide)) rfl <| sNil rfl rfl
  refine pwp_seq <| pwp_cond (b := true) rfl (fun _ => ?_) (fun h => by cases h)
  refine pwp_skip <| pwp_seq <| pwp_block <| pwp_seq <| pwp_S (S' := [(8, (.ref 1 0)), (19, (vl 44 6 encA43 [p])), (20, (vin 1)), (21, (vin 0))]) (B' := [(1, some (bx (encA43 p)))]) ?_ ?_
  · exact sE' (e_ixs (j := 0) (cs := (Dat.cells (encA43 p))) rfl el65 rfl rfl rfl rfl) rfl <| sE' (e_lca (cs := (Dat.cells (encA43 p))) (y := (.d (encA43 p))) rfl rfl sh44 rfl rfl) rfl <| sN (n_al (cs := (bx (encA43 (A3.mk (RInt.mk false []) (RInt.mk false []) (RInt.mk false []))))) 1 rfl ze44 zo44 rfl) rfl rfl rfl rfl <| sT (t_std (d := (encA43 p)) (cs := (bx (encA43 p))) rfl rfl rfl sh44 rfl rfl rfl rfl) rfl rfl rfl <| sNil rfl rfl
  refine pwp_seq <| pwp_S (S' := [(19, (vl 44 6 encA43 [p])), (20, (vin 1)), (21, (vin 0)), (27, (vb true))]) (B' := []) ?_ ?_
  · exact sE' (e_slv rfl ar44 rfl rfl rfl) rfl <| sR (e_clv (cs := (bx (encA43 p))) (es := List.map encI [p.a0, p.a1, p.a2]) (l_short4 1000000 [p.a0, p.a1, p.a2] [p0, p1, p2] (.cons hp0 (.cons hp1 (.cons hp2 .nil))) (Nat.le_of_ble_eq_true rfl)) rfl rfl rfl (.v .nil) (pubs_cells _ _ (fun _ => rfl)) rfl rfl (.val _)) rfl rfl rfl rfl <| sE' (e_bk (c := true) (e_not rfl rfl) (congrArg (!·) hbx)) rfl <| sNil rfl rfl
  refine pwp_cond (b := true) rfl (fun _ => ?_) (fun h => by cases h)
  refine pwp_seq <| pwp_S (S' := [(4, (vb false))]) (B' := []) ?_ ?_
  · exact sM (vb false) rfl rfl <| sNil rfl rfl
  refine pwp_ret ⟨_, (.tmp (d := (.val (.bool (false)))) rfl .nil), ?_⟩
  rfl
end Go.Proofs.YtadkkhdnccljcaaGreat
