/- Part 29 of a proof: rules, plain facts, and functions walked. -/
import Derived.Test.YtihgdjljnaekmaaGreatM28
import Derived.Test.YtihgdjljnaekmaaGreatM22
namespace Go.Proofs.YtihgdjljnaekmaaGreat
open Go.Fid
set_option maxRecDepth 4000
set_option linter.unusedVariables false
set_option linter.unusedSimpArgs false
theorem cb22 : callB Tryz.prog 22 = true := by kernel_rfl
theorem cb25 : callB Tryz.prog 25 = true := by kernel_rfl
theorem cb76 : callB Tryz.prog 76 = true := by kernel_rfl
theorem el39 : elemB Tryz.prog 39 = some (56, 6) := by kernel_rfl
theorem fo56_0 : fieldB Tryz.prog 56 0 = some 0 := by kernel_rfl
theorem fo56_1 : fieldB Tryz.prog 56 1 = some 1 := by kernel_rfl
theorem fo56_2 : fieldB Tryz.prog 56 2 = some 2 := by kernel_rfl
theorem sh56 : shapeB Tryz.prog 56 = some (true, 6) := by kernel_rfl
theorem ze56 : zeroB Tryz.prog 56 = some [.int .i64 0, .int .i64 0, .int .i64 0, .int .i64 0, .int .i64 0, .int .i64 0] := by kernel_rfl
theorem zo56 : ZOk [.int .i64 0, .int .i64 0, .int .i64 0, .int .i64 0, .int .i64 0, .int .i64 0] [.val (.int .i64 0), .val (.int .i64 0), .val (.int .i64 0), .val (.int .i64 0), .val (.int .i64 0), .val (.int .i64 0)] := by simp [ZOk, Value.oneCell']
theorem l_check (n : Int) (es : List REdge) (hb : es.length ≤ 1000000) : Takes Tryz.prog 25 [(.val (.int .i64 (n))), (.sl 56 6 (List.map encEdge es))] (.val (.int .i64 ((((lopC n es) : Nat) : Int)))) := by
  refine fn_intro Tryz.func25 rfl cb25 rfl ?_
  show PWp _ _ _ _ ⟨[(0, (vi n)), (1, (vl 56 6 encEdge es))], []⟩
  refine pwp_seq <| kx [] [] (zM <| zZ) ?_
  refine pwp_seq <| pwp_seq <| kx [(18, (vb ((decide (n < 1) || decide (64 < n)) || decide (256 < ((es.length : Nat) : Int)))))] [] ?_ ?_
  · refine zM <| zE oLt <| zE (oV (vb (decide (n < 1))) (mv_ok (by kernel_rfl))) <| ?_
    rcases hb1 : (decide (n < 1)) with _ | _
    · replace hb1 := of_decide_eq_false hb1
      refine zM <| zE oGt <| zE oPo <| zE (oV (vb (false || decide (64 < n))) (mv_ok (by kernel_rfl))) <| ?_
      rcases hb2 : (false || decide (64 < n)) with _ | _
      · replace hb2 := of_decide_eq_false (p := (64 < n)) hb2
        exact zM <| zE (oLm el39) <| zE oGt <| zE oPo <| zZ
      · replace hb2 := of_decide_eq_true (p := (64 < n)) hb2
        exact zK <| zK <| zK <| zE oPt <| zZ
    · replace hb1 := of_decide_eq_true hb1
      exact zK <| zK <| zE oPt <| zM <| zK <| zK <| zK <| zE oPt <| zZ
  refine pwp_cond rfl (fun h3 => ?_) (fun h3 => ?_)
  · refine pwp_seq <| kx [(4, (vin 3))] [] (zM <| zZ) ?_
    refine pwp_ret ⟨_, (.tmp (d := (.val (.int .i64 (3)))) rfl .nil), ?_⟩
    rw [limB_t h3]; rfl
  · refine pwp_skip <| pwp_seq <| pwp_seq <| kx [(19, (vl 56 6 encEdge es)), (20, (vin es.length)), (21, (vin 0))] [] (zM <| zE (oLm el39) <| zM <| zZ) ?_
    refine pwp_block <| pwp_loop (α := Nat) (fun k => ⟨[(0, (vi n)), (19, (vl 56 6 encEdge es)), (20, (vin es.length)), (21, (vin k))], []⟩) (fun k => k ≤ es.length ∧ okUp n es k) (fun k => es.length - k) 0 wk ⟨Nat.zero_le _, okUp_0 _ _⟩ ?_
    rintro k ⟨hk, hv⟩
    refine pwp_seq <| kx [(22, (vb (decide (((k : Nat) : Int) < ((es.length : Nat) : Int)))))] [] (zE oLt <| zZ) ?_
    refine pwp_seq <| pwp_cond rfl (fun h4 => ?_) (fun h4 => ?_)
    · replace h4 := of_decide_eq_true h4
      refine pwp_skip <| pwp_seq <| pwp_block <| pwp_seq <| kx [(6, (.ref 0 0))] [(0, some (bx (encEdge (es.getD k (REdge.mk 0 0 (RQuat.mk 0 0 0 0))))))] (zE (oXl el39 k (REdge.mk 0 0 (RQuat.mk 0 0 0 0))) <| zE (oCa sh56) <| zN (oAl 0 ze56 zo56) <| zT (oSt sh56) <| zZ) ?_
      refine pwp_seq <| pwp_seq <| kx [(44, (vb (((decide ((es.getD k (REdge.mk 0 0 (RQuat.mk 0 0 0 0))).fr < 0) || decide (n ≤ (es.getD k (REdge.mk 0 0 (RQuat.mk 0 0 0 0))).fr)) || decide ((es.getD k (REdge.mk 0 0 (RQuat.mk 0 0 0 0))).to_ < 0)) || decide (n ≤ (es.getD k (REdge.mk 0 0 (RQuat.mk 0 0 0 0))).to_))))] [] ?_ ?_
      · refine zE (oFr fo56_0) <| zR (oL1 sh3) <| zE oLt <| zE (oV (vb (decide ((es.getD k (REdge.mk 0 0 (RQuat.mk 0 0 0 0))).fr < 0))) (mv_ok (by kernel_rfl))) <| ?_
        rcases hb5 : (decide ((es.getD k (REdge.mk 0 0 (RQuat.mk 0 0 0 0))).fr < 0)) with _ | _
        · replace hb5 := of_decide_eq_false hb5
          refine zE (oFr fo56_0) <| zR (oL1 sh3) <| zM <| zE oGe <| zE oPo <| zE (oV (vb (false || decide (n ≤ (es.getD k (REdge.mk 0 0 (RQuat.mk 0 0 0 0))).fr))) (mv_ok (by kernel_rfl))) <| ?_
          rcases hb6 : (false || decide (n ≤ (es.getD k (REdge.mk 0 0 (RQuat.mk 0 0 0 0))).fr)) with _ | _
          · replace hb6 := of_decide_eq_false (p := (n ≤ (es.getD k (REdge.mk 0 0 (RQuat.mk 0 0 0 0))).fr)) hb6
            refine zE (oFr fo56_1) <| zR (oL1 sh3) <| zE oLt <| zE oPo <| zE (oV (vb (false || decide ((es.getD k (REdge.mk 0 0 (RQuat.mk 0 0 0 0))).to_ < 0))) (mv_ok (by kernel_rfl))) <| ?_
            rcases hb7 : (false || decide ((es.getD k (REdge.mk 0 0 (RQuat.mk 0 0 0 0))).to_ < 0)) with _ | _
            · replace hb7 := of_decide_eq_false (p := ((es.getD k (REdge.mk 0 0 (RQuat.mk 0 0 0 0))).to_ < 0)) hb7
              exact zE (oFr fo56_1) <| zR (oL1 sh3) <| zM <| zE oGe <| zE oPo <| zZ
            · replace hb7 := of_decide_eq_true (p := ((es.getD k (REdge.mk 0 0 (RQuat.mk 0 0 0 0))).to_ < 0)) hb7
              exact zK <| zK <| zK <| zK <| zE oPt <| zZ
          · replace hb6 := of_decide_eq_true (p := (n ≤ (es.getD k (REdge.mk 0 0 (RQuat.mk 0 0 0 0))).fr)) hb6
            exact zK <| zK <| zK <| zE oPt <| zM <| zK <| zK <| zK <| zK <| zE oPt <| zZ
        · replace hb5 := of_decide_eq_true hb5
          exact zK <| zK <| zK <| zK <| zE oPt <| zM <| zK <| zK <| zK <| zE oPt <| zM <| zK <| zK <| zK <| zK <| zE oPt <| zZ
      refine pwp_cond rfl (fun h8 => ?_) (fun h8 => ?_)
      · refine pwp_seq <| kx [(4, (vin 2))] [] (zM <| zZ) ?_
        refine pwp_ret ⟨_, (.tmp (d := (.val (.int .i64 (2)))) rfl .nil), ?_⟩
        rw [lop_bad (k := k) h3 (by omega) hv (rngB_t h8) (by decide)]; rfl
      · refine pwp_skip <| pwp_seq <| pwp_seq <| kx [(49, (vb ((es.getD k (REdge.mk 0 0 (RQuat.mk 0 0 0 0))).fr == (es.getD k (REdge.mk 0 0 (RQuat.mk 0 0 0 0))).to_)))] [] (zE (oFr fo56_0) <| zR (oL1 sh3) <| zE (oFr fo56_1) <| zR (oL1 sh3) <| zE oEq <| zZ) ?_
        refine pwp_cond rfl (fun h9 => ?_) (fun h9 => ?_)
        · replace h9 := eq_of_beq h9
          refine pwp_seq <| kx [(4, (vin 13))] [] (zM <| zZ) ?_
          refine pwp_ret ⟨_, (.tmp (d := (.val (.int .i64 (13)))) rfl .nil), ?_⟩
          rw [lop_bad (k := k) h3 (by omega) hv (edgC_d h8 h9) (by decide)]; rfl
        · replace h9 := ne_of_beq_false h9
          refine pwp_skip <| pwp_seq <| kx [(7, (vin (rotC (((es.getD k (REdge.mk 0 0 (RQuat.mk 0 0 0 0))).turn).a) (((es.getD k (REdge.mk 0 0 (RQuat.mk 0 0 0 0))).turn).b) (((es.getD k (REdge.mk 0 0 (RQuat.mk 0 0 0 0))).turn).c) (((es.getD k (REdge.mk 0 0 (RQuat.mk 0 0 0 0))).turn).d))))] [] (zE (oFr fo56_2) <| zR (oLa sh28) <| zE (oCl (q_chk (((es.getD k (REdge.mk 0 0 (RQuat.mk 0 0 0 0))).turn).a) (((es.getD k (REdge.mk 0 0 (RQuat.mk 0 0 0 0))).turn).b) (((es.getD k (REdge.mk 0 0 (RQuat.mk 0 0 0 0))).turn).c) (((es.getD k (REdge.mk 0 0 (RQuat.mk 0 0 0 0))).turn).d))) <| zM <| zZ) ?_
          refine pwp_seq <| kx [(54, (vb ((((rotC (((es.getD k (REdge.mk 0 0 (RQuat.mk 0 0 0 0))).turn).a) (((es.getD k (REdge.mk 0 0 (RQuat.mk 0 0 0 0))).turn).b) (((es.getD k (REdge.mk 0 0 (RQuat.mk 0 0 0 0))).turn).c) (((es.getD k (REdge.mk 0 0 (RQuat.mk 0 0 0 0))).turn).d)) : Nat) : Int) != 0)))] [] (zM <| zE oNe <| zZ) ?_
          refine pwp_cond rfl (fun h10 => ?_) (fun h10 => ?_)
          · replace h10 := bne_iff_ne.1 h10
            refine pwp_seq <| kx [(4, (vin (rotC (((es.getD k (REdge.mk 0 0 (RQuat.mk 0 0 0 0))).turn).a) (((es.getD k (REdge.mk 0 0 (RQuat.mk 0 0 0 0))).turn).b) (((es.getD k (REdge.mk 0 0 (RQuat.mk 0 0 0 0))).turn).c) (((es.getD k (REdge.mk 0 0 (RQuat.mk 0 0 0 0))).turn).d))))] [] (zM <| zM <| zZ) ?_
            refine pwp_ret ⟨_, (.tmp (d := (.val (.int .i64 ((((rotC (((es.getD k (REdge.mk 0 0 (RQuat.mk 0 0 0 0))).turn).a) (((es.getD k (REdge.mk 0 0 (RQuat.mk 0 0 0 0))).turn).b) (((es.getD k (REdge.mk 0 0 (RQuat.mk 0 0 0 0))).turn).c) (((es.getD k (REdge.mk 0 0 (RQuat.mk 0 0 0 0))).turn).d)) : Nat) : Int))))) rfl .nil), ?_⟩
            rw [lop_bad (k := k) h3 (by omega) hv (edgC_q h8 h9) (rot_ne h10)]; rfl
          · replace h10 := bne_eq_false_iff_eq.1 h10
            refine pwp_skip <| kx [(21, (vin (k + 1)))] [] (zE (oAd (k + 1)) <| zM <| zZ) ?_
            exact ⟨(k + 1), wk, ⟨by omega, okUp_s hv ((edgC_q h8 h9).trans (by omega))⟩, (by omega)⟩
    · replace h4 := of_decide_eq_false h4
      refine pwp_exit <| pwp_seq <| kx [(4, (vin 0))] [] (zM <| zZ) ?_
      refine pwp_ret ⟨_, (.tmp (d := (.val (.int .i64 (0)))) rfl .nil), ?_⟩
      rw [lop_end (k := k) h3 (by omega) hv]; rfl
theorem l8_check (n : Int) (es : List REdge) (hb : es.length ≤ 1000000) : Takes Tryz.prog 22 [(.val (.int .i64 (n))), (.sl 56 6 (List.map encEdge es))] (.val (.int .i64 ((((lopC n es) : Nat) : Int)))) := by
  refine fn_intro Tryz.func22 rfl cb22 rfl ?_
  show PWp _ _ _ _ ⟨[(0, (vi n)), (1, (vl 56 6 encEdge es))], []⟩
  refine pwp_seq <| kx [] [] (zM <| zZ) ?_
  refine pwp_seq <| pwp_seq <| kx [(18, (vb ((decide (n < 1) || decide (64 < n)) || decide (256 < ((es.length : Nat) : Int)))))] [] ?_ ?_
  · refine zM <| zE oLt <| zE (oV (vb (decide (n < 1))) (mv_ok (by kernel_rfl))) <| ?_
    rcases hb1 : (decide (n < 1)) with _ | _
    · replace hb1 := of_decide_eq_false hb1
      refine zM <| zE oGt <| zE oPo <| zE (oV (vb (false || decide (64 < n))) (mv_ok (by kernel_rfl))) <| ?_
      rcases hb2 : (false || decide (64 < n)) with _ | _
      · replace hb2 := of_decide_eq_false (p := (64 < n)) hb2
        exact zM <| zE (oLm el39) <| zE oGt <| zE oPo <| zZ
      · replace hb2 := of_decide_eq_true (p := (64 < n)) hb2
        exact zK <| zK <| zK <| zE oPt <| zZ
    · replace hb1 := of_decide_eq_true hb1
      exact zK <| zK <| zE oPt <| zM <| zK <| zK <| zK <| zE oPt <| zZ
  refine pwp_cond rfl (fun h3 => ?_) (fun h3 => ?_)
  · refine pwp_seq <| kx [(4, (vin 3))] [] (zM <| zZ) ?_
    refine pwp_ret ⟨_, (.tmp (d := (.val (.int .i64 (3)))) rfl .nil), ?_⟩
    rw [limB_t h3]; rfl
  · refine pwp_skip <| pwp_seq <| pwp_seq <| kx [(19, (vl 56 6 encEdge es)), (20, (vin es.length)), (21, (vin 0))] [] (zM <| zE (oLm el39) <| zM <| zZ) ?_
    refine pwp_block <| pwp_loop (α := Nat) (fun k => ⟨[(0, (vi n)), (19, (vl 56 6 encEdge es)), (20, (vin es.length)), (21, (vin k))], []⟩) (fun k => k ≤ es.length ∧ okUp n es k) (fun k => es.length - k) 0 wk ⟨Nat.zero_le _, okUp_0 _ _⟩ ?_
    rintro k ⟨hk, hv⟩
    refine pwp_seq <| kx [(22, (vb (decide (((k : Nat) : Int) < ((es.length : Nat) : Int)))))] [] (zE oLt <| zZ) ?_
    refine pwp_seq <| pwp_cond rfl (fun h4 => ?_) (fun h4 => ?_)
    · replace h4 := of_decide_eq_true h4
      refine pwp_skip <| pwp_seq <| pwp_block <| pwp_seq <| kx [(6, (.ref 0 0))] [(0, some (bx (encEdge (es.getD k (REdge.mk 0 0 (RQuat.mk 0 0 0 0))))))] (zE (oXl el39 k (REdge.mk 0 0 (RQuat.mk 0 0 0 0))) <| zE (oCa sh56) <| zN (oAl 0 ze56 zo56) <| zT (oSt sh56) <| zZ) ?_
      refine pwp_seq <| pwp_seq <| kx [(44, (vb (((decide ((es.getD k (REdge.mk 0 0 (RQuat.mk 0 0 0 0))).fr < 0) || decide (n ≤ (es.getD k (REdge.mk 0 0 (RQuat.mk 0 0 0 0))).fr)) || decide ((es.getD k (REdge.mk 0 0 (RQuat.mk 0 0 0 0))).to_ < 0)) || decide (n ≤ (es.getD k (REdge.mk 0 0 (RQuat.mk 0 0 0 0))).to_))))] [] ?_ ?_
      · refine zE (oFr fo56_0) <| zR (oL1 sh3) <| zE oLt <| zE (oV (vb (decide ((es.getD k (REdge.mk 0 0 (RQuat.mk 0 0 0 0))).fr < 0))) (mv_ok (by kernel_rfl))) <| ?_
        rcases hb5 : (decide ((es.getD k (REdge.mk 0 0 (RQuat.mk 0 0 0 0))).fr < 0)) with _ | _
        · replace hb5 := of_decide_eq_false hb5
          refine zE (oFr fo56_0) <| zR (oL1 sh3) <| zM <| zE oGe <| zE oPo <| zE (oV (vb (false || decide (n ≤ (es.getD k (REdge.mk 0 0 (RQuat.mk 0 0 0 0))).fr))) (mv_ok (by kernel_rfl))) <| ?_
          rcases hb6 : (false || decide (n ≤ (es.getD k (REdge.mk 0 0 (RQuat.mk 0 0 0 0))).fr)) with _ | _
          · replace hb6 := of_decide_eq_false (p := (n ≤ (es.getD k (REdge.mk 0 0 (RQuat.mk 0 0 0 0))).fr)) hb6
            refine zE (oFr fo56_1) <| zR (oL1 sh3) <| zE oLt <| zE oPo <| zE (oV (vb (false || decide ((es.getD k (REdge.mk 0 0 (RQuat.mk 0 0 0 0))).to_ < 0))) (mv_ok (by kernel_rfl))) <| ?_
            rcases hb7 : (false || decide ((es.getD k (REdge.mk 0 0 (RQuat.mk 0 0 0 0))).to_ < 0)) with _ | _
            · replace hb7 := of_decide_eq_false (p := ((es.getD k (REdge.mk 0 0 (RQuat.mk 0 0 0 0))).to_ < 0)) hb7
              exact zE (oFr fo56_1) <| zR (oL1 sh3) <| zM <| zE oGe <| zE oPo <| zZ
            · replace hb7 := of_decide_eq_true (p := ((es.getD k (REdge.mk 0 0 (RQuat.mk 0 0 0 0))).to_ < 0)) hb7
              exact zK <| zK <| zK <| zK <| zE oPt <| zZ
          · replace hb6 := of_decide_eq_true (p := (n ≤ (es.getD k (REdge.mk 0 0 (RQuat.mk 0 0 0 0))).fr)) hb6
            exact zK <| zK <| zK <| zE oPt <| zM <| zK <| zK <| zK <| zK <| zE oPt <| zZ
        · replace hb5 := of_decide_eq_true hb5
          exact zK <| zK <| zK <| zK <| zE oPt <| zM <| zK <| zK <| zK <| zE oPt <| zM <| zK <| zK <| zK <| zK <| zE oPt <| zZ
      refine pwp_cond rfl (fun h8 => ?_) (fun h8 => ?_)
      · refine pwp_seq <| kx [(4, (vin 2))] [] (zM <| zZ) ?_
        refine pwp_ret ⟨_, (.tmp (d := (.val (.int .i64 (2)))) rfl .nil), ?_⟩
        rw [lop_bad (k := k) h3 (by omega) hv (rngB_t h8) (by decide)]; rfl
      · refine pwp_skip <| pwp_seq <| pwp_seq <| kx [(49, (vb ((es.getD k (REdge.mk 0 0 (RQuat.mk 0 0 0 0))).fr == (es.getD k (REdge.mk 0 0 (RQuat.mk 0 0 0 0))).to_)))] [] (zE (oFr fo56_0) <| zR (oL1 sh3) <| zE (oFr fo56_1) <| zR (oL1 sh3) <| zE oEq <| zZ) ?_
        refine pwp_cond rfl (fun h9 => ?_) (fun h9 => ?_)
        · replace h9 := eq_of_beq h9
          refine pwp_seq <| kx [(4, (vin 13))] [] (zM <| zZ) ?_
          refine pwp_ret ⟨_, (.tmp (d := (.val (.int .i64 (13)))) rfl .nil), ?_⟩
          rw [lop_bad (k := k) h3 (by omega) hv (edgC_d h8 h9) (by decide)]; rfl
        · replace h9 := ne_of_beq_false h9
          refine pwp_skip <| pwp_seq <| kx [(7, (vin (rotC (((es.getD k (REdge.mk 0 0 (RQuat.mk 0 0 0 0))).turn).a) (((es.getD k (REdge.mk 0 0 (RQuat.mk 0 0 0 0))).turn).b) (((es.getD k (REdge.mk 0 0 (RQuat.mk 0 0 0 0))).turn).c) (((es.getD k (REdge.mk 0 0 (RQuat.mk 0 0 0 0))).turn).d))))] [] (zE (oFr fo56_2) <| zR (oLa sh28) <| zE (oCl (qs_chk (((es.getD k (REdge.mk 0 0 (RQuat.mk 0 0 0 0))).turn).a) (((es.getD k (REdge.mk 0 0 (RQuat.mk 0 0 0 0))).turn).b) (((es.getD k (REdge.mk 0 0 (RQuat.mk 0 0 0 0))).turn).c) (((es.getD k (REdge.mk 0 0 (RQuat.mk 0 0 0 0))).turn).d))) <| zM <| zZ) ?_
          refine pwp_seq <| kx [(54, (vb ((((rotC (((es.getD k (REdge.mk 0 0 (RQuat.mk 0 0 0 0))).turn).a) (((es.getD k (REdge.mk 0 0 (RQuat.mk 0 0 0 0))).turn).b) (((es.getD k (REdge.mk 0 0 (RQuat.mk 0 0 0 0))).turn).c) (((es.getD k (REdge.mk 0 0 (RQuat.mk 0 0 0 0))).turn).d)) : Nat) : Int) != 0)))] [] (zM <| zE oNe <| zZ) ?_
          refine pwp_cond rfl (fun h10 => ?_) (fun h10 => ?_)
          · replace h10 := bne_iff_ne.1 h10
            refine pwp_seq <| kx [(4, (vin (rotC (((es.getD k (REdge.mk 0 0 (RQuat.mk 0 0 0 0))).turn).a) (((es.getD k (REdge.mk 0 0 (RQuat.mk 0 0 0 0))).turn).b) (((es.getD k (REdge.mk 0 0 (RQuat.mk 0 0 0 0))).turn).c) (((es.getD k (REdge.mk 0 0 (RQuat.mk 0 0 0 0))).turn).d))))] [] (zM <| zM <| zZ) ?_
            refine pwp_ret ⟨_, (.tmp (d := (.val (.int .i64 ((((rotC (((es.getD k (REdge.mk 0 0 (RQuat.mk 0 0 0 0))).turn).a) (((es.getD k (REdge.mk 0 0 (RQuat.mk 0 0 0 0))).turn).b) (((es.getD k (REdge.mk 0 0 (RQuat.mk 0 0 0 0))).turn).c) (((es.getD k (REdge.mk 0 0 (RQuat.mk 0 0 0 0))).turn).d)) : Nat) : Int))))) rfl .nil), ?_⟩
            rw [lop_bad (k := k) h3 (by omega) hv (edgC_q h8 h9) (rot_ne h10)]; rfl
          · replace h10 := bne_eq_false_iff_eq.1 h10
            refine pwp_skip <| kx [(21, (vin (k + 1)))] [] (zE (oAd (k + 1)) <| zM <| zZ) ?_
            exact ⟨(k + 1), wk, ⟨by omega, okUp_s hv ((edgC_q h8 h9).trans (by omega))⟩, (by omega)⟩
    · replace h4 := of_decide_eq_false h4
      refine pwp_exit <| pwp_seq <| kx [(4, (vin 0))] [] (zM <| zZ) ?_
      refine pwp_ret ⟨_, (.tmp (d := (.val (.int .i64 (0)))) rfl .nil), ?_⟩
      rw [lop_end (k := k) h3 (by omega) hv]; rfl
theorem l_step (es : List REdge) (k : Int) (hb : es.length ≤ 1000000) (htk : Tok es) (hk : inE es k) : Takes Tryz.prog 76 [(.sl 56 6 (List.map encEdge es)), (.val (.int .i64 (k)))] (.tup [(.val (.int .i64 ((stF es k)))), (.val (.int .i64 ((stT es k)))), (encQuat (stQ es k)), (.val (.int .i64 (0)))]) := by
  have hk0 := hk
  unfold inE at hk
  refine fn_intro Tryz.func76 rfl cb76 rfl ?_
  show PWp _ _ _ _ ⟨[(0, (vl 56 6 encEdge es)), (1, (vi k))], []⟩
  refine pwp_seq <| kx [(6, (.ref 0 0))] [(0, some (bx (encQuat (RQuat.mk 0 0 0 0))))] (zM <| zM <| zN (oAl 0 ze28 zo28) <| zM <| zZ) ?_
  refine pwp_seq <| pwp_seq <| kx [(13, (vb (decide (0 ≤ k))))] [] (zM <| zE oGe <| zZ) ?_
  refine pwp_cond (b := decide (0 ≤ k)) rfl (fun h1 => ?_) (fun h1 => ?_)
  · replace h1 := of_decide_eq_true h1
    refine pwp_seq <| kx [(8, (.ref 1 0))] [(1, some (bx (encEdge (es.getD ((k).toNat) (REdge.mk 0 0 (RQuat.mk 0 0 0 0))))))] (zM <| zM <| zE (oXl el39 ((k).toNat) (REdge.mk 0 0 (RQuat.mk 0 0 0 0))) <| zE (oCa sh56) <| zN (oAl 1 ze56 zo56) <| zT (oSt sh56) <| zZ) ?_
    refine pwp_seq <| kd [(4, (vi ((es.getD ((k).toNat) (REdge.mk 0 0 (RQuat.mk 0 0 0 0))).fr))), (5, (vi ((es.getD ((k).toNat) (REdge.mk 0 0 (RQuat.mk 0 0 0 0))).to_))), (7, (vin 0))] [(0, some (bx (encQuat ((es.getD ((k).toNat) (REdge.mk 0 0 (RQuat.mk 0 0 0 0))).turn))))] mo (wE (oFr fo56_0) <| wR (oL1 sh3) <| wE (oFr fo56_1) <| wR (oL1 sh3) <| wE (oFr fo56_2) <| wR (oLa sh28) <| wM <| wM <| wT (oSt sh28) <| wM <| wZ) ?_
    refine pwp_ret ⟨_, (.tmp (d := (.val (.int .i64 ((es.getD ((k).toNat) (REdge.mk 0 0 (RQuat.mk 0 0 0 0))).fr)))) rfl (.tmp (d := (.val (.int .i64 ((es.getD ((k).toNat) (REdge.mk 0 0 (RQuat.mk 0 0 0 0))).to_)))) rfl (res_a (cs := (bx (encQuat ((es.getD ((k).toNat) (REdge.mk 0 0 (RQuat.mk 0 0 0 0))).turn)))) (d := (encQuat ((es.getD ((k).toNat) (REdge.mk 0 0 (RQuat.mk 0 0 0 0))).turn))) rfl rfl sh28 rfl rfl (.tmp (d := (.val (.int .i64 (0)))) rfl .nil)))), ?_⟩
    obtain ⟨q1, q2, q3⟩ := st_p (es := es) h1
    rw [q1, q2, q3]; rfl
  · replace h1 := of_decide_eq_false h1
    have hq := htk.at (k := (-1 - k).toNat) (by omega)
    refine pwp_skip <| pwp_seq <| kx [(9, (.ref 2 0))] [(2, some (bx (encEdge (es.getD ((-1 - k).toNat) (REdge.mk 0 0 (RQuat.mk 0 0 0 0))))))] (zM <| zM <| zE (oSb ((-1 - k).toNat) (hr := by exact (wAny (by first | omega | rfl | (dsimp only; omega)) (by simp only [kLo]; omega) (by simp only [kHi]; omega)))) <| zE (oXl el39 ((-1 - k).toNat) (REdge.mk 0 0 (RQuat.mk 0 0 0 0))) <| zE (oCa sh56) <| zN (oAl 2 ze56 zo56) <| zT (oSt sh56) <| zZ) ?_
    refine pwp_seq <| kx [(10, (.ref 3 0)), (11, (vin (qC (qcj ((es.getD ((-1 - k).toNat) (REdge.mk 0 0 (RQuat.mk 0 0 0 0))).turn)))))] [(3, some (bx (encQuat (qV (qcj ((es.getD ((-1 - k).toNat) (REdge.mk 0 0 (RQuat.mk 0 0 0 0))).turn))))))] (zE (oFr fo56_2) <| zR (oLa sh28) <| zE (oCl (l_conj ((es.getD ((-1 - k).toNat) (REdge.mk 0 0 (RQuat.mk 0 0 0 0))).turn) hq)) <| zM <| zE oEx <| zE oEx <| zN (oAl 3 ze28 zo28) <| zT (oSt sh28) <| zM <| zZ) ?_
    refine pwp_seq <| kd [(4, (vi ((es.getD ((-1 - k).toNat) (REdge.mk 0 0 (RQuat.mk 0 0 0 0))).to_))), (5, (vi ((es.getD ((-1 - k).toNat) (REdge.mk 0 0 (RQuat.mk 0 0 0 0))).fr))), (7, (vin (qC (qcj ((es.getD ((-1 - k).toNat) (REdge.mk 0 0 (RQuat.mk 0 0 0 0))).turn)))))] [(0, some (bx (encQuat (qV (qcj ((es.getD ((-1 - k).toNat) (REdge.mk 0 0 (RQuat.mk 0 0 0 0))).turn))))))] mo (wE (oFr fo56_1) <| wR (oL1 sh3) <| wE (oFr fo56_0) <| wR (oL1 sh3) <| wR (oLa sh28) <| wM <| wM <| wM <| wT (oSt sh28) <| wM <| wZ) ?_
    refine pwp_ret ⟨_, (.tmp (d := (.val (.int .i64 ((es.getD ((-1 - k).toNat) (REdge.mk 0 0 (RQuat.mk 0 0 0 0))).to_)))) rfl (.tmp (d := (.val (.int .i64 ((es.getD ((-1 - k).toNat) (REdge.mk 0 0 (RQuat.mk 0 0 0 0))).fr)))) rfl (res_a (cs := (bx (encQuat (qV (qcj ((es.getD ((-1 - k).toNat) (REdge.mk 0 0 (RQuat.mk 0 0 0 0))).turn)))))) (d := (encQuat (qV (qcj ((es.getD ((-1 - k).toNat) (REdge.mk 0 0 (RQuat.mk 0 0 0 0))).turn))))) rfl rfl sh28 rfl rfl (.tmp (d := (.val (.int .i64 ((((qC (qcj ((es.getD ((-1 - k).toNat) (REdge.mk 0 0 (RQuat.mk 0 0 0 0))).turn))) : Nat) : Int))))) rfl .nil)))), ?_⟩
    obtain ⟨q1, q2, q3⟩ := st_n (es := es) h1
    rw [q1, q2, q3, show qC (qcj (es.getD (-1 - k).toNat (REdge.mk 0 0 (RQuat.mk 0 0 0 0))).turn) = 0 from qC_cj hq]; rfl
end Go.Proofs.YtihgdjljnaekmaaGreat
namespace Go.Proofs.YtihgdjljnaekmaaGreat
open Go.Fid
set_option maxRecDepth 4000
set_option linter.unusedVariables false
set_option linter.unusedSimpArgs false
theorem cb77 : callB Tryz.prog 77 = true := by kernel_rfl
theorem cb87 : callB Tryz.prog 87 = true := by kernel_rfl
theorem sh39 : shapeB Tryz.prog 39 = some (false, 1) := by kernel_rfl
theorem l_one  : Takes Tryz.prog 87 [] (encQuat q1) := by
  refine fn_intro Tryz.func87 rfl cb87 rfl ?_
  show PWp _ _ _ _ ⟨[], []⟩
  refine pwp_seq <| kx [(0, (.ref 0 0))] [(0, some (bx (encQuat (RQuat.mk 0 0 0 0))))] (zN (oAl 0 ze28 zo28) <| zZ) ?_
  refine pwp_seq <| kx [] [(0, some (bx (encQuat (RQuat.mk 1 0 0 0))))] (zE (oBd pl28 ze28 zo28) <| zT (oSt sh28) <| zZ) ?_
  refine pwp_ret ⟨_, (res_a (cs := (bx (encQuat (RQuat.mk 1 0 0 0)))) (d := (encQuat (RQuat.mk 1 0 0 0))) rfl rfl sh28 rfl rfl .nil), ?_⟩
  rfl
theorem l_aro (es : List REdge) (tau : Nat) (ws : List Int) (hb : es.length ≤ 1000000) (hbw : ws.length ≤ 1000000) (htk : Tok es) (hw : wIn es ws) : Takes Tryz.prog 77 [(.sl 56 6 (List.map encEdge es)), (.sl tau 1 (List.map enc_i64 ws))] (.tup [(encQuat (aroV es ws)), (.val (.int .i64 ((((aroC es ws) : Nat) : Int))))]) := by
  refine fn_intro Tryz.func77 rfl cb77 rfl ?_
  show PWp _ _ _ _ ⟨[(0, (vl 56 6 encEdge es)), (1, (vl tau 1 enc_i64 ws))], []⟩
  refine pwp_seq <| kx [(4, (.ref 0 0))] [(0, some (bx (encQuat (RQuat.mk 0 0 0 0))))] (zN (oAl 0 ze28 zo28) <| zM <| zZ) ?_
  refine pwp_seq <| kx [(6, (.ref 1 0))] [(1, some (bx (encQuat q1)))] (zE (oCl l_one) <| zN (oAl 1 ze28 zo28) <| zT (oSt sh28) <| zZ) ?_
  refine pwp_seq <| pwp_seq <| kx [(14, (vl tau 1 enc_i64 ws)), (15, (vin ws.length)), (16, (vin 0))] [] (zM <| zE (oLm el60) <| zM <| zZ) ?_
  refine pwp_block <| pwp_loop (α := Nat) (fun k => ⟨[(0, (vl 56 6 encEdge es)), (4, (.ref 0 0)), (6, (.ref 1 0)), (14, (vl tau 1 enc_i64 ws)), (15, (vin ws.length)), (16, (vin k))], [(0, some (bx (encQuat (RQuat.mk 0 0 0 0)))), (1, some (bx (encQuat (arV es ws k))))]⟩) (fun k => k ≤ ws.length ∧ arUp es ws k) (fun k => ws.length - k) 0 wk ⟨Nat.zero_le _, arUp_0 _ _⟩ ?_
  rintro k ⟨hk, hv⟩
  refine pwp_seq <| kx [(17, (vb (decide (((k : Nat) : Int) < ((ws.length : Nat) : Int)))))] [] (zE oLt <| zZ) ?_
  refine pwp_seq <| pwp_cond rfl (fun h1 => ?_) (fun h1 => ?_)
  · replace h1 := of_decide_eq_true h1
    refine pwp_skip <| pwp_seq <| pwp_block <| pwp_seq <| kx [(8, (vi (ws.getD k 0)))] [] (zE (oXl el60 k (0 : Int)) <| zE (oC1 sh3) <| zM <| zZ) ?_
    refine pwp_seq <| kx [(11, (.ref 2 0)), (12, (vi 0))] [(2, some (bx (encQuat (stQ es (ws.getD k 0)))))] (zM <| zM <| zE (oCl (l_step es (ws.getD k 0) hb htk (wIn_at hw (by omega)))) <| zM <| zE oEx <| zE oEx <| zE oEx <| zE oEx <| zN (oAl 2 ze28 zo28) <| zM <| zM <| zT (oSt sh28) <| zM <| zZ) ?_
    refine pwp_seq <| pwp_seq <| kx [(29, (vb true))] [] (zM <| zE (oBk true oEq) <| zZ) ?_
    refine pwp_cond (b := true) (by kernel_rfl) (fun _ => ?_) (fun h => by cases h)
    refine kx [(12, (vin (qC (qmul (stQ es (ws.getD k 0)) (arV es ws k)))))] [(1, some (bx (encQuat (qV (qmul (stQ es (ws.getD k 0)) (arV es ws k))))))] (zR (oLa sh28) <| zR (oLa sh28) <| zE (oCl (l_mul (stQ es (ws.getD k 0)) (arV es ws k) (stQ_ok htk (wIn_at hw (by omega))) (arV_ok htk hw (by omega) hv))) <| zM <| zE oEx <| zE oEx <| zT (oSt sh28) <| zM <| zZ) ?_
    refine pwp_seq <| kx [(37, (vb ((((qC (qmul (stQ es (ws.getD k 0)) (arV es ws k))) : Nat) : Int) != ((0 : Nat) : Int))))] [] (zM <| zE oNe <| zZ) ?_
    refine pwp_cond rfl (fun h2 => ?_) (fun h2 => ?_)
    · replace h2 := bne_iff_ne.1 h2
      refine pwp_seq <| kx [(5, (vin (qC (qmul (stQ es (ws.getD k 0)) (arV es ws k)))))] [(0, some (bx (encQuat (RQuat.mk 0 0 0 0))))] (zE (oBd pl28 ze28 zo28) <| zM <| zT (oSt sh28) <| zM <| zZ) ?_
      refine pwp_ret ⟨_, (res_a (cs := (bx (encQuat (RQuat.mk 0 0 0 0)))) (d := (encQuat (RQuat.mk 0 0 0 0))) rfl rfl sh28 rfl rfl (.tmp (d := (.val (.int .i64 ((((qC (qmul (stQ es (ws.getD k 0)) (arV es ws k))) : Nat) : Int))))) rfl .nil)), ?_⟩
      obtain ⟨q1, q2, q3⟩ := aro_no (k := k) (by omega) (rot_ne h2)
      rw [q1, q2, show qC (qmul (stQ es (ws.getD k 0)) (arV es ws k)) = 3 from q3]; rfl
    · replace h2 := bne_eq_false_iff_eq.1 h2
      refine pwp_skip <| kx [(16, (vin (k + 1)))] [] (zE (oAd (k + 1)) <| zM <| zZ) ?_
      exact ⟨(k + 1), wk, ⟨by omega, arUp_s hv (show qC _ = 0 by omega)⟩, (by omega)⟩
  · replace h1 := of_decide_eq_false h1
    refine pwp_exit <| pwp_seq <| kx [(5, (vin 0))] [(0, some (bx (encQuat (arV es ws k))))] (zR (oLa sh28) <| zT (oSt sh28) <| zM <| zZ) ?_
    refine pwp_ret ⟨_, (res_a (cs := (bx (encQuat (arV es ws k)))) (d := (encQuat (arV es ws k))) rfl rfl sh28 rfl rfl (.tmp (d := (.val (.int .i64 (((0 : Nat) : Int))))) rfl .nil)), ?_⟩
    obtain ⟨q1, q2⟩ := aro_yes (by omega) hv
    rw [q1, q2]; rfl
end Go.Proofs.YtihgdjljnaekmaaGreat
namespace Go.Proofs.YtihgdjljnaekmaaGreat
open Go.Fid
set_option maxRecDepth 4000
set_option linter.unusedVariables false
set_option linter.unusedSimpArgs false
theorem cb31 : callB Tryz.prog 31 = true := by kernel_rfl
theorem l_arn (n : Int) (es : List REdge) (ws : List Int) (hb : es.length ≤ 1000000) (hbw : ws.length ≤ 1000000) : Takes Tryz.prog 31 [(.val (.int .i64 (n))), (.sl 56 6 (List.map encEdge es)), (.sl 3 1 (List.map enc_i64 ws))] (.tup [(encQuat (arnV n es ws)), (.val (.int .i64 ((((arnC n es ws) : Nat) : Int))))]) := by
  refine fn_intro Tryz.func31 rfl cb31 rfl ?_
  show PWp _ _ _ _ ⟨[(0, (vi n)), (1, (vl 56 6 encEdge es)), (2, (vl 3 1 enc_i64 ws))], []⟩
  refine pwp_seq <| kx [(6, (.ref 0 0))] [(0, some (bx (encQuat (RQuat.mk 0 0 0 0))))] (zN (oAl 0 ze28 zo28) <| zM <| zZ) ?_
  refine pwp_seq <| pwp_seq <| kx [(8, (vin (lopC n es)))] [] (zM <| zM <| zE (oCl (l_check n es hb)) <| zM <| zZ) ?_
  refine pwp_seq <| kx [(25, (vb ((((lopC n es) : Nat) : Int) != 0)))] [] (zM <| zE oNe <| zZ) ?_
  refine pwp_cond (b := ((((lopC n es) : Nat) : Int) != 0)) rfl (fun h1 => ?_) (fun h1 => ?_)
  · replace h1 := bne_iff_ne.1 h1
    refine pwp_seq <| kx [(7, (vin (lopC n es)))] [(0, some (bx (encQuat (RQuat.mk 0 0 0 0))))] (zE (oBd pl28 ze28 zo28) <| zM <| zT (oSt sh28) <| zM <| zZ) ?_
    refine pwp_ret ⟨_, (res_a (cs := (bx (encQuat (RQuat.mk 0 0 0 0)))) (d := (encQuat (RQuat.mk 0 0 0 0))) rfl rfl sh28 rfl rfl (.tmp (d := (.val (.int .i64 ((((lopC n es) : Nat) : Int))))) rfl .nil)), ?_⟩
    obtain ⟨q1, q2⟩ := arn_n (ws := ws) (rot_ne h1)
    rw [q1, q2]; rfl
  · replace h1 := bne_eq_false_iff_eq.1 h1
    have hc0 : lopC n es = 0 := by omega
    obtain ⟨_, _, hl2, heo⟩ := lopC_0 hc0
    have htk := heo.tok
    refine pwp_skip <| pwp_seq <| pwp_seq <| kx [(30, (vb (decide (256 < ((ws.length : Nat) : Int)))))] [] (zM <| zE (oLm el60) <| zE oGt <| zZ) ?_
    refine pwp_cond (b := decide (256 < ((ws.length : Nat) : Int))) rfl (fun h2 => ?_) (fun h2 => ?_)
    · replace h2 := of_decide_eq_true h2
      refine pwp_seq <| kx [(7, (vin 9))] [(0, some (bx (encQuat (RQuat.mk 0 0 0 0))))] (zE (oBd pl28 ze28 zo28) <| zT (oSt sh28) <| zM <| zZ) ?_
      refine pwp_ret ⟨_, (res_a (cs := (bx (encQuat (RQuat.mk 0 0 0 0)))) (d := (encQuat (RQuat.mk 0 0 0 0))) rfl rfl sh28 rfl rfl (.tmp (d := (.val (.int .i64 (9)))) rfl .nil)), ?_⟩
      obtain ⟨q1, q2⟩ := arn_0 (ws := ws) hc0
      obtain ⟨q3, q4⟩ := ard_9 (es := es) (ws := ws) (by omega)
      rw [q1, q2, q3, q4]; rfl
    · replace h2 := of_decide_eq_false h2
      refine pwp_skip <| pwp_seq <| pwp_seq <| kx [(32, (vl 3 1 enc_i64 ws)), (33, (vin ws.length)), (34, (vin 0))] [] (zM <| zE (oLm el60) <| zM <| zZ) ?_
      refine pwp_block <| pwp_loop (α := Nat) (fun m => ⟨[(1, (vl 56 6 encEdge es)), (2, (vl 3 1 enc_i64 ws)), (6, (.ref 0 0)), (32, (vl 3 1 enc_i64 ws)), (33, (vin ws.length)), (34, (vin m))], [(0, some (bx (encQuat (RQuat.mk 0 0 0 0))))]⟩) (fun m => m ≤ ws.length ∧ inUp es ws m) (fun m => ws.length - m) 0 wk ⟨Nat.zero_le _, fun i hi => by omega⟩ ?_
      rintro m ⟨hm, hvinUp⟩
      refine pwp_seq <| kx [(35, (vb (decide (((m : Nat) : Int) < ((ws.length : Nat) : Int)))))] [] (zE oLt <| zZ) ?_
      refine pwp_seq <| pwp_cond rfl (fun h3 => ?_) (fun h3 => ?_)
      · replace h3 := of_decide_eq_true h3
        refine pwp_skip <| pwp_seq <| pwp_block <| pwp_seq <| kx [(10, (vi (ws.getD m 0)))] [] (zE (oXl el60 m (0 : Int)) <| zE (oC1 sh3) <| zM <| zZ) ?_
        refine pwp_seq <| kx [(48, (vb (decide (((es.length : Nat) : Int) ≤ (ws.getD m 0)) || decide ((ws.getD m 0) < -((es.length : Nat) : Int)))))] [] ?_ ?_
        · refine zM <| zM <| zE (oLm el39) <| zE oGe <| zE (oV (vb (decide (((es.length : Nat) : Int) ≤ (ws.getD m 0)))) (mv_ok (by kernel_rfl))) <| ?_
          rcases hb4 : (decide (((es.length : Nat) : Int) ≤ (ws.getD m 0))) with _ | _
          · replace hb4 := of_decide_eq_false hb4
            exact zM <| zM <| zE (oLm el39) <| zE (oNg (-((es.length : Nat) : Int)) (hr := by exact (wAny (by first | omega | rfl | (dsimp only; omega)) (by simp only [kLo]; omega) (by simp only [kHi]; omega)))) <| zE oLt <| zE oPo <| zZ
          · replace hb4 := of_decide_eq_true hb4
            exact zK <| zK <| zK <| zK <| zK <| zE oPt <| zZ
        refine pwp_cond rfl (fun h5 => ?_) (fun h5 => ?_)
        · refine pwp_seq <| kx [(7, (vin 2))] [(0, some (bx (encQuat (RQuat.mk 0 0 0 0))))] (zE (oBd pl28 ze28 zo28) <| zT (oSt sh28) <| zM <| zZ) ?_
          refine pwp_ret ⟨_, (res_a (cs := (bx (encQuat (RQuat.mk 0 0 0 0)))) (d := (encQuat (RQuat.mk 0 0 0 0))) rfl rfl sh28 rfl rfl (.tmp (d := (.val (.int .i64 (2)))) rfl .nil)), ?_⟩
          obtain ⟨q1, q2⟩ := arn_0 (ws := ws) hc0
          obtain ⟨q3, q4⟩ := ard_2 (by omega) (inUp_no (k := m) (by omega) (exB_t h5))
          rw [q1, q2, q3, q4]; rfl
        · refine pwp_skip <| kx [(34, (vin (m + 1)))] [] (zE (oAd (m + 1)) <| zM <| zZ) ?_
          exact ⟨(m + 1), wk, ⟨by omega, inUp_s hvinUp (exB_f h5)⟩, (by omega)⟩
      · replace h3 := of_decide_eq_false h3
        have hw := inUp_end (by omega) hvinUp
        refine pwp_exit <| pwp_seq <| pwp_seq <| kx [(51, (vl 3 1 enc_i64 ws)), (52, (vin ws.length)), (53, (vin 0))] [] (zM <| zE (oLm el60) <| zM <| zZ) ?_
        refine pwp_block <| pwp_loop (α := Nat) (fun m => ⟨[(1, (vl 56 6 encEdge es)), (2, (vl 3 1 enc_i64 ws)), (6, (.ref 0 0)), (51, (vl 3 1 enc_i64 ws)), (52, (vin ws.length)), (53, (vin m))], [(0, some (bx (encQuat (RQuat.mk 0 0 0 0))))]⟩) (fun m => m ≤ ws.length ∧ cbUp es ws m) (fun m => ws.length - m) 0 wk ⟨Nat.zero_le _, fun i hi => by omega⟩ ?_
        rintro m ⟨hm, hvcbUp⟩
        refine pwp_seq <| kx [(54, (vb (decide (((m : Nat) : Int) < ((ws.length : Nat) : Int)))))] [] (zE oLt <| zZ) ?_
        refine pwp_seq <| pwp_cond rfl (fun h6 => ?_) (fun h6 => ?_)
        · replace h6 := of_decide_eq_true h6
          refine pwp_skip <| pwp_seq <| pwp_block <| pwp_seq <| kx [(11, (vin m)), (12, (vi (ws.getD m 0)))] [] (zM <| zE (oXl el60 m (0 : Int)) <| zE (oC1 sh3) <| zM <| zM <| zZ) ?_
          refine pwp_seq <| kx [(13, (vi (stF es (ws.getD m 0))))] [(1, none)] (zM <| zM <| zE (oCl (l_step es (ws.getD m 0) hb htk (wIn_at hw (by omega)))) <| zM <| zE oEx <| zE oEx <| zE oEx <| zE oEx <| zN (oAl 1 ze28 zo28) <| zM <| zM <| zT (oSt sh28) <| zM <| zZ) ?_
          refine pwp_seq <| kx [(18, (vi (stT es (ws.getD ((m + ws.length - 1) % ws.length) 0))))] [(2, none)] (zM <| zM <| zM <| zM <| zE (oLm el60) <| zE (oAd (m + ws.length)) <| zE (oSb (m + ws.length - 1)) <| zM <| zE (oLm el60) <| zE (oRe ((m + ws.length - 1) % ws.length)) <| zE (oXl el60 ((m + ws.length - 1) % ws.length) (0 : Int) (hj := by first | omega | exact Nat.mod_lt _ (by omega)) (h1 := by first | omega | exact Nat.mod_lt _ (by omega))) <| zE (oC1 sh3) <| zE (oCl (l_step es (ws.getD ((m + ws.length - 1) % ws.length) 0) hb htk (wIn_at hw (Nat.mod_lt _ (by omega))))) <| zM <| zE oEx <| zE oEx <| zE oEx <| zE oEx <| zN (oAl 2 ze28 zo28) <| zM <| zM <| zT (oSt sh28) <| zM <| zZ) ?_
          refine pwp_seq <| kx [(86, (vb ((stF es (ws.getD m 0)) != (stT es (ws.getD ((m + ws.length - 1) % ws.length) 0)))))] [] (zM <| zM <| zE oNe <| zZ) ?_
          refine pwp_cond rfl (fun h7 => ?_) (fun h7 => ?_)
          · replace h7 := bne_iff_ne.1 h7
            refine pwp_seq <| kx [(7, (vin 5))] [(0, some (bx (encQuat (RQuat.mk 0 0 0 0))))] (zE (oBd pl28 ze28 zo28) <| zT (oSt sh28) <| zM <| zZ) ?_
            refine pwp_ret ⟨_, (res_a (cs := (bx (encQuat (RQuat.mk 0 0 0 0)))) (d := (encQuat (RQuat.mk 0 0 0 0))) rfl rfl sh28 rfl rfl (.tmp (d := (.val (.int .i64 (5)))) rfl .nil)), ?_⟩
            obtain ⟨q1, q2⟩ := arn_0 (ws := ws) hc0
            obtain ⟨q3, q4⟩ := ard_5 (by omega) hw (cb_no (k := m) (by omega) h7)
            rw [q1, q2, q3, q4]; rfl
          · replace h7 := bne_eq_false_iff_eq.1 h7
            refine pwp_skip <| kx [(53, (vin (m + 1)))] [] (zE (oAd (m + 1)) <| zM <| zZ) ?_
            exact ⟨(m + 1), wk, ⟨by omega, up_s hvcbUp h7⟩, (by omega)⟩
        · replace h6 := of_decide_eq_false h6
          refine pwp_exit <| pwp_seq <| kx [(7, (vin (aroC es ws)))] [(0, some (bx (encQuat (aroV es ws))))] (zM <| zM <| zE (oCl (l_aro es 3 ws hb hbw htk hw)) <| zE oEx <| zE oEx <| zT (oSt sh28) <| zM <| zZ) ?_
          refine pwp_ret ⟨_, (res_a (cs := (bx (encQuat (aroV es ws)))) (d := (encQuat (aroV es ws))) rfl rfl sh28 rfl rfl (.tmp (d := (.val (.int .i64 ((((aroC es ws) : Nat) : Int))))) rfl .nil)), ?_⟩
          obtain ⟨q1, q2⟩ := arn_0 (ws := ws) hc0
          obtain ⟨q3, q4⟩ := ard_y (by omega) hw (clP_back.2 (fun i hi => hvcbUp i (by omega)))
          rw [q1, q2, q3, q4]; rfl
end Go.Proofs.YtihgdjljnaekmaaGreat
set_option linter.unusedVariables false
set_option linter.unusedSimpArgs false
namespace Go.Fid
def jnB (p q a b : Int) : Bool := ((p == a) && (q == b)) || ((p == b) && (q == a))
def hsB (p q a : Int) : Bool := (p == a) || (q == a)
def alI (p node k : Int) : Int := if p = node then k else -1 - k
def pTr (a b p q r s : Int) : Bool :=
  if jnB p q a b = true then false else if hsB p q b = true then jnB r s (a + b - b) (p + q - b) else if hsB p q a = true then jnB r s (a + b - a) (p + q - a) else false
def pWk (a b p q r s j k : Int) : Int × Int :=
  if hsB p q b = true then (alI p b j, alI r (p + q - b) k) else (alI r b k, alI p (p + q - a) j)
def trB (es : List REdge) (i j k : Nat) : Bool := pTr (es.getD i e0).fr (es.getD i e0).to_ (es.getD j e0).fr (es.getD j e0).to_ (es.getD k e0).fr (es.getD k e0).to_
def wkP (es : List REdge) (i j k : Nat) : Int × Int := pWk (es.getD i e0).fr (es.getD i e0).to_ (es.getD j e0).fr (es.getD j e0).to_ (es.getD k e0).fr (es.getD k e0).to_ ((j : Nat) : Int) ((k : Nat) : Int)
theorem bn_t {b : Bool} (h : (!b) = true) : b = false := by simpa using h
theorem bn_f {b : Bool} (h : (!b) = false) : b = true := by simpa using h
theorem t_push {α β : Type} {f : α → β} {L : List α} {out : List β} {x : α} {y : β} (h : out = List.map f L) (e : y = f x) : out ++ [y] = List.map f (L ++ [x]) := by rw [h, e, List.map_append]; rfl
abbrev T3 := Nat × Nat × Nat
def tIn (es : List REdge) (i j K : Nat) : List T3 := ((List.range K).filter fun m => decide (j < m) && trB es i j m).map fun m => (i, j, m)
def tMid (es : List REdge) (i J : Nat) : List T3 := (List.range J).flatMap fun m => if i < m then tIn es i m es.length else []
def tAll (es : List REdge) (I : Nat) : List T3 := (List.range I).flatMap fun m => tMid es m es.length
def tris (es : List REdge) : List T3 := tAll es es.length
theorem tIn_0 (es : List REdge) (i j : Nat) : tIn es i j (j + 1) = [] := by
  unfold tIn
  rw [List.map_eq_nil_iff, List.filter_eq_nil_iff]
  intro m hm
  simp at hm ⊢; intro h; omega
theorem tIn_y {es : List REdge} {i j K : Nat} (h : j < K) (hb : trB es i j K = true) : tIn es i j (K + 1) = tIn es i j K ++ [(i, j, K)] := by
  unfold tIn
  rw [List.range_succ, List.filter_append, List.map_append]
  simp [h, hb]
theorem tIn_n {es : List REdge} {i j K : Nat} (hb : trB es i j K = false) : tIn es i j (K + 1) = tIn es i j K := by
  unfold tIn
  rw [List.range_succ, List.filter_append, List.map_append]
  simp [hb]
theorem tIn_nil {es : List REdge} {i j K : Nat} (h : ∀ m, trB es i j m = false) : tIn es i j K = [] := by
  unfold tIn
  rw [List.map_eq_nil_iff, List.filter_eq_nil_iff]
  intro m hm; simp [h m]
theorem tMid_0 (es : List REdge) (i : Nat) : tMid es i (i + 1) = [] := by
  unfold tMid
  rw [List.flatMap_eq_nil_iff]
  intro m hm
  rw [if_neg]; simp at hm; omega
theorem tMid_s {es : List REdge} {i J : Nat} (h : i < J) : tMid es i (J + 1) = tMid es i J ++ tIn es i J es.length := by
  unfold tMid
  rw [List.range_succ, List.flatMap_append]
  simp [h]
theorem tAll_s (es : List REdge) (I : Nat) : tAll es (I + 1) = tAll es I ++ tMid es I es.length := by
  unfold tAll
  rw [List.range_succ, List.flatMap_append]; simp
theorem tIn_len (es : List REdge) (i j K : Nat) : (tIn es i j K).length ≤ K := by
  unfold tIn
  rw [List.length_map]
  exact Nat.le_trans (List.length_filter_le _ _) (by simp)
theorem tMid_len (es : List REdge) (i : Nat) : ∀ J, (tMid es i J).length ≤ J * es.length
  | 0 => by simp [tMid]
  | J + 1 => by
    have ih := tMid_len es i J
    have h1 := tIn_len es i J es.length
    unfold tMid at ih ⊢
    rw [List.range_succ, List.flatMap_append, List.length_append, Nat.add_mul]
    have : (if i < J then tIn es i J es.length else []).length ≤ es.length := by
      by_cases h : i < J
      · simp only [h, if_true]; exact h1
      · simp only [h, if_false]; simp
    simp only [List.flatMap_cons, List.flatMap_nil, List.append_nil]
    omega
theorem tAll_len (es : List REdge) : ∀ I, (tAll es I).length ≤ I * (es.length * es.length)
  | 0 => by simp [tAll]
  | I + 1 => by
    have ih := tAll_len es I
    have h1 := tMid_len es I es.length
    rw [tAll_s, List.length_append, Nat.add_mul]; omega
theorem t_room {es : List REdge} {i j k : Nat} (h : es.length ≤ 256) (hi : i ≤ es.length) (hj : j ≤ es.length) (hk : k ≤ es.length) : (tAll es i ++ tMid es i j ++ tIn es i j k).length ≤ 20000000 := by
  have h1 := tAll_len es i
  have h2 := tMid_len es i j
  have h3 := tIn_len es i j k
  have a1 : es.length * es.length ≤ 256 * 256 := Nat.mul_le_mul h h
  have a2 : i * (es.length * es.length) ≤ 256 * (256 * 256) := Nat.mul_le_mul (by omega) a1
  have a3 : j * es.length ≤ 256 * 256 := Nat.mul_le_mul (by omega) h
  simp only [List.length_append]
  omega
theorem trA {es : List REdge} {i j k : Nat} (h1 : jnB (es.getD j e0).fr (es.getD j e0).to_ (es.getD i e0).fr (es.getD i e0).to_ = false) (h2 : hsB (es.getD j e0).fr (es.getD j e0).to_ (es.getD i e0).to_ = true) :
    trB es i j k = jnB (es.getD k e0).fr (es.getD k e0).to_ ((es.getD i e0).fr + (es.getD i e0).to_ - (es.getD i e0).to_) ((es.getD j e0).fr + (es.getD j e0).to_ - (es.getD i e0).to_) ∧
      wkP es i j k = (alI (es.getD j e0).fr (es.getD i e0).to_ ((j : Nat) : Int), alI (es.getD k e0).fr ((es.getD j e0).fr + (es.getD j e0).to_ - (es.getD i e0).to_) ((k : Nat) : Int)) := by
  unfold trB pTr wkP pWk
  rw [h1, h2]; exact ⟨rfl, rfl⟩
theorem trC {es : List REdge} {i j k : Nat} (h1 : jnB (es.getD j e0).fr (es.getD j e0).to_ (es.getD i e0).fr (es.getD i e0).to_ = false) (h2 : hsB (es.getD j e0).fr (es.getD j e0).to_ (es.getD i e0).to_ = false) (h3 : hsB (es.getD j e0).fr (es.getD j e0).to_ (es.getD i e0).fr = true) :
    trB es i j k = jnB (es.getD k e0).fr (es.getD k e0).to_ ((es.getD i e0).fr + (es.getD i e0).to_ - (es.getD i e0).fr) ((es.getD j e0).fr + (es.getD j e0).to_ - (es.getD i e0).fr) ∧
      wkP es i j k = (alI (es.getD k e0).fr (es.getD i e0).to_ ((k : Nat) : Int), alI (es.getD j e0).fr ((es.getD j e0).fr + (es.getD j e0).to_ - (es.getD i e0).fr) ((j : Nat) : Int)) := by
  unfold trB pTr wkP pWk
  rw [h1, h2, h3]; exact ⟨rfl, rfl⟩
theorem trN1 {es : List REdge} {i j k : Nat} (h1 : jnB (es.getD j e0).fr (es.getD j e0).to_ (es.getD i e0).fr (es.getD i e0).to_ = true) : trB es i j k = false := by
  unfold trB pTr; rw [h1]; rfl
theorem trN2 {es : List REdge} {i j k : Nat} (h2 : hsB (es.getD j e0).fr (es.getD j e0).to_ (es.getD i e0).to_ = false) (h3 : hsB (es.getD j e0).fr (es.getD j e0).to_ (es.getD i e0).fr = false) : trB es i j k = false := by
  unfold trB pTr; rw [h2, h3]; split <;> rfl
end Go.Fid
