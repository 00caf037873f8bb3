/- Part 30 of a proof: rules, plain facts, and functions walked. -/
import Derived.Test.YtihgdjljnaekmaaGreatM29
import Derived.Test.YtihgdjljnaekmaaGreatM22
namespace Go.Proofs.YtihgdjljnaekmaaGreat
open Go.Fid
set_option maxRecDepth 4000
set_option linter.unusedVariables false
set_option linter.unusedSimpArgs false
theorem cb30 : callB Tryz.prog 30 = true := by kernel_rfl
theorem cb31 : callB Tryz.prog 31 = true := by kernel_rfl
theorem l_arn (n : Int) (es : List REdge) (ws : List Int) (hb : es.length ≤ 1000000) (hbw : ws.length ≤ 1000000) : Takes Tryz.prog 31 [(.val (.int .i64 (n))), (.sl 56 6 (List.map encEdge es)), (.sl 3 1 (List.map enc_i64 ws))] (.tup [(encQuat (arnV n es ws)), (.val (.int .i64 ((((arnC n es ws) : Nat) : Int))))]) := by
  refine fn_intro Tryz.func31 rfl cb31 rfl ?_
  show PWp _ _ _ _ ⟨[(0, (vi n)), (1, (vl 56 6 encEdge es)), (2, (vl 3 1 enc_i64 ws))], []⟩
  refine pwp_seq <| kx [(6, (.ref 0 0))] [(0, some (bx (encQuat (RQuat.mk 0 0 0 0))))] (zN (oAl 0 ze28 zo28) <| zM <| zZ) ?_
  refine pwp_seq <| pwp_seq <| kx [(8, (vin (lopC n es)))] [] (zM <| zM <| zE (oCl (l_check n es hb)) <| zM <| zZ) ?_
  refine pwp_seq <| kx [(25, (vb ((((lopC n es) : Nat) : Int) != 0)))] [] (zM <| zE oNe <| zZ) ?_
  refine pwp_cond (b := ((((lopC n es) : Nat) : Int) != 0)) rfl (fun h1 => ?_) (fun h1 => ?_)
  · replace h1 := bne_iff_ne.1 h1
    refine pwp_seq <| kx [(7, (vin (lopC n es)))] [(0, some (bx (encQuat (RQuat.mk 0 0 0 0))))] (zE (oBd pl28 ze28 zo28) <| zM <| zT (oSt sh28) <| zM <| zZ) ?_
    refine pwp_ret ⟨_, (res_a (cs := (bx (encQuat (RQuat.mk 0 0 0 0)))) (d := (encQuat (RQuat.mk 0 0 0 0))) rfl rfl sh28 rfl rfl (.tmp (d := (.val (.int .i64 ((((lopC n es) : Nat) : Int))))) rfl .nil)), ?_⟩
    obtain ⟨q1, q2⟩ := arn_n (ws := ws) (rot_ne h1)
    rw [q1, q2]; rfl
  · replace h1 := bne_eq_false_iff_eq.1 h1
    have hc0 : lopC n es = 0 := by omega
    obtain ⟨_, _, hl2, heo⟩ := lopC_0 hc0
    have htk := heo.tok
    refine pwp_skip <| pwp_seq <| pwp_seq <| kx [(30, (vb (decide (256 < ((ws.length : Nat) : Int)))))] [] (zM <| zE (oLm el60) <| zE oGt <| zZ) ?_
    refine pwp_cond (b := decide (256 < ((ws.length : Nat) : Int))) rfl (fun h2 => ?_) (fun h2 => ?_)
    · replace h2 := of_decide_eq_true h2
      refine pwp_seq <| kx [(7, (vin 9))] [(0, some (bx (encQuat (RQuat.mk 0 0 0 0))))] (zE (oBd pl28 ze28 zo28) <| zT (oSt sh28) <| zM <| zZ) ?_
      refine pwp_ret ⟨_, (res_a (cs := (bx (encQuat (RQuat.mk 0 0 0 0)))) (d := (encQuat (RQuat.mk 0 0 0 0))) rfl rfl sh28 rfl rfl (.tmp (d := (.val (.int .i64 (9)))) rfl .nil)), ?_⟩
      obtain ⟨q1, q2⟩ := arn_0 (ws := ws) hc0
      obtain ⟨q3, q4⟩ := ard_9 (es := es) (ws := ws) (by omega)
      rw [q1, q2, q3, q4]; rfl
    · replace h2 := of_decide_eq_false h2
      refine pwp_skip <| pwp_seq <| pwp_seq <| kx [(32, (vl 3 1 enc_i64 ws)), (33, (vin ws.length)), (34, (vin 0))] [] (zM <| zE (oLm el60) <| zM <| zZ) ?_
      refine pwp_block <| pwp_loop (α := Nat) (fun m => ⟨[(1, (vl 56 6 encEdge es)), (2, (vl 3 1 enc_i64 ws)), (6, (.ref 0 0)), (32, (vl 3 1 enc_i64 ws)), (33, (vin ws.length)), (34, (vin m))], [(0, some (bx (encQuat (RQuat.mk 0 0 0 0))))]⟩) (fun m => m ≤ ws.length ∧ inUp es ws m) (fun m => ws.length - m) 0 wk ⟨Nat.zero_le _, fun i hi => by omega⟩ ?_
      rintro m ⟨hm, hvinUp⟩
      refine pwp_seq <| kx [(35, (vb (decide (((m : Nat) : Int) < ((ws.length : Nat) : Int)))))] [] (zE oLt <| zZ) ?_
      refine pwp_seq <| pwp_cond rfl (fun h3 => ?_) (fun h3 => ?_)
      · replace h3 := of_decide_eq_true h3
        refine pwp_skip <| pwp_seq <| pwp_block <| pwp_seq <| kx [(10, (vi (ws.getD m 0)))] [] (zE (oXl el60 m (0 : Int)) <| zE (oC1 sh3) <| zM <| zZ) ?_
        refine pwp_seq <| kx [(48, (vb (decide (((es.length : Nat) : Int) ≤ (ws.getD m 0)) || decide ((ws.getD m 0) < -((es.length : Nat) : Int)))))] [] ?_ ?_
        · refine zM <| zM <| zE (oLm el39) <| zE oGe <| zE (oV (vb (decide (((es.length : Nat) : Int) ≤ (ws.getD m 0)))) (mv_ok (by kernel_rfl))) <| ?_
          rcases hb4 : (decide (((es.length : Nat) : Int) ≤ (ws.getD m 0))) with _ | _
          · replace hb4 := of_decide_eq_false hb4
            exact zM <| zM <| zE (oLm el39) <| zE (oNg (-((es.length : Nat) : Int)) (hr := by exact (wAny (by first | omega | rfl | (dsimp only; omega)) (by simp only [kLo]; omega) (by simp only [kHi]; omega)))) <| zE oLt <| zE oPo <| zZ
          · replace hb4 := of_decide_eq_true hb4
            exact zK <| zK <| zK <| zK <| zK <| zE oPt <| zZ
        refine pwp_cond rfl (fun h5 => ?_) (fun h5 => ?_)
        · refine pwp_seq <| kx [(7, (vin 2))] [(0, some (bx (encQuat (RQuat.mk 0 0 0 0))))] (zE (oBd pl28 ze28 zo28) <| zT (oSt sh28) <| zM <| zZ) ?_
          refine pwp_ret ⟨_, (res_a (cs := (bx (encQuat (RQuat.mk 0 0 0 0)))) (d := (encQuat (RQuat.mk 0 0 0 0))) rfl rfl sh28 rfl rfl (.tmp (d := (.val (.int .i64 (2)))) rfl .nil)), ?_⟩
          obtain ⟨q1, q2⟩ := arn_0 (ws := ws) hc0
          obtain ⟨q3, q4⟩ := ard_2 (by omega) (inUp_no (k := m) (by omega) (exB_t h5))
          rw [q1, q2, q3, q4]; rfl
        · refine pwp_skip <| kx [(34, (vin (m + 1)))] [] (zE (oAd (m + 1)) <| zM <| zZ) ?_
          exact ⟨(m + 1), wk, ⟨by omega, inUp_s hvinUp (exB_f h5)⟩, (by omega)⟩
      · replace h3 := of_decide_eq_false h3
        have hw := inUp_end (by omega) hvinUp
        refine pwp_exit <| pwp_seq <| pwp_seq <| kx [(51, (vl 3 1 enc_i64 ws)), (52, (vin ws.length)), (53, (vin 0))] [] (zM <| zE (oLm el60) <| zM <| zZ) ?_
        refine pwp_block <| pwp_loop (α := Nat) (fun m => ⟨[(1, (vl 56 6 encEdge es)), (2, (vl 3 1 enc_i64 ws)), (6, (.ref 0 0)), (51, (vl 3 1 enc_i64 ws)), (52, (vin ws.length)), (53, (vin m))], [(0, some (bx (encQuat (RQuat.mk 0 0 0 0))))]⟩) (fun m => m ≤ ws.length ∧ cbUp es ws m) (fun m => ws.length - m) 0 wk ⟨Nat.zero_le _, fun i hi => by omega⟩ ?_
        rintro m ⟨hm, hvcbUp⟩
        refine pwp_seq <| kx [(54, (vb (decide (((m : Nat) : Int) < ((ws.length : Nat) : Int)))))] [] (zE oLt <| zZ) ?_
        refine pwp_seq <| pwp_cond rfl (fun h6 => ?_) (fun h6 => ?_)
        · replace h6 := of_decide_eq_true h6
          refine pwp_skip <| pwp_seq <| pwp_block <| pwp_seq <| kx [(11, (vin m)), (12, (vi (ws.getD m 0)))] [] (zM <| zE (oXl el60 m (0 : Int)) <| zE (oC1 sh3) <| zM <| zM <| zZ) ?_
          refine pwp_seq <| kx [(13, (vi (stF es (ws.getD m 0))))] [(1, none)] (zM <| zM <| zE (oCl (l_step es (ws.getD m 0) hb htk (wIn_at hw (by omega)))) <| zM <| zE oEx <| zE oEx <| zE oEx <| zE oEx <| zN (oAl 1 ze28 zo28) <| zM <| zM <| zT (oSt sh28) <| zM <| zZ) ?_
          refine pwp_seq <| kx [(18, (vi (stT es (ws.getD ((m + ws.length - 1) % ws.length) 0))))] [(2, none)] (zM <| zM <| zM <| zM <| zE (oLm el60) <| zE (oAd (m + ws.length)) <| zE (oSb (m + ws.length - 1)) <| zM <| zE (oLm el60) <| zE (oRe ((m + ws.length - 1) % ws.length)) <| zE (oXl el60 ((m + ws.length - 1) % ws.length) (0 : Int) (hj := by first | omega | exact Nat.mod_lt _ (by omega)) (h1 := by first | omega | exact Nat.mod_lt _ (by omega))) <| zE (oC1 sh3) <| zE (oCl (l_step es (ws.getD ((m + ws.length - 1) % ws.length) 0) hb htk (wIn_at hw (Nat.mod_lt _ (by omega))))) <| zM <| zE oEx <| zE oEx <| zE oEx <| zE oEx <| zN (oAl 2 ze28 zo28) <| zM <| zM <| zT (oSt sh28) <| zM <| zZ) ?_
          refine pwp_seq <| kx [(86, (vb ((stF es (ws.getD m 0)) != (stT es (ws.getD ((m + ws.length - 1) % ws.length) 0)))))] [] (zM <| zM <| zE oNe <| zZ) ?_
          refine pwp_cond rfl (fun h7 => ?_) (fun h7 => ?_)
          · replace h7 := bne_iff_ne.1 h7
            refine pwp_seq <| kx [(7, (vin 5))] [(0, some (bx (encQuat (RQuat.mk 0 0 0 0))))] (zE (oBd pl28 ze28 zo28) <| zT (oSt sh28) <| zM <| zZ) ?_
            refine pwp_ret ⟨_, (res_a (cs := (bx (encQuat (RQuat.mk 0 0 0 0)))) (d := (encQuat (RQuat.mk 0 0 0 0))) rfl rfl sh28 rfl rfl (.tmp (d := (.val (.int .i64 (5)))) rfl .nil)), ?_⟩
            obtain ⟨q1, q2⟩ := arn_0 (ws := ws) hc0
            obtain ⟨q3, q4⟩ := ard_5 (by omega) hw (cb_no (k := m) (by omega) h7)
            rw [q1, q2, q3, q4]; rfl
          · replace h7 := bne_eq_false_iff_eq.1 h7
            refine pwp_skip <| kx [(53, (vin (m + 1)))] [] (zE (oAd (m + 1)) <| zM <| zZ) ?_
            exact ⟨(m + 1), wk, ⟨by omega, up_s hvcbUp h7⟩, (by omega)⟩
        · replace h6 := of_decide_eq_false h6
          refine pwp_exit <| pwp_seq <| kx [(7, (vin (aroC es ws)))] [(0, some (bx (encQuat (aroV es ws))))] (zM <| zM <| zE (oCl (l_aro es 3 ws hb hbw htk hw)) <| zE oEx <| zE oEx <| zT (oSt sh28) <| zM <| zZ) ?_
          refine pwp_ret ⟨_, (res_a (cs := (bx (encQuat (aroV es ws)))) (d := (encQuat (aroV es ws))) rfl rfl sh28 rfl rfl (.tmp (d := (.val (.int .i64 ((((aroC es ws) : Nat) : Int))))) rfl .nil)), ?_⟩
          obtain ⟨q1, q2⟩ := arn_0 (ws := ws) hc0
          obtain ⟨q3, q4⟩ := ard_y (by omega) hw (clP_back.2 (fun i hi => hvcbUp i (by omega)))
          rw [q1, q2, q3, q4]; rfl
theorem l8_ard (es : List REdge) (ws : List Int) (hb : es.length ≤ 1000000) (hbw : ws.length ≤ 1000000) (hl2 : es.length ≤ 256) (htk : Tok es) : Takes Tryz.prog 30 [(.sl 56 6 (List.map encEdge es)), (.sl 3 1 (List.map enc_i64 ws))] (.tup [(encQuat (ardV es ws)), (.val (.int .i64 ((((ardC es ws) : Nat) : Int))))]) := by
  refine fn_intro Tryz.func30 rfl cb30 rfl ?_
  show PWp _ _ _ _ ⟨[(0, (vl 56 6 encEdge es)), (1, (vl 3 1 enc_i64 ws))], []⟩
  refine pwp_seq <| kx [(2, (.ref 0 0)), (4, (.ref 1 0))] [(0, some (bx (.sl 56 6 (List.map encEdge es)))), (1, some (bx (encQuat (RQuat.mk 0 0 0 0))))] (zN (oBx 0) <| zN (oAl 1 ze28 zo28) <| zM <| zZ) ?_
  refine pwp_seq <| pwp_seq <| kx [(21, (vb (decide (((256 : Nat) : Int) < ((ws.length : Nat) : Int)))))] [] (zM <| zE (oLm el60) <| zE oGt <| zZ) ?_
  refine pwp_cond rfl (fun h1 => ?_) (fun h1 => ?_)
  · replace h1 := of_decide_eq_true h1
    refine pwp_seq <| kx [(5, (vin 9))] [(1, some (bx (encQuat (RQuat.mk 0 0 0 0))))] (zE (oBd pl28 ze28 zo28) <| zT (oSt sh28) <| zM <| zZ) ?_
    refine pwp_ret ⟨_, (res_a (cs := (bx (encQuat (RQuat.mk 0 0 0 0)))) (d := (encQuat (RQuat.mk 0 0 0 0))) rfl rfl sh28 rfl rfl (.tmp (d := (.val (.int .i64 (((9 : Nat) : Int))))) rfl .nil)), ?_⟩
    obtain ⟨q3, q4⟩ := ard_9 (es := es) (ws := ws) (by omega)
    rw [q3, q4]; rfl
  · replace h1 := of_decide_eq_false h1
    refine pwp_skip <| pwp_seq <| pwp_seq <| kx [(23, (vl 3 1 enc_i64 ws)), (24, (vin ws.length)), (25, (vin 0))] [] (zM <| zE (oLm el60) <| zM <| zZ) ?_
    refine pwp_block <| pwp_loop (α := Nat) (fun m => ⟨[(1, (vl 3 1 enc_i64 ws)), (2, (.ref 0 0)), (4, (.ref 1 0)), (23, (vl 3 1 enc_i64 ws)), (24, (vin ws.length)), (25, (vin m))], [(0, some (bx (.sl 56 6 (List.map encEdge es)))), (1, some (bx (encQuat (RQuat.mk 0 0 0 0))))]⟩) (fun m => m ≤ ws.length ∧ inUp es ws m) (fun m => ws.length - m) 0 wk ⟨Nat.zero_le _, fun i hi => by omega⟩ ?_
    rintro m ⟨hm, hvinUp⟩
    refine pwp_seq <| kx [(26, (vb (decide (((m : Nat) : Int) < ((ws.length : Nat) : Int)))))] [] (zE oLt <| zZ) ?_
    refine pwp_seq <| pwp_cond rfl (fun h2 => ?_) (fun h2 => ?_)
    · replace h2 := of_decide_eq_true h2
      refine pwp_skip <| pwp_seq <| pwp_block <| pwp_seq <| kx [(7, (vi (ws.getD m 0)))] [] (zE (oXl el60 m (0 : Int)) <| zE (oC1 sh3) <| zM <| zZ) ?_
      refine pwp_seq <| kx [(39, (vb (decide (((es.length : Nat) : Int) ≤ (ws.getD m 0)) || decide ((ws.getD m 0) < -((es.length : Nat) : Int)))))] [] ?_ ?_
      · refine zM <| zR (oL1 sh39) <| zE (oLm el39) <| zE oGe <| zE (oV (vb (decide (((es.length : Nat) : Int) ≤ (ws.getD m 0)))) (mv_ok (by kernel_rfl))) <| ?_
        rcases hb3 : (decide (((es.length : Nat) : Int) ≤ (ws.getD m 0))) with _ | _
        · replace hb3 := of_decide_eq_false hb3
          exact zM <| zR (oL1 sh39) <| zE (oLm el39) <| zE (oNg (-((es.length : Nat) : Int)) (hr := by exact (wAny (by first | omega | rfl | (dsimp only; omega)) (by simp only [kLo]; omega) (by simp only [kHi]; omega)))) <| zE oLt <| zE oPo <| zZ
        · replace hb3 := of_decide_eq_true hb3
          exact zK <| zK <| zK <| zK <| zK <| zE oPt <| zZ
      refine pwp_cond rfl (fun h4 => ?_) (fun h4 => ?_)
      · refine pwp_seq <| kx [(5, (vin 2))] [(1, some (bx (encQuat (RQuat.mk 0 0 0 0))))] (zE (oBd pl28 ze28 zo28) <| zT (oSt sh28) <| zM <| zZ) ?_
        refine pwp_ret ⟨_, (res_a (cs := (bx (encQuat (RQuat.mk 0 0 0 0)))) (d := (encQuat (RQuat.mk 0 0 0 0))) rfl rfl sh28 rfl rfl (.tmp (d := (.val (.int .i64 (((2 : Nat) : Int))))) rfl .nil)), ?_⟩
        obtain ⟨q3, q4⟩ := ard_2 (by omega) (inUp_no (k := m) (by omega) (exB_t h4))
        rw [q3, q4]; rfl
      · refine pwp_skip <| kx [(25, (vin (m + 1)))] [] (zE (oAd (m + 1)) <| zM <| zZ) ?_
        exact ⟨(m + 1), wk, ⟨by omega, inUp_s hvinUp (exB_f h4)⟩, (by omega)⟩
    · replace h2 := of_decide_eq_false h2
      have hw := inUp_end (by omega) hvinUp
      refine pwp_exit <| pwp_seq <| kx [(8, (.clo 74 [0]))] [] (zE (oMf [0]) <| zM <| zZ) ?_
      refine pwp_seq <| pwp_seq <| kx [(43, (vl 3 1 enc_i64 ws)), (44, (vin ws.length)), (45, (vin 0))] [] (zM <| zE (oLm el60) <| zM <| zZ) ?_
      refine pwp_block <| pwp_loop (α := Nat) (fun m => ⟨[(1, (vl 3 1 enc_i64 ws)), (2, (.ref 0 0)), (4, (.ref 1 0)), (8, (.clo 74 [0])), (43, (vl 3 1 enc_i64 ws)), (44, (vin ws.length)), (45, (vin m))], [(0, some (bx (.sl 56 6 (List.map encEdge es)))), (1, some (bx (encQuat (RQuat.mk 0 0 0 0))))]⟩) (fun m => m ≤ ws.length ∧ cfUp es ws m) (fun m => ws.length - m) 0 wk ⟨Nat.zero_le _, fun i hi => by omega⟩ ?_
      rintro m ⟨hm, hvcfUp⟩
      refine pwp_seq <| kx [(46, (vb (decide (((m : Nat) : Int) < ((ws.length : Nat) : Int)))))] [] (zE oLt <| zZ) ?_
      refine pwp_seq <| pwp_cond rfl (fun h5 => ?_) (fun h5 => ?_)
      · replace h5 := of_decide_eq_true h5
        refine pwp_skip <| pwp_seq <| pwp_block <| pwp_seq <| kx [(9, (vin m)), (10, (vi (ws.getD m 0)))] [] (zM <| zE (oXl el60 m (0 : Int)) <| zE (oC1 sh3) <| zM <| zM <| zZ) ?_
        refine pwp_seq <| kx [(12, (vi (stT es (ws.getD m 0))))] [] (zM <| zM <| zC (oCc (ds := [(.val (.int .i64 ((ws.getD m 0))))]) [0] [(Dat.cells (.sl 56 6 (List.map encEdge es)))] (l8_ends (ws.getD m 0) es hb (wIn_at hw (by omega))) (.tup (avo_cons (.val _) (avo_cons (.val _) avo_nil)))) <| zM <| zE oEx <| zE oEx <| zM <| zM <| zZ) ?_
        refine pwp_seq <| kx [(13, (vi (stF es (ws.getD ((m + 1) % ws.length) 0))))] [] (zM <| zM <| zM <| zE (oAd (m + 1)) <| zM <| zE (oLm el60) <| zE (oRe ((m + 1) % ws.length)) <| zE (oXl el60 ((m + 1) % ws.length) (0 : Int) (hj := by first | omega | exact Nat.mod_lt _ (by omega)) (h1 := by first | omega | exact Nat.mod_lt _ (by omega))) <| zE (oC1 sh3) <| zC (oCc (ds := [(.val (.int .i64 ((ws.getD ((m + 1) % ws.length) 0))))]) [0] [(Dat.cells (.sl 56 6 (List.map encEdge es)))] (l8_ends (ws.getD ((m + 1) % ws.length) 0) es hb (wIn_at hw (Nat.mod_lt _ (by omega)))) (.tup (avo_cons (.val _) (avo_cons (.val _) avo_nil)))) <| zM <| zE oEx <| zE oEx <| zM <| zM <| zZ) ?_
        refine pwp_seq <| kx [(71, (vb ((stF es (ws.getD ((m + 1) % ws.length) 0)) != (stT es (ws.getD m 0)))))] [] (zM <| zM <| zE oNe <| zZ) ?_
        refine pwp_cond rfl (fun h6 => ?_) (fun h6 => ?_)
        · replace h6 := bne_iff_ne.1 h6
          refine pwp_seq <| kx [(5, (vin 5))] [(1, some (bx (encQuat (RQuat.mk 0 0 0 0))))] (zE (oBd pl28 ze28 zo28) <| zT (oSt sh28) <| zM <| zZ) ?_
          refine pwp_ret ⟨_, (res_a (cs := (bx (encQuat (RQuat.mk 0 0 0 0)))) (d := (encQuat (RQuat.mk 0 0 0 0))) rfl rfl sh28 rfl rfl (.tmp (d := (.val (.int .i64 (((5 : Nat) : Int))))) rfl .nil)), ?_⟩
          obtain ⟨q3, q4⟩ := ard_5 (by omega) hw (fun e => h6 (e m (by omega)))
          rw [q3, q4]; rfl
        · replace h6 := bne_eq_false_iff_eq.1 h6
          refine pwp_skip <| kx [(45, (vin (m + 1)))] [] (zE (oAd (m + 1)) <| zM <| zZ) ?_
          exact ⟨(m + 1), wk, ⟨by omega, up_s hvcfUp h6⟩, (by omega)⟩
      · replace h5 := of_decide_eq_false h5
        have hcl : clP es ws := fun i hi => hvcfUp i (by omega)
        refine pwp_exit <| pwp_seq <| kx [(15, (.ref 2 0))] [(2, some (bx (encQuat (RQuat.mk ((1 : Nat) : Int) 0 0 0))))] (zE (oBd pl28 ze28 zo28) <| zN (oAl 2 ze28 zo28) <| zT (oSt sh28) <| zZ) ?_
        refine pwp_seq <| pwp_seq <| kx [(75, (vl 3 1 enc_i64 ws)), (76, (vin ws.length)), (77, (vin 0))] [] (zM <| zE (oLm el60) <| zM <| zZ) ?_
        refine pwp_block <| pwp_loop (α := Nat) (fun k => ⟨[(2, (.ref 0 0)), (4, (.ref 1 0)), (15, (.ref 2 0)), (75, (vl 3 1 enc_i64 ws)), (76, (vin ws.length)), (77, (vin k))], [(0, some (bx (.sl 56 6 (List.map encEdge es)))), (1, some (bx (encQuat (RQuat.mk 0 0 0 0)))), (2, some (bx (encQuat (arV es ws k))))]⟩) (fun k => k ≤ ws.length ∧ arUp es ws k) (fun k => ws.length - k) 0 wk ⟨Nat.zero_le _, arUp_0 _ _⟩ ?_
        rintro k ⟨hk, hv⟩
        refine pwp_seq <| kx [(78, (vb (decide (((k : Nat) : Int) < ((ws.length : Nat) : Int)))))] [] (zE oLt <| zZ) ?_
        refine pwp_seq <| pwp_cond rfl (fun h7 => ?_) (fun h7 => ?_)
        · replace h7 := of_decide_eq_true h7
          have hin := wIn_at hw (i := k) (by omega)
          unfold inE at hin
          refine pwp_skip <| pwp_seq <| pwp_block <| pwp_seq <| kx [(17, (vi (ws.getD k 0)))] [] (zE (oXl el60 k (0 : Int)) <| zE (oC1 sh3) <| zM <| zZ) ?_
          refine pwp_seq <| kx [] [] (zM <| zZ) ?_
          refine pwp_meet (α := RQuat) (fun s => ⟨[(2, (.ref 0 0)), (4, (.ref 1 0)), (15, (.ref 2 0)), (18, (vin (qC (qmul s (arV es ws k))))), (75, (vl 3 1 enc_i64 ws)), (76, (vin ws.length)), (77, (vin k))], [(0, some (bx (.sl 56 6 (List.map encEdge es)))), (1, some (bx (encQuat (RQuat.mk 0 0 0 0)))), (2, some (bx (encQuat (qV (qmul s (arV es ws k))))))]⟩) (fun s => s = stQ es (ws.getD k 0)) ?_ ?_
          · refine pwp_seq <| kx [(82, (vb (decide ((ws.getD k 0) < ((0 : Nat) : Int)))))] [] (zM <| zE oLt <| zZ) ?_
            refine pwp_cond rfl (fun h8 => ?_) (fun h8 => ?_)
            · replace h8 := of_decide_eq_true h8
              have hq1 := htk.at (k := (-1 - ws.getD k 0).toNat) (by omega)
              refine kd [(18, (vin (qC (qmul (qV (qcj ((es.getD ((-1 - ws.getD k 0).toNat) (REdge.mk 0 0 (RQuat.mk 0 0 0 0))).turn))) (arV es ws k)))))] [(2, some (bx (encQuat (qV (qmul (qV (qcj ((es.getD ((-1 - ws.getD k 0).toNat) (REdge.mk 0 0 (RQuat.mk 0 0 0 0))).turn))) (arV es ws k))))))] mo (wR (oL1 sh39) <| wM <| wE (oSb ((-1 - ws.getD k 0).toNat) (hr := by exact (wAny (by first | omega | rfl | (dsimp only; omega)) (by simp only [kLo]; omega) (by simp only [kHi]; omega)))) <| wE (oXl el39 ((-1 - ws.getD k 0).toNat) (REdge.mk 0 0 (RQuat.mk 0 0 0 0))) <| wE (oFc fo56_2) <| wE (oCa sh28) <| wR (oLa sh28) <| wE (oCl (l8_under ((es.getD ((-1 - ws.getD k 0).toNat) (REdge.mk 0 0 (RQuat.mk 0 0 0 0))).turn) (arV es ws k) hq1 (arV_ok htk hw (by omega) hv))) <| wM <| wE oEx <| wE oEx <| wT (oSt sh28) <| wM <| wZ) ?_
              exact met (qV (qcj (es.getD (-1 - ws.getD k 0).toNat e0).turn)) wk ((st_n (by omega)).2.2.symm)
            · replace h8 := of_decide_eq_false h8
              have hq2 := htk.at (k := (ws.getD k 0).toNat) (by omega)
              refine kd [(18, (vin (qC (qmul ((es.getD (((ws.getD k 0)).toNat) (REdge.mk 0 0 (RQuat.mk 0 0 0 0))).turn) (arV es ws k)))))] [(2, some (bx (encQuat (qV (qmul ((es.getD (((ws.getD k 0)).toNat) (REdge.mk 0 0 (RQuat.mk 0 0 0 0))).turn) (arV es ws k))))))] mo (wR (oL1 sh39) <| wM <| wE (oXl el39 (((ws.getD k 0)).toNat) (REdge.mk 0 0 (RQuat.mk 0 0 0 0))) <| wE (oFc fo56_2) <| wE (oCa sh28) <| wR (oLa sh28) <| wE (oCl (l8_mul ((es.getD (((ws.getD k 0)).toNat) (REdge.mk 0 0 (RQuat.mk 0 0 0 0))).turn) (arV es ws k) hq2 (arV_ok htk hw (by omega) hv))) <| wM <| wE oEx <| wE oEx <| wT (oSt sh28) <| wM <| wZ) ?_
              exact met ((es.getD (ws.getD k 0).toNat e0).turn) wk ((st_p (by omega)).2.2.symm)
          · rintro s hs
            subst hs
            refine pwp_seq <| kx [(105, (vb ((((qC (qmul (stQ es (ws.getD k 0)) (arV es ws k))) : Nat) : Int) != ((0 : Nat) : Int))))] [] (zM <| zE oNe <| zZ) ?_
            refine pwp_cond rfl (fun h9 => ?_) (fun h9 => ?_)
            · replace h9 := bne_iff_ne.1 h9
              refine pwp_seq <| kx [(5, (vin (qC (qmul (stQ es (ws.getD k 0)) (arV es ws k)))))] [(1, some (bx (encQuat (RQuat.mk 0 0 0 0))))] (zE (oBd pl28 ze28 zo28) <| zM <| zT (oSt sh28) <| zM <| zZ) ?_
              refine pwp_ret ⟨_, (res_a (cs := (bx (encQuat (RQuat.mk 0 0 0 0)))) (d := (encQuat (RQuat.mk 0 0 0 0))) rfl rfl sh28 rfl rfl (.tmp (d := (.val (.int .i64 ((((qC (qmul (stQ es (ws.getD k 0)) (arV es ws k))) : Nat) : Int))))) rfl .nil)), ?_⟩
              obtain ⟨q7, q8⟩ := ard_y (by omega) hw hcl
              rw [q7, q8]
              obtain ⟨q1, q2, q3⟩ := aro_no (k := k) (by omega) (rot_ne h9)
              rw [q1, q2, show qC (qmul (stQ es (ws.getD k 0)) (arV es ws k)) = 3 from q3]; rfl
            · replace h9 := bne_eq_false_iff_eq.1 h9
              refine pwp_skip <| kx [(77, (vin (k + 1)))] [] (zE (oAd (k + 1)) <| zM <| zZ) ?_
              exact ⟨(k + 1), wk, ⟨by omega, arUp_s hv (show qC _ = 0 by omega)⟩, (by omega)⟩
        · replace h7 := of_decide_eq_false h7
          refine pwp_exit <| pwp_seq <| kx [(5, (vin 0))] [(1, some (bx (encQuat (arV es ws k))))] (zR (oLa sh28) <| zT (oSt sh28) <| zM <| zZ) ?_
          refine pwp_ret ⟨_, (res_a (cs := (bx (encQuat (arV es ws k)))) (d := (encQuat (arV es ws k))) rfl rfl sh28 rfl rfl (.tmp (d := (.val (.int .i64 (((0 : Nat) : Int))))) rfl .nil)), ?_⟩
          obtain ⟨q7, q8⟩ := ard_y (by omega) hw hcl
          rw [q7, q8]
          obtain ⟨q1, q2⟩ := aro_yes (by omega) hv
          rw [q1, q2]; rfl
end Go.Proofs.YtihgdjljnaekmaaGreat
set_option linter.unusedVariables false
set_option linter.unusedSimpArgs false
namespace Go.Fid
def jnB (p q a b : Int) : Bool := ((p == a) && (q == b)) || ((p == b) && (q == a))
def hsB (p q a : Int) : Bool := (p == a) || (q == a)
def alI (p node k : Int) : Int := if p = node then k else -1 - k
def pTr (a b p q r s : Int) : Bool :=
  if jnB p q a b = true then false else if hsB p q b = true then jnB r s (a + b - b) (p + q - b) else if hsB p q a = true then jnB r s (a + b - a) (p + q - a) else false
def pWk (a b p q r s j k : Int) : Int × Int :=
  if hsB p q b = true then (alI p b j, alI r (p + q - b) k) else (alI r b k, alI p (p + q - a) j)
def trB (es : List REdge) (i j k : Nat) : Bool := pTr (es.getD i e0).fr (es.getD i e0).to_ (es.getD j e0).fr (es.getD j e0).to_ (es.getD k e0).fr (es.getD k e0).to_
def wkP (es : List REdge) (i j k : Nat) : Int × Int := pWk (es.getD i e0).fr (es.getD i e0).to_ (es.getD j e0).fr (es.getD j e0).to_ (es.getD k e0).fr (es.getD k e0).to_ ((j : Nat) : Int) ((k : Nat) : Int)
theorem bn_t {b : Bool} (h : (!b) = true) : b = false := by simpa using h
theorem bn_f {b : Bool} (h : (!b) = false) : b = true := by simpa using h
theorem t_push {α β : Type} {f : α → β} {L : List α} {out : List β} {x : α} {y : β} (h : out = List.map f L) (e : y = f x) : out ++ [y] = List.map f (L ++ [x]) := by rw [h, e, List.map_append]; rfl
abbrev T3 := Nat × Nat × Nat
def tIn (es : List REdge) (i j K : Nat) : List T3 := ((List.range K).filter fun m => decide (j < m) && trB es i j m).map fun m => (i, j, m)
def tMid (es : List REdge) (i J : Nat) : List T3 := (List.range J).flatMap fun m => if i < m then tIn es i m es.length else []
def tAll (es : List REdge) (I : Nat) : List T3 := (List.range I).flatMap fun m => tMid es m es.length
def tris (es : List REdge) : List T3 := tAll es es.length
theorem tIn_0 (es : List REdge) (i j : Nat) : tIn es i j (j + 1) = [] := by
  unfold tIn
  rw [List.map_eq_nil_iff, List.filter_eq_nil_iff]
  intro m hm
  simp at hm ⊢; intro h; omega
theorem tIn_y {es : List REdge} {i j K : Nat} (h : j < K) (hb : trB es i j K = true) : tIn es i j (K + 1) = tIn es i j K ++ [(i, j, K)] := by
  unfold tIn
  rw [List.range_succ, List.filter_append, List.map_append]
  simp [h, hb]
theorem tIn_n {es : List REdge} {i j K : Nat} (hb : trB es i j K = false) : tIn es i j (K + 1) = tIn es i j K := by
  unfold tIn
  rw [List.range_succ, List.filter_append, List.map_append]
  simp [hb]
theorem tIn_nil {es : List REdge} {i j K : Nat} (h : ∀ m, trB es i j m = false) : tIn es i j K = [] := by
  unfold tIn
  rw [List.map_eq_nil_iff, List.filter_eq_nil_iff]
  intro m hm; simp [h m]
theorem tMid_0 (es : List REdge) (i : Nat) : tMid es i (i + 1) = [] := by
  unfold tMid
  rw [List.flatMap_eq_nil_iff]
  intro m hm
  rw [if_neg]; simp at hm; omega
theorem tMid_s {es : List REdge} {i J : Nat} (h : i < J) : tMid es i (J + 1) = tMid es i J ++ tIn es i J es.length := by
  unfold tMid
  rw [List.range_succ, List.flatMap_append]
  simp [h]
theorem tAll_s (es : List REdge) (I : Nat) : tAll es (I + 1) = tAll es I ++ tMid es I es.length := by
  unfold tAll
  rw [List.range_succ, List.flatMap_append]; simp
theorem tIn_len (es : List REdge) (i j K : Nat) : (tIn es i j K).length ≤ K := by
  unfold tIn
  rw [List.length_map]
  exact Nat.le_trans (List.length_filter_le _ _) (by simp)
theorem tMid_len (es : List REdge) (i : Nat) : ∀ J, (tMid es i J).length ≤ J * es.length
  | 0 => by simp [tMid]
  | J + 1 => by
    have ih := tMid_len es i J
    have h1 := tIn_len es i J es.length
    unfold tMid at ih ⊢
    rw [List.range_succ, List.flatMap_append, List.length_append, Nat.add_mul]
    have : (if i < J then tIn es i J es.length else []).length ≤ es.length := by
      by_cases h : i < J
      · simp only [h, if_true]; exact h1
      · simp only [h, if_false]; simp
    simp only [List.flatMap_cons, List.flatMap_nil, List.append_nil]
    omega
theorem tAll_len (es : List REdge) : ∀ I, (tAll es I).length ≤ I * (es.length * es.length)
  | 0 => by simp [tAll]
  | I + 1 => by
    have ih := tAll_len es I
    have h1 := tMid_len es I es.length
    rw [tAll_s, List.length_append, Nat.add_mul]; omega
theorem t_room {es : List REdge} {i j k : Nat} (h : es.length ≤ 256) (hi : i ≤ es.length) (hj : j ≤ es.length) (hk : k ≤ es.length) : (tAll es i ++ tMid es i j ++ tIn es i j k).length ≤ 20000000 := by
  have h1 := tAll_len es i
  have h2 := tMid_len es i j
  have h3 := tIn_len es i j k
  have a1 : es.length * es.length ≤ 256 * 256 := Nat.mul_le_mul h h
  have a2 : i * (es.length * es.length) ≤ 256 * (256 * 256) := Nat.mul_le_mul (by omega) a1
  have a3 : j * es.length ≤ 256 * 256 := Nat.mul_le_mul (by omega) h
  simp only [List.length_append]
  omega
theorem trA {es : List REdge} {i j k : Nat} (h1 : jnB (es.getD j e0).fr (es.getD j e0).to_ (es.getD i e0).fr (es.getD i e0).to_ = false) (h2 : hsB (es.getD j e0).fr (es.getD j e0).to_ (es.getD i e0).to_ = true) :
    trB es i j k = jnB (es.getD k e0).fr (es.getD k e0).to_ ((es.getD i e0).fr + (es.getD i e0).to_ - (es.getD i e0).to_) ((es.getD j e0).fr + (es.getD j e0).to_ - (es.getD i e0).to_) ∧
      wkP es i j k = (alI (es.getD j e0).fr (es.getD i e0).to_ ((j : Nat) : Int), alI (es.getD k e0).fr ((es.getD j e0).fr + (es.getD j e0).to_ - (es.getD i e0).to_) ((k : Nat) : Int)) := by
  unfold trB pTr wkP pWk
  rw [h1, h2]; exact ⟨rfl, rfl⟩
theorem trC {es : List REdge} {i j k : Nat} (h1 : jnB (es.getD j e0).fr (es.getD j e0).to_ (es.getD i e0).fr (es.getD i e0).to_ = false) (h2 : hsB (es.getD j e0).fr (es.getD j e0).to_ (es.getD i e0).to_ = false) (h3 : hsB (es.getD j e0).fr (es.getD j e0).to_ (es.getD i e0).fr = true) :
    trB es i j k = jnB (es.getD k e0).fr (es.getD k e0).to_ ((es.getD i e0).fr + (es.getD i e0).to_ - (es.getD i e0).fr) ((es.getD j e0).fr + (es.getD j e0).to_ - (es.getD i e0).fr) ∧
      wkP es i j k = (alI (es.getD k e0).fr (es.getD i e0).to_ ((k : Nat) : Int), alI (es.getD j e0).fr ((es.getD j e0).fr + (es.getD j e0).to_ - (es.getD i e0).fr) ((j : Nat) : Int)) := by
  unfold trB pTr wkP pWk
  rw [h1, h2, h3]; exact ⟨rfl, rfl⟩
theorem trN1 {es : List REdge} {i j k : Nat} (h1 : jnB (es.getD j e0).fr (es.getD j e0).to_ (es.getD i e0).fr (es.getD i e0).to_ = true) : trB es i j k = false := by
  unfold trB pTr; rw [h1]; rfl
theorem trN2 {es : List REdge} {i j k : Nat} (h2 : hsB (es.getD j e0).fr (es.getD j e0).to_ (es.getD i e0).to_ = false) (h3 : hsB (es.getD j e0).fr (es.getD j e0).to_ (es.getD i e0).fr = false) : trB es i j k = false := by
  unfold trB pTr; rw [h2, h3]; split <;> rfl
end Go.Fid
set_option linter.unusedVariables false
set_option linter.unusedSimpArgs false
namespace Go.Fid
abbrev zQ : RQuat := ⟨0, 0, 0, 0⟩
def parL (n : Nat) (es : List REdge) : List Int := tPar true n es es.length
theorem q_nz {q : RQuat} (h : Qnz q) : q ≠ zQ := qnz_iff.1 h
section
variable {n : Nat} {es : List REdge}
theorem aV_nz (h : EsOk n es) (j : Nat) : Qnz (aV n es j) := tV_nz h (Nat.le_refl _) j
theorem aV_sat (h : EsOk n es) {i : Nat} (hi : (i : Int) ∈ treL n es) : Qeq (aV n es (es.getD i e0).fr.toNat) (qmul (aV n es (es.getD i e0).to_.toNat) (es.getD i e0).turn) := tV_sat h (Nat.le_refl _) hi
theorem aV_back (h : EsOk n es) {i : Nat} (hi : (i : Int) ∈ treL n es) (hl : i < es.length) : Qeq (qmul (aV n es (es.getD i e0).fr.toNat) (qcj (es.getD i e0).turn)) (aV n es (es.getD i e0).to_.toNat) := by
  have hx := eget h hl
  refine ((aV_sat h hi).mul (Qeq.refl _)).trans ?_
  rw [qmul_assoc, qmul_cj, qsc_mul_r, qmul_1]
  exact Qeq.sc (qnz_n.1 hx.q.1) _
theorem ab_yes (h : EsOk n es) {j : Nat} {u : RQuat} (hu : Qnz u) (he : Qeq u (aV n es j)) (hc : qC u = 0) : Qfit (qcan (aV n es j)) ∧ qV u = qcan (aV n es j) := by
  have e := (qcan_iff hu (aV_nz h j)).2 he
  have hf := qC_0.1 hc
  rw [e] at hf
  exact ⟨hf, by rw [qV_c0 hc, e]⟩
theorem ab_no (h : EsOk n es) {j : Nat} {u : RQuat} (hj : j < n) (hu : Qnz u) (he : Qeq u (aV n es j)) (hc : qC u ≠ 0) : absC n es = 3 ∧ absL n es = [] ∧ qC u = 3 := by
  have e := (qcan_iff hu (aV_nz h j)).2 he
  have hn : ¬ aFit n es := fun hf => hc (qC_0.2 (by rw [e]; exact hf j hj))
  exact ⟨if_neg hn, if_neg hn, (qC_01 u).resolve_left hc⟩
def getQ (out : List RQuat) (j : Nat) : RQuat := out.getD j zQ
def AbI (n : Nat) (es : List REdge) (out : List RQuat) : Prop := out.length = n ∧ ∀ j, j < n → getQ out j = zQ ∨ (Qfit (qcan (aV n es j)) ∧ getQ out j = qcan (aV n es j))
theorem AbI.at (h : EsOk n es) {out : List RQuat} (ho : AbI n es out) {j : Nat} (hj : j < n) (hz : getQ out j ≠ zQ) : Qok (getQ out j) ∧ getQ out j = qcan (aV n es j) := by
  rcases ho.2 j hj with e | ⟨e1, e2⟩
  · exact absurd e hz
  · rw [e2]; exact ⟨⟨qcan_nz (aV_nz h j), e1⟩, rfl⟩
theorem getQ_set {out : List RQuat} {i j : Nat} {v : RQuat} (hi : i < out.length) : getQ (out.set i v) j = if i = j then v else getQ out j := by
  unfold getQ
  by_cases e : i = j
  · subst e; rw [if_pos rfl, List.getD_eq_getElem?_getD, List.getElem?_set_self hi]; rfl
  · rw [if_neg e, List.getD_eq_getElem?_getD, List.getElem?_set_ne e, ← List.getD_eq_getElem?_getD]
theorem AbI.set {out : List RQuat} (ho : AbI n es out) {j : Nat} {v : RQuat} (hj : j < n) (h1 : Qfit (qcan (aV n es j))) (h2 : v = qcan (aV n es j)) : AbI n es (out.set j v) := by
  refine ⟨by rw [List.length_set]; exact ho.1, fun i hi => ?_⟩
  rw [getQ_set (by rw [ho.1]; exact hj)]
  split
  · rename_i e; subst e; exact .inr ⟨h1, h2⟩
  · exact ho.2 i hi
def zq (out : List RQuat) : Nat := out.countP fun q => decide (q = zQ)
theorem zq_set {out : List RQuat} {j : Nat} {v : RQuat} (hj : j < out.length) (h1 : getQ out j = zQ) (h2 : v ≠ zQ) : zq (out.set j v) < zq out := by
  unfold zq
  have hv : decide (v = zQ) = false := decide_eq_false h2
  have : ∀ (l : List RQuat) (j : Nat), j < l.length → l.getD j zQ = zQ → (l.set j v).countP (fun q => decide (q = zQ)) < l.countP fun q => decide (q = zQ) := by
    intro l
    induction l with
    | nil => intro j hj; simp at hj
    | cons x l ih =>
      intro j hj hx
      cases j with
      | zero =>
        simp only [List.getD_cons_zero] at hx
        subst hx
        rw [List.set_cons_zero, List.countP_cons, List.countP_cons, if_neg (by rw [hv]; simp), if_pos (by simp)]; omega
      | succ j =>
        simp only [List.getD_cons_succ] at hx
        rw [List.set_cons_succ, List.countP_cons, List.countP_cons]
        have := ih j (by simpa using hj) hx
        omega
  exact this out j hj h1
theorem ab_all (h : EsOk n es) {out : List RQuat} (ho : AbI n es out) (hr : ∀ j, j < n → (parL n es).getD j 0 = j → getQ out j ≠ zQ)
    (hc : ∀ i : Nat, (i : Int) ∈ treL n es → (getQ out (es.getD i e0).fr.toNat ≠ zQ ↔ getQ out (es.getD i e0).to_.toNat ≠ zQ)) : out = absL n es ∧ absC n es = 0 := by
  have hall : ∀ j, j < n → getQ out j ≠ zQ := fun j hj => by
    have rj := tPar_rng h (Nat.le_refl es.length) hj
    have e1 := tPar_root h (Nat.le_refl es.length) hj
    have hrn : ((tPar true n es es.length).getD j 0).toNat < n := by omega
    have h1 := hr _ hrn (by unfold parL; omega)
    exact (tPar_closed h (fun i => getQ out i ≠ zQ) (Nat.le_refl es.length) hc hrn hj e1).1 h1
  have hf : aFit n es := fun j hj => by
    rcases ho.2 j hj with e | ⟨e1, _⟩
    · exact absurd e (hall j hj)
    · exact e1
  refine ⟨?_, if_pos hf⟩
  unfold absL
  rw [if_pos hf]
  apply List.ext_getElem?
  intro j
  by_cases hj : j < n
  · have e := (ho.at h hj (hall j hj)).2
    unfold getQ at e
    rw [List.getD_eq_getElem?_getD, List.getElem?_eq_getElem (by rw [ho.1]; exact hj)] at e
    rw [List.getElem?_eq_getElem (by rw [ho.1]; exact hj), List.getElem?_map, List.getElem?_range hj]
    exact congrArg some e
  · rw [List.getElem?_eq_none (by rw [ho.1]; omega), List.getElem?_eq_none (by simp; omega)]
theorem ab_fwd (h : EsOk n es) {out : List RQuat} (ho : AbI n es out) {i : Nat} (hi : (i : Int) ∈ treL n es) (hl : i < es.length) (hz : getQ out (es.getD i e0).fr.toNat ≠ zQ) :
    Qnz (qmul (getQ out (es.getD i e0).fr.toNat) (qV (qcj (es.getD i e0).turn))) ∧ Qeq (qmul (getQ out (es.getD i e0).fr.toNat) (qV (qcj (es.getD i e0).turn))) (aV n es (es.getD i e0).to_.toNat) := by
  have hx := eget h hl
  have hf : (es.getD i e0).fr.toNat < n := by have := hx.f0; have := hx.f1; omega
  obtain ⟨g1, g2⟩ := ho.at h hf hz
  have e := qV_eq (qcj_nz hx.q.1) (qC_cj hx.q)
  refine ⟨qmul_nz g1.1 (e.symm.nz (qcj_nz hx.q.1)), ?_⟩
  refine Qeq.trans ?_ (aV_back h hi hl)
  rw [g2]
  exact (qcan_eq (aV_nz h _)).mul e
theorem ab_bwd (h : EsOk n es) {out : List RQuat} (ho : AbI n es out) {i : Nat} (hi : (i : Int) ∈ treL n es) (hl : i < es.length) (hz : getQ out (es.getD i e0).to_.toNat ≠ zQ) :
    Qnz (qmul (getQ out (es.getD i e0).to_.toNat) (es.getD i e0).turn) ∧ Qeq (qmul (getQ out (es.getD i e0).to_.toNat) (es.getD i e0).turn) (aV n es (es.getD i e0).fr.toNat) := by
  have hx := eget h hl
  have hf : (es.getD i e0).to_.toNat < n := by have := hx.t0; have := hx.t1; omega
  obtain ⟨g1, g2⟩ := ho.at h hf hz
  refine ⟨qmul_nz g1.1 hx.q.1, ?_⟩
  refine Qeq.trans ?_ (aV_sat h hi).symm
  rw [g2]
  exact (qcan_eq (aV_nz h _)).mul (Qeq.refl _)
end
def AbR (n : Nat) (es : List REdge) (out : List RQuat) : Prop := AbI n es out ∧ ∀ j, j < n → (parL n es).getD j 0 = j → getQ out j ≠ zQ
def clE (es : List REdge) (out : List RQuat) (i : Nat) : Prop := getQ out (es.getD i e0).fr.toNat ≠ zQ ↔ getQ out (es.getD i e0).to_.toNat ≠ zQ
def AbC (es : List REdge) (tk : List Int) (out : List RQuat) (m : Nat) : Prop := ∀ q, q < m → clE es out (tk.getD q 0).toNat
def AbW (n : Nat) (es : List REdge) (tk : List Int) (o0 out : List RQuat) (ag : Bool) (m : Nat) : Prop := AbR n es out ∧ (ag = true → zq out < zq o0) ∧ (ag = false → out = o0 ∧ AbC es tk out m)
section
variable {n : Nat} {es : List REdge} {tk : List Int} {o0 out : List RQuat} {ag : Bool} {m : Nat}
theorem AbW.skip (h : AbW n es tk o0 out ag m) (hc : clE es out (tk.getD m 0).toNat) : AbW n es tk o0 out ag (m + 1) := by
  refine ⟨h.1, h.2.1, fun e => ⟨(h.2.2 e).1, fun q hq => ?_⟩⟩
  by_cases hqm : q = m
  · subst hqm; exact hc
  · exact (h.2.2 e).2 q (by omega)
theorem AbW.zq_le (h : AbW n es tk o0 out ag m) : zq out ≤ zq o0 := by
  cases hag : ag with
  | true => exact Nat.le_of_lt (h.2.1 hag)
  | false => rw [(h.2.2 hag).1]; exact Nat.le_refl _
theorem AbW.put (h : AbW n es tk o0 out ag m) {j m' : Nat} {v : RQuat} (hj : j < n) (hz : getQ out j = zQ) (hv : v ≠ zQ) (h1 : Qfit (qcan (aV n es j))) (h2 : v = qcan (aV n es j)) : AbW n es tk o0 (out.set j v) true m' := by
  have hl : j < out.length := by rw [h.1.1.1]; exact hj
  refine ⟨⟨h.1.1.set hj h1 h2, fun i hi hr => ?_⟩, fun _ => Nat.lt_of_lt_of_le (zq_set hl hz hv) h.zq_le, fun e => by cases e⟩
  rw [getQ_set hl]
  split
  · exact hv
  · exact h.1.2 i hi hr
theorem tre_at {k : Nat} (hk : k < (treL n es).length) : ∃ i : Nat, i < es.length ∧ (treL n es).getD k 0 = i ∧ (i : Int) ∈ treL n es := by
  have hm : (treL n es).getD k 0 ∈ treL n es := by
    rw [List.getD_eq_getElem?_getD, List.getElem?_eq_getElem hk]; exact List.getElem_mem hk
  obtain ⟨i, h1, h2⟩ := tTak_mem hm
  exact ⟨i, h1, h2, h2 ▸ hm⟩
end
theorem q1_nz : q1 ≠ zQ := by decide
theorem can_nzq {n : Nat} {es : List REdge} (h : EsOk n es) (j : Nat) : qcan (aV n es j) ≠ zQ := q_nz (qcan_nz (aV_nz h j))
end Go.Fid
set_option linter.unusedVariables false
set_option linter.unusedSimpArgs false
namespace Go.Fid
def okL {α : Type} (c : Nat) (l : List α) : List α := if c = 0 then l else []
def okC (c d : Nat) : Nat := if c = 0 then d else c
theorem okL_0 {α : Type} {c : Nat} {l : List α} (h : c = 0) : okL c l = l := if_pos h
theorem okL_n {α : Type} {c : Nat} {l : List α} (h : c ≠ 0) : okL c l = [] := if_neg h
theorem okC_0 {c d : Nat} (h : c = 0) : okC c d = d := if_pos h
theorem okC_n {c d : Nat} (h : c ≠ 0) : okC c d = c := if_neg h
def ebt (ts : List RQuat) (x : REdge) : RQuat := qmul (qV (qcj (getQ ts x.to_.toNat))) (getQ ts x.fr.toNat)
def erOk (es : List REdge) (ts : List RQuat) : Prop := ∀ x ∈ es, qC (ebt ts x) = 0
instance (es : List REdge) (ts : List RQuat) : Decidable (erOk es ts) := List.decidableBAll _ _
def TsOk (n : Nat) (ts : List RQuat) : Prop := ts.length = n ∧ ∀ q ∈ ts, Qok q
section
variable {n : Nat} {es : List REdge} {ts : List RQuat}
theorem TsOk.at (h : TsOk n ts) {j : Nat} (hj : j < n) : Qok (getQ ts j) := by
  unfold getQ
  rw [List.getD_eq_getElem?_getD, List.getElem?_eq_getElem (by rw [h.1]; exact hj)]
  exact h.2 _ (List.getElem_mem _)
end
end Go.Fid
