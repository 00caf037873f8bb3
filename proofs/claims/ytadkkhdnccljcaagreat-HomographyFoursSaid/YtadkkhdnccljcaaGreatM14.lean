/- Part 14 of a proof: rules, plain facts, and functions walked. -/
import Derived.Test.YtadkkhdnccljcaaGreatM13
namespace Go.Proofs.YtadkkhdnccljcaaGreat
open Go.Fid
set_option maxRecDepth 4000
set_option linter.unusedVariables false
set_option linter.unusedSimpArgs false
theorem cb3 : callB Tryz.prog 3 = true := by kernel_rfl
theorem el36 : elemB Tryz.prog 36 = some (3, 1) := by kernel_rfl
theorem w_fouR (x0 y0 u0 v0 x1 y1 u1 v1 x2 y2 u2 v2 x3 y3 u3 v3 : Int) (hr : ((inR x0 y0 && inR u0 v0) && (inR x1 y1 && inR u1 v1) && (inR x2 y2 && inR u2 v2) && (inR x3 y3 && inR u3 v3)) = false) (hc4 : 2 = (rgC (rgC (rgC (rgC 0 [x0, y0, u0, v0]) [x1, y1, u1, v1]) [x2, y2, u2, v2]) [x3, y3, u3, v3])) (hc5 : (rgC (rgC (rgC (rgC 0 [x0, y0, u0, v0]) [x1, y1, u1, v1]) [x2, y2, u2, v2]) [x3, y3, u3, v3]) ≠ 0) : Takes Tryz.prog 3 [(encA26 (A4.mk (RPair.mk (RPix.mk x0 y0) (RPix.mk u0 v0)) (RPair.mk (RPix.mk x1 y1) (RPix.mk u1 v1)) (RPair.mk (RPix.mk x2 y2) (RPix.mk u2 v2)) (RPair.mk (RPix.mk x3 y3) (RPix.mk u3 v3))))] (.val (.bool (true))) := by
  let y7 := [(RInt.mk false []), (RInt.mk false []), (RInt.mk false []), (RInt.mk false []), (RInt.mk false []), (RInt.mk false []), (RInt.mk false []), (RInt.mk false []), (RInt.mk false [])]
  let y6 := (encA26 (A4.mk (RPair.mk (RPix.mk x0 y0) (RPix.mk u0 v0)) (RPair.mk (RPix.mk x1 y1) (RPix.mk u1 v1)) (RPair.mk (RPix.mk x2 y2) (RPix.mk u2 v2)) (RPair.mk (RPix.mk x3 y3) (RPix.mk u3 v3))))
  let y5 := (bx (encA31 (A9.mk (RInt.mk false []) (RInt.mk false []) (RInt.mk false []) (RInt.mk false []) (RInt.mk false []) (RInt.mk false []) (RInt.mk false []) (RInt.mk false []) (RInt.mk false []))))
  let y4 := (bx y6)
  refine fn_intro Tryz.func3 rfl cb3 rfl ?_
  show PWp _ _ _ _ ⟨[(0, (.d y6))], []⟩
  refine pwp_seq <| kx [(1, (.ref 0 0))] [(0, some y4)] (zN (oBx 0) <| zM <| zZ) ?_
  refine pwp_seq <| pwp_seq <| kx [(16, (vb false))] [] (zE (oCl l_known27) <| zE oNt <| zZ) ?_
  refine pwp_cond (b := false) (by kernel_rfl) (fun h => by cases h) (fun _ => ?_)
  refine pwp_skip <| pwp_seq <| kx [(3, (.ref 1 0)), (4, (vi 2))] [(1, some y5)] (zR (oLa sh26) <| zE (oCl (d_fourR x0 y0 u0 v0 x1 y1 u1 v1 x2 y2 u2 v2 x3 y3 u3 v3 hr)) <| zM <| zE oEx <| zE oEx <| zN (oAl 1 ze32 zo32) <| zT (oSt sh32) <| zM <| zZ) ?_
  refine pwp_seq <| kx [(5, (vin 0))] [] (zM <| zZ) ?_
  refine pwp_seq <| pwp_seq <| kx [(22, (.d y6)), (23, (vin 0))] [] (zR (oLa sh26) <| zM <| zZ) ?_
  refine pwp_block <| pwp_rounds 6 ?_
  refine pwp_round <| pwp_seq <| kx [(24, (vb true))] [] (zE (oBk true oLt) <| zZ) ?_
  refine pwp_seq <| pwp_cond (b := true) (by kernel_rfl) (fun _ => ?_) (fun h => by cases h)
  refine pwp_skip <| pwp_seq <| pwp_block <| pwp_seq <| kx [(7, (.ref 2 0))] [(2, some (bx (encPair (RPair.mk (RPix.mk x0 y0) (RPix.mk u0 v0)))))] (zE (oXa ar26 sh25 (fun h => by cases h) 0) <| zN (oAl 2 ze25 zo25) <| zT (oSt sh25) <| zZ) ?_
  refine pwp_seq <| kx [(38, (vl 3 1 enc_i64 [x0, y0, u0, v0])), (39, (vin 4)), (40, (vin 0))] [] (zE (oFr fo25_0) <| zE (oFr fo23_0) <| zR (oL1 sh3) <| zE (oFr fo25_0) <| zE (oFr fo23_1) <| zR (oL1 sh3) <| zE (oFr fo25_1) <| zE (oFr fo23_0) <| zR (oL1 sh3) <| zE (oFr fo25_1) <| zE (oFr fo23_1) <| zR (oL1 sh3) <| zE (oBs el36 ze3 zo3) <| zE (oLn el36 4) <| zM <| zZ) ?_
  refine pwp_block <| pwp_loop (α := Nat × Int) (fun (j, c) => ⟨[(1, (.ref 0 0)), (3, (.ref 1 0)), (4, (vi 2)), (5, (vi c)), (22, (.d y6)), (23, (vin 0)), (38, (vl 3 1 enc_i64 [x0, y0, u0, v0])), (39, (vin 4)), (40, (vin j))], [(0, some y4), (1, some y5)]⟩) (fun (j, c) => j ≤ 4 ∧ c = rgC ((0 : Nat) : Int) (List.take j [x0, y0, u0, v0])) (fun (j, c) => 4 - j) (0, ((0 : Nat) : Int)) wk ⟨by decide, rfl⟩ ?_
  rintro ⟨j, c⟩ ⟨hj, hc⟩
  refine pwp_seq <| kx [(41, (vb (decide (((j : Nat) : Int) < ((4 : Nat) : Int)))))] [] (zE oLt <| zZ) ?_
  refine pwp_seq <| pwp_cond rfl (fun h1 => ?_) (fun h1 => ?_)
  · replace h1 := of_decide_eq_true h1
    refine pwp_skip <| pwp_seq <| pwp_block <| pwp_seq <| kx [(9, (vi ([x0, y0, u0, v0].getD j 0)))] [] (zE (oXl el36 j (0 : Int) (L := [x0, y0, u0, v0]) (hj := by first | omega | (simp only [List.length_cons, List.length_nil]; omega)) (h1 := by first | omega | (simp only [List.length_cons, List.length_nil]; omega))) <| zE (oC1 sh3) <| zM <| zZ) ?_
    refine pwp_seq <| kx [(49, (vb (decide (([x0, y0, u0, v0].getD j 0) < -1048576) || decide (((1048576 : Nat) : Int) < ([x0, y0, u0, v0].getD j 0)))))] [] ?_ ?_
    · refine zM <| zE oLt <| zE (oV (vb (decide (([x0, y0, u0, v0].getD j 0) < -1048576))) (mv_ok (by kernel_rfl))) <| ?_
      rcases hb2 : (decide (([x0, y0, u0, v0].getD j 0) < -1048576)) with _ | _
      · replace hb2 := of_decide_eq_false hb2
        exact zM <| zE oGt <| zE oPo <| zZ
      · replace hb2 := of_decide_eq_true hb2
        exact zK <| zK <| zE oPt <| zZ
    refine pwp_cond rfl (fun h3 => ?_) (fun h3 => ?_)
    · refine kx [(5, (vin 2))] [] (zM <| zZ) ?_
      refine kx [(40, (vin (j + 1)))] [] (zE (oAd (j + 1)) <| zM <| zZ) ?_
      exact ⟨(j + 1, 2), wk, ⟨by show j + 1 ≤ 4; omega, rgC_bad (l := [x0, y0, u0, v0]) (by show j < 4; omega) h3⟩, (by first | omega | (dsimp only; omega))⟩
    · refine pwp_skip <| kx [(40, (vin (j + 1)))] [] (zE (oAd (j + 1)) <| zM <| zZ) ?_
      exact ⟨(j + 1, c), wk, ⟨by show j + 1 ≤ 4; omega, rgC_good (l := [x0, y0, u0, v0]) (by show j < 4; omega) hc h3⟩, (by first | omega | (dsimp only; omega))⟩
  · replace h1 := of_decide_eq_false h1
    have hje : j = 4 := by omega
    have hc2 : c = rgC 0 [x0, y0, u0, v0] := by rw [hc, hje]; rfl
    clear hc
    subst hc2
    refine pwp_exit <| kx [(5, (vi (rgC 0 [x0, y0, u0, v0]))), (23, (vin 1))] [] (zE (oAd 1 (hr := by decide)) <| zM <| zZ) ?_
    refine pwp_again (SimImp.refl _) ?_
    refine pwp_seq <| kx [(24, (vb true))] [] (zE (oBk true oLt) <| zZ) ?_
    refine pwp_seq <| pwp_cond (b := true) (by kernel_rfl) (fun _ => ?_) (fun h => by cases h)
    refine pwp_skip <| pwp_seq <| pwp_block <| pwp_seq <| kx [(7, (.ref 3 0))] [(3, some (bx (encPair (RPair.mk (RPix.mk x1 y1) (RPix.mk u1 v1)))))] (zE (oXa ar26 sh25 (fun h => by cases h) 1) <| zN (oAl 3 ze25 zo25) <| zT (oSt sh25) <| zZ) ?_
    refine pwp_seq <| kx [(38, (vl 3 1 enc_i64 [x1, y1, u1, v1])), (39, (vin 4)), (40, (vin 0))] [] (zE (oFr fo25_0) <| zE (oFr fo23_0) <| zR (oL1 sh3) <| zE (oFr fo25_0) <| zE (oFr fo23_1) <| zR (oL1 sh3) <| zE (oFr fo25_1) <| zE (oFr fo23_0) <| zR (oL1 sh3) <| zE (oFr fo25_1) <| zE (oFr fo23_1) <| zR (oL1 sh3) <| zE (oBs el36 ze3 zo3) <| zE (oLn el36 4) <| zM <| zZ) ?_
    refine pwp_block <| pwp_loop (α := Nat × Int) (fun (j, c) => ⟨[(1, (.ref 0 0)), (3, (.ref 1 0)), (4, (vi 2)), (5, (vi c)), (22, (.d y6)), (23, (vin 1)), (38, (vl 3 1 enc_i64 [x1, y1, u1, v1])), (39, (vin 4)), (40, (vin j))], [(0, some y4), (1, some y5)]⟩) (fun (j, c) => j ≤ 4 ∧ c = rgC (rgC 0 [x0, y0, u0, v0]) (List.take j [x1, y1, u1, v1])) (fun (j, c) => 4 - j) (0, (rgC 0 [x0, y0, u0, v0])) wk ⟨by decide, rfl⟩ ?_
    rintro ⟨j, c⟩ ⟨hj, hc⟩
    refine pwp_seq <| kx [(41, (vb (decide (((j : Nat) : Int) < ((4 : Nat) : Int)))))] [] (zE oLt <| zZ) ?_
    refine pwp_seq <| pwp_cond rfl (fun h4 => ?_) (fun h4 => ?_)
    · replace h4 := of_decide_eq_true h4
      refine pwp_skip <| pwp_seq <| pwp_block <| pwp_seq <| kx [(9, (vi ([x1, y1, u1, v1].getD j 0)))] [] (zE (oXl el36 j (0 : Int) (L := [x1, y1, u1, v1]) (hj := by first | omega | (simp only [List.length_cons, List.length_nil]; omega)) (h1 := by first | omega | (simp only [List.length_cons, List.length_nil]; omega))) <| zE (oC1 sh3) <| zM <| zZ) ?_
      refine pwp_seq <| kx [(49, (vb (decide (([x1, y1, u1, v1].getD j 0) < -1048576) || decide (((1048576 : Nat) : Int) < ([x1, y1, u1, v1].getD j 0)))))] [] ?_ ?_
      · refine zM <| zE oLt <| zE (oV (vb (decide (([x1, y1, u1, v1].getD j 0) < -1048576))) (mv_ok (by kernel_rfl))) <| ?_
        rcases hb5 : (decide (([x1, y1, u1, v1].getD j 0) < -1048576)) with _ | _
        · replace hb5 := of_decide_eq_false hb5
          exact zM <| zE oGt <| zE oPo <| zZ
        · replace hb5 := of_decide_eq_true hb5
          exact zK <| zK <| zE oPt <| zZ
      refine pwp_cond rfl (fun h6 => ?_) (fun h6 => ?_)
      · refine kx [(5, (vin 2))] [] (zM <| zZ) ?_
        refine kx [(40, (vin (j + 1)))] [] (zE (oAd (j + 1)) <| zM <| zZ) ?_
        exact ⟨(j + 1, 2), wk, ⟨by show j + 1 ≤ 4; omega, rgC_bad (l := [x1, y1, u1, v1]) (by show j < 4; omega) h6⟩, (by first | omega | (dsimp only; omega))⟩
      · refine pwp_skip <| kx [(40, (vin (j + 1)))] [] (zE (oAd (j + 1)) <| zM <| zZ) ?_
        exact ⟨(j + 1, c), wk, ⟨by show j + 1 ≤ 4; omega, rgC_good (l := [x1, y1, u1, v1]) (by show j < 4; omega) hc h6⟩, (by first | omega | (dsimp only; omega))⟩
    · replace h4 := of_decide_eq_false h4
      have hje : j = 4 := by omega
      have hc2 : c = rgC (rgC 0 [x0, y0, u0, v0]) [x1, y1, u1, v1] := by rw [hc, hje]; rfl
      clear hc
      subst hc2
      refine pwp_exit <| kx [(5, (vi (rgC (rgC 0 [x0, y0, u0, v0]) [x1, y1, u1, v1]))), (23, (vin 2))] [] (zE (oAd 2 (hr := by decide)) <| zM <| zZ) ?_
      refine pwp_again (SimImp.refl _) ?_
      refine pwp_seq <| kx [(24, (vb true))] [] (zE (oBk true oLt) <| zZ) ?_
      refine pwp_seq <| pwp_cond (b := true) (by kernel_rfl) (fun _ => ?_) (fun h => by cases h)
      refine pwp_skip <| pwp_seq <| pwp_block <| pwp_seq <| kx [(7, (.ref 4 0))] [(4, some (bx (encPair (RPair.mk (RPix.mk x2 y2) (RPix.mk u2 v2)))))] (zE (oXa ar26 sh25 (fun h => by cases h) 2) <| zN (oAl 4 ze25 zo25) <| zT (oSt sh25) <| zZ) ?_
      refine pwp_seq <| kx [(38, (vl 3 1 enc_i64 [x2, y2, u2, v2])), (39, (vin 4)), (40, (vin 0))] [] (zE (oFr fo25_0) <| zE (oFr fo23_0) <| zR (oL1 sh3) <| zE (oFr fo25_0) <| zE (oFr fo23_1) <| zR (oL1 sh3) <| zE (oFr fo25_1) <| zE (oFr fo23_0) <| zR (oL1 sh3) <| zE (oFr fo25_1) <| zE (oFr fo23_1) <| zR (oL1 sh3) <| zE (oBs el36 ze3 zo3) <| zE (oLn el36 4) <| zM <| zZ) ?_
      refine pwp_block <| pwp_loop (α := Nat × Int) (fun (j, c) => ⟨[(1, (.ref 0 0)), (3, (.ref 1 0)), (4, (vi 2)), (5, (vi c)), (22, (.d y6)), (23, (vin 2)), (38, (vl 3 1 enc_i64 [x2, y2, u2, v2])), (39, (vin 4)), (40, (vin j))], [(0, some y4), (1, some y5)]⟩) (fun (j, c) => j ≤ 4 ∧ c = rgC (rgC (rgC 0 [x0, y0, u0, v0]) [x1, y1, u1, v1]) (List.take j [x2, y2, u2, v2])) (fun (j, c) => 4 - j) (0, (rgC (rgC 0 [x0, y0, u0, v0]) [x1, y1, u1, v1])) wk ⟨by decide, rfl⟩ ?_
      rintro ⟨j, c⟩ ⟨hj, hc⟩
      refine pwp_seq <| kx [(41, (vb (decide (((j : Nat) : Int) < ((4 : Nat) : Int)))))] [] (zE oLt <| zZ) ?_
      refine pwp_seq <| pwp_cond rfl (fun h7 => ?_) (fun h7 => ?_)
      · replace h7 := of_decide_eq_true h7
        refine pwp_skip <| pwp_seq <| pwp_block <| pwp_seq <| kx [(9, (vi ([x2, y2, u2, v2].getD j 0)))] [] (zE (oXl el36 j (0 : Int) (L := [x2, y2, u2, v2]) (hj := by first | omega | (simp only [List.length_cons, List.length_nil]; omega)) (h1 := by first | omega | (simp only [List.length_cons, List.length_nil]; omega))) <| zE (oC1 sh3) <| zM <| zZ) ?_
        refine pwp_seq <| kx [(49, (vb (decide (([x2, y2, u2, v2].getD j 0) < -1048576) || decide (((1048576 : Nat) : Int) < ([x2, y2, u2, v2].getD j 0)))))] [] ?_ ?_
        · refine zM <| zE oLt <| zE (oV (vb (decide (([x2, y2, u2, v2].getD j 0) < -1048576))) (mv_ok (by kernel_rfl))) <| ?_
          rcases hb8 : (decide (([x2, y2, u2, v2].getD j 0) < -1048576)) with _ | _
          · replace hb8 := of_decide_eq_false hb8
            exact zM <| zE oGt <| zE oPo <| zZ
          · replace hb8 := of_decide_eq_true hb8
            exact zK <| zK <| zE oPt <| zZ
        refine pwp_cond rfl (fun h9 => ?_) (fun h9 => ?_)
        · refine kx [(5, (vin 2))] [] (zM <| zZ) ?_
          refine kx [(40, (vin (j + 1)))] [] (zE (oAd (j + 1)) <| zM <| zZ) ?_
          exact ⟨(j + 1, 2), wk, ⟨by show j + 1 ≤ 4; omega, rgC_bad (l := [x2, y2, u2, v2]) (by show j < 4; omega) h9⟩, (by first | omega | (dsimp only; omega))⟩
        · refine pwp_skip <| kx [(40, (vin (j + 1)))] [] (zE (oAd (j + 1)) <| zM <| zZ) ?_
          exact ⟨(j + 1, c), wk, ⟨by show j + 1 ≤ 4; omega, rgC_good (l := [x2, y2, u2, v2]) (by show j < 4; omega) hc h9⟩, (by first | omega | (dsimp only; omega))⟩
      · replace h7 := of_decide_eq_false h7
        have hje : j = 4 := by omega
        have hc2 : c = rgC (rgC (rgC 0 [x0, y0, u0, v0]) [x1, y1, u1, v1]) [x2, y2, u2, v2] := by rw [hc, hje]; rfl
        clear hc
        subst hc2
        refine pwp_exit <| kx [(5, (vi (rgC (rgC (rgC 0 [x0, y0, u0, v0]) [x1, y1, u1, v1]) [x2, y2, u2, v2]))), (23, (vin 3))] [] (zE (oAd 3 (hr := by decide)) <| zM <| zZ) ?_
        refine pwp_again (SimImp.refl _) ?_
        refine pwp_seq <| kx [(24, (vb true))] [] (zE (oBk true oLt) <| zZ) ?_
        refine pwp_seq <| pwp_cond (b := true) (by kernel_rfl) (fun _ => ?_) (fun h => by cases h)
        refine pwp_skip <| pwp_seq <| pwp_block <| pwp_seq <| kx [(7, (.ref 5 0))] [(5, some (bx (encPair (RPair.mk (RPix.mk x3 y3) (RPix.mk u3 v3)))))] (zE (oXa ar26 sh25 (fun h => by cases h) 3) <| zN (oAl 5 ze25 zo25) <| zT (oSt sh25) <| zZ) ?_
        refine pwp_seq <| kx [(38, (vl 3 1 enc_i64 [x3, y3, u3, v3])), (39, (vin 4)), (40, (vin 0))] [] (zE (oFr fo25_0) <| zE (oFr fo23_0) <| zR (oL1 sh3) <| zE (oFr fo25_0) <| zE (oFr fo23_1) <| zR (oL1 sh3) <| zE (oFr fo25_1) <| zE (oFr fo23_0) <| zR (oL1 sh3) <| zE (oFr fo25_1) <| zE (oFr fo23_1) <| zR (oL1 sh3) <| zE (oBs el36 ze3 zo3) <| zE (oLn el36 4) <| zM <| zZ) ?_
        refine pwp_block <| pwp_loop (α := Nat × Int) (fun (j, c) => ⟨[(1, (.ref 0 0)), (3, (.ref 1 0)), (4, (vi 2)), (5, (vi c)), (22, (.d y6)), (23, (vin 3)), (38, (vl 3 1 enc_i64 [x3, y3, u3, v3])), (39, (vin 4)), (40, (vin j))], [(0, some y4), (1, some y5)]⟩) (fun (j, c) => j ≤ 4 ∧ c = rgC (rgC (rgC (rgC 0 [x0, y0, u0, v0]) [x1, y1, u1, v1]) [x2, y2, u2, v2]) (List.take j [x3, y3, u3, v3])) (fun (j, c) => 4 - j) (0, (rgC (rgC (rgC 0 [x0, y0, u0, v0]) [x1, y1, u1, v1]) [x2, y2, u2, v2])) wk ⟨by decide, rfl⟩ ?_
        rintro ⟨j, c⟩ ⟨hj, hc⟩
        refine pwp_seq <| kx [(41, (vb (decide (((j : Nat) : Int) < ((4 : Nat) : Int)))))] [] (zE oLt <| zZ) ?_
        refine pwp_seq <| pwp_cond rfl (fun h10 => ?_) (fun h10 => ?_)
        · replace h10 := of_decide_eq_true h10
          refine pwp_skip <| pwp_seq <| pwp_block <| pwp_seq <| kx [(9, (vi ([x3, y3, u3, v3].getD j 0)))] [] (zE (oXl el36 j (0 : Int) (L := [x3, y3, u3, v3]) (hj := by first | omega | (simp only [List.length_cons, List.length_nil]; omega)) (h1 := by first | omega | (simp only [List.length_cons, List.length_nil]; omega))) <| zE (oC1 sh3) <| zM <| zZ) ?_
          refine pwp_seq <| kx [(49, (vb (decide (([x3, y3, u3, v3].getD j 0) < -1048576) || decide (((1048576 : Nat) : Int) < ([x3, y3, u3, v3].getD j 0)))))] [] ?_ ?_
          · refine zM <| zE oLt <| zE (oV (vb (decide (([x3, y3, u3, v3].getD j 0) < -1048576))) (mv_ok (by kernel_rfl))) <| ?_
            rcases hb11 : (decide (([x3, y3, u3, v3].getD j 0) < -1048576)) with _ | _
            · replace hb11 := of_decide_eq_false hb11
              exact zM <| zE oGt <| zE oPo <| zZ
            · replace hb11 := of_decide_eq_true hb11
              exact zK <| zK <| zE oPt <| zZ
          refine pwp_cond rfl (fun h12 => ?_) (fun h12 => ?_)
          · refine kx [(5, (vin 2))] [] (zM <| zZ) ?_
            refine kx [(40, (vin (j + 1)))] [] (zE (oAd (j + 1)) <| zM <| zZ) ?_
            exact ⟨(j + 1, 2), wk, ⟨by show j + 1 ≤ 4; omega, rgC_bad (l := [x3, y3, u3, v3]) (by show j < 4; omega) h12⟩, (by first | omega | (dsimp only; omega))⟩
          · refine pwp_skip <| kx [(40, (vin (j + 1)))] [] (zE (oAd (j + 1)) <| zM <| zZ) ?_
            exact ⟨(j + 1, c), wk, ⟨by show j + 1 ≤ 4; omega, rgC_good (l := [x3, y3, u3, v3]) (by show j < 4; omega) hc h12⟩, (by first | omega | (dsimp only; omega))⟩
        · replace h10 := of_decide_eq_false h10
          have hje : j = 4 := by omega
          have hc2 : c = rgC (rgC (rgC (rgC 0 [x0, y0, u0, v0]) [x1, y1, u1, v1]) [x2, y2, u2, v2]) [x3, y3, u3, v3] := by rw [hc, hje]; rfl
          clear hc
          subst hc2
          refine pwp_exit <| kx [(5, (vi (rgC (rgC (rgC (rgC 0 [x0, y0, u0, v0]) [x1, y1, u1, v1]) [x2, y2, u2, v2]) [x3, y3, u3, v3]))), (23, (vin 4))] [] (zE (oAd 4 (hr := by decide)) <| zM <| zZ) ?_
          refine pwp_again (SimImp.refl _) ?_
          refine pwp_seq <| kx [(24, (vb false))] [] (zE (oBk false oLt) <| zZ) ?_
          refine pwp_seq <| pwp_cond (b := false) (by kernel_rfl) (fun h => by cases h) (fun _ => ?_)
          refine pwp_exit <| pwp_seq <| kx [(10, (.ref 6 0))] [(6, some y5)] (zE (oBa ar32 ze32 zo32) <| zN (oAl 6 ze32 zo32) <| zT (oSt sh32) <| zZ) ?_
          refine pwp_seq <| pwp_seq <| kx [(54, (vb false))] [] (zM <| zE (oBk false oEq (by exact beq_eq_false_iff_ne.2 hc5)) <| zZ) ?_
          refine pwp_cond (b := false) (by kernel_rfl) (fun h => by cases h) (fun _ => ?_)
          refine pwp_skip <| pwp_seq <| pwp_seq <| kx [(64, (vb true))] [] (zM <| zE (oBk true oNe (by exact bne_iff_ne.2 hc5)) <| zZ) ?_
          refine pwp_cond (b := true) (by kernel_rfl) (fun _ => ?_) (fun h => by cases h)
          refine pwp_seq <| kx [(2, (vb true))] [] (zM <| zM <| zE (oBk true oEq (by exact beq_iff_eq.2 hc4)) <| zM <| zE (e_slv (by exact rfl) ar32 (by exact rfl) (by kernel_rfl) (by kernel_rfl)) <| zR ⟨y5, e_clv (es := List.map encI y7) (l_empty 1000000 y7 [0, 0, 0, 0, 0, 0, 0, 0, 0] (.cons (iu iok_zero) (.cons (iu iok_zero) (.cons (iu iok_zero) (.cons (iu iok_zero) (.cons (iu iok_zero) (.cons (iu iok_zero) (.cons (iu iok_zero) (.cons (iu iok_zero) (.cons (iu iok_zero) .nil))))))))) (Nat.le_of_ble_eq_true rfl) (allnil_of rfl)) (by exact rfl) (by kernel_rfl) (by exact rfl) (.v .nil) (pubs_cells _ _ (fun _ => rfl)) (by kernel_rfl) (by kernel_rfl) (.val _), by kernel_rfl⟩ <| zE oPt <| zM <| zZ) ?_
          refine pwp_ret ⟨_, (.tmp (d := (.val (.bool (true)))) rfl .nil), ?_⟩
          rfl
theorem w_fouFF (x0 y0 u0 v0 x1 y1 u1 v1 x2 y2 u2 v2 x3 y3 u3 v3 : Int) (hx0 : -1048576 ≤ x0 ∧ x0 ≤ 1048576) (hy0 : -1048576 ≤ y0 ∧ y0 ≤ 1048576) (hu0 : -1048576 ≤ u0 ∧ u0 ≤ 1048576) (hv0 : -1048576 ≤ v0 ∧ v0 ≤ 1048576) (hx1 : -1048576 ≤ x1 ∧ x1 ≤ 1048576) (hy1 : -1048576 ≤ y1 ∧ y1 ≤ 1048576) (hu1 : -1048576 ≤ u1 ∧ u1 ≤ 1048576) (hv1 : -1048576 ≤ v1 ∧ v1 ≤ 1048576) (hx2 : -1048576 ≤ x2 ∧ x2 ≤ 1048576) (hy2 : -1048576 ≤ y2 ∧ y2 ≤ 1048576) (hu2 : -1048576 ≤ u2 ∧ u2 ≤ 1048576) (hv2 : -1048576 ≤ v2 ∧ v2 ≤ 1048576) (hx3 : -1048576 ≤ x3 ∧ x3 ≤ 1048576) (hy3 : -1048576 ≤ y3 ∧ y3 ≤ 1048576) (hu3 : -1048576 ≤ u3 ∧ u3 ≤ 1048576) (hv3 : -1048576 ≤ v3 ∧ v3 ≤ 1048576) (k0 : Int) (hk0 : (det3 x3 y3 1 x1 y1 1 x2 y2 1) = k0) (k1 : Int) (hk1 : (det3 x0 y0 1 x3 y3 1 x2 y2 1) = k1) (k2 : Int) (hk2 : (det3 x0 y0 1 x1 y1 1 x3 y3 1) = k2) (k3 : Int) (hk3 : (det3 x0 y0 1 x1 y1 1 x2 y2 1) = k3) (m0 : Int) (hm0 : (det3 u3 v3 1 u1 v1 1 u2 v2 1) = m0) (m1 : Int) (hm1 : (det3 u0 v0 1 u3 v3 1 u2 v2 1) = m1) (m2 : Int) (hm2 : (det3 u0 v0 1 u1 v1 1 u3 v3 1) = m2) (m3 : Int) (hm3 : (det3 u0 v0 1 u1 v1 1 u2 v2 1) = m3) (a0 : Int) (ha0 : (k0 * x0) = a0) (a1 : Int) (ha1 : (k1 * x1) = a1) (a2 : Int) (ha2 : (k2 * x2) = a2) (a3 : Int) (ha3 : (k0 * y0) = a3) (a4 : Int) (ha4 : (k1 * y1) = a4) (a5 : Int) (ha5 : (k2 * y2) = a5) (a6 : Int) (ha6 : (k0 * 1) = a6) (a7 : Int) (ha7 : (k1 * 1) = a7) (a8 : Int) (ha8 : (k2 * 1) = a8) (b0 : Int) (hb0 : (m0 * u0) = b0) (b1 : Int) (hb1 : (m1 * u1) = b1) (b2 : Int) (hb2 : (m2 * u2) = b2) (b3 : Int) (hb3 : (m0 * v0) = b3) (b4 : Int) (hb4 : (m1 * v1) = b4) (b5 : Int) (hb5 : (m2 * v2) = b5) (b6 : Int) (hb6 : (m0 * 1) = b6) (b7 : Int) (hb7 : (m1 * 1) = b7) (b8 : Int) (hb8 : (m2 * 1) = b8) (f0 f1 f2 : Int) (hf : redL [x0, y0, 1] = [f0, f1, f2]) (g0 g1 g2 : Int) (hg : redL [x1, y1, 1] = [g0, g1, g2]) (h0 h1 h2 : Int) (hh : redL [x2, y2, 1] = [h0, h1, h2]) (i0 i1 i2 : Int) (hi : redL [x3, y3, 1] = [i0, i1, i2]) (p0 p1 p2 : Int) (hp : redL [u0, v0, 1] = [p0, p1, p2]) (q0 q1 q2 : Int) (hq : redL [u1, v1, 1] = [q0, q1, q2]) (s0 s1 s2 : Int) (hs : redL [u2, v2, 1] = [s0, s1, s2]) (t0 t1 t2 : Int) (ht : redL [u3, v3, 1] = [t0, t1, t2]) (hzk : k0 * k1 * k2 * k3 = 0) (hzm : m0 * m1 * m2 * m3 = 0) (hzf : (det3 i0 i1 i2 g0 g1 g2 h0 h1 h2) * (det3 f0 f1 f2 i0 i1 i2 h0 h1 h2) * (det3 f0 f1 f2 g0 g1 g2 i0 i1 i2) * (det3 f0 f1 f2 g0 g1 g2 h0 h1 h2) = 0) (hzt : (det3 t0 t1 t2 q0 q1 q2 s0 s1 s2) * (det3 p0 p1 p2 t0 t1 t2 s0 s1 s2) * (det3 p0 p1 p2 q0 q1 q2 t0 t1 t2) * (det3 p0 p1 p2 q0 q1 q2 s0 s1 s2) = 0) : Takes Tryz.prog 3 [(encA26 (A4.mk (RPair.mk (RPix.mk x0 y0) (RPix.mk u0 v0)) (RPair.mk (RPix.mk x1 y1) (RPix.mk u1 v1)) (RPair.mk (RPix.mk x2 y2) (RPix.mk u2 v2)) (RPair.mk (RPix.mk x3 y3) (RPix.mk u3 v3))))] (.val (.bool (true))) := by
  let y7 := [(RInt.mk false []), (RInt.mk false []), (RInt.mk false []), (RInt.mk false []), (RInt.mk false []), (RInt.mk false []), (RInt.mk false []), (RInt.mk false []), (RInt.mk false [])]
  let y6 := (encA26 (A4.mk (RPair.mk (RPix.mk x0 y0) (RPix.mk u0 v0)) (RPair.mk (RPix.mk x1 y1) (RPix.mk u1 v1)) (RPair.mk (RPix.mk x2 y2) (RPix.mk u2 v2)) (RPair.mk (RPix.mk x3 y3) (RPix.mk u3 v3))))
  let y5 := (bx (encA31 (A9.mk (RInt.mk false []) (RInt.mk false []) (RInt.mk false []) (RInt.mk false []) (RInt.mk false []) (RInt.mk false []) (RInt.mk false []) (RInt.mk false []) (RInt.mk false []))))
  let y4 := (bx y6)
  refine fn_intro Tryz.func3 rfl cb3 rfl ?_
  show PWp _ _ _ _ ⟨[(0, (.d y6))], []⟩
  refine pwp_seq <| kx [(1, (.ref 0 0))] [(0, some y4)] (zN (oBx 0) <| zM <| zZ) ?_
  refine pwp_seq <| pwp_seq <| kx [(16, (vb false))] [] (zE (oCl l_known27) <| zE oNt <| zZ) ?_
  refine pwp_cond (b := false) (by kernel_rfl) (fun h => by cases h) (fun _ => ?_)
  refine pwp_skip <| pwp_seq ?_
  have bn1 : IOk (ofZ k0) k0 6 := (iok_eqz hk0.symm (iok_det3 (n := 1) (k := 6) (iok_small (z := x3) (by omega)) (iok_small (z := y3) (by omega)) (iok_small (z := 1) (by decide)) (iok_small (z := x1) (by omega)) (iok_small (z := y1) (by omega)) (iok_small (z := 1) (by decide)) (iok_small (z := x2) (by omega)) (iok_small (z := y2) (by omega)) (iok_small (z := 1) (by decide)) (by decide)))
  have bn2 : IOk (ofZ k1) k1 6 := (iok_eqz hk1.symm (iok_det3 (n := 1) (k := 6) (iok_small (z := x0) (by omega)) (iok_small (z := y0) (by omega)) (iok_small (z := 1) (by decide)) (iok_small (z := x3) (by omega)) (iok_small (z := y3) (by omega)) (iok_small (z := 1) (by decide)) (iok_small (z := x2) (by omega)) (iok_small (z := y2) (by omega)) (iok_small (z := 1) (by decide)) (by decide)))
  have bn3 : IOk (ofZ k2) k2 6 := (iok_eqz hk2.symm (iok_det3 (n := 1) (k := 6) (iok_small (z := x0) (by omega)) (iok_small (z := y0) (by omega)) (iok_small (z := 1) (by decide)) (iok_small (z := x1) (by omega)) (iok_small (z := y1) (by omega)) (iok_small (z := 1) (by decide)) (iok_small (z := x3) (by omega)) (iok_small (z := y3) (by omega)) (iok_small (z := 1) (by decide)) (by decide)))
  have bn4 : IOk (ofZ k3) k3 6 := (iok_eqz hk3.symm (iok_det3 (n := 1) (k := 6) (iok_small (z := x0) (by omega)) (iok_small (z := y0) (by omega)) (iok_small (z := 1) (by decide)) (iok_small (z := x1) (by omega)) (iok_small (z := y1) (by omega)) (iok_small (z := 1) (by decide)) (iok_small (z := x2) (by omega)) (iok_small (z := y2) (by omega)) (iok_small (z := 1) (by decide)) (by decide)))
  have bn5 : IOk (ofZ m0) m0 6 := (iok_eqz hm0.symm (iok_det3 (n := 1) (k := 6) (iok_small (z := u3) (by omega)) (iok_small (z := v3) (by omega)) (iok_small (z := 1) (by decide)) (iok_small (z := u1) (by omega)) (iok_small (z := v1) (by omega)) (iok_small (z := 1) (by decide)) (iok_small (z := u2) (by omega)) (iok_small (z := v2) (by omega)) (iok_small (z := 1) (by decide)) (by decide)))
  have bn6 : IOk (ofZ m1) m1 6 := (iok_eqz hm1.symm (iok_det3 (n := 1) (k := 6) (iok_small (z := u0) (by omega)) (iok_small (z := v0) (by omega)) (iok_small (z := 1) (by decide)) (iok_small (z := u3) (by omega)) (iok_small (z := v3) (by omega)) (iok_small (z := 1) (by decide)) (iok_small (z := u2) (by omega)) (iok_small (z := v2) (by omega)) (iok_small (z := 1) (by decide)) (by decide)))
  have bn7 : IOk (ofZ m2) m2 6 := (iok_eqz hm2.symm (iok_det3 (n := 1) (k := 6) (iok_small (z := u0) (by omega)) (iok_small (z := v0) (by omega)) (iok_small (z := 1) (by decide)) (iok_small (z := u1) (by omega)) (iok_small (z := v1) (by omega)) (iok_small (z := 1) (by decide)) (iok_small (z := u3) (by omega)) (iok_small (z := v3) (by omega)) (iok_small (z := 1) (by decide)) (by decide)))
  have bn8 : IOk (ofZ m3) m3 6 := (iok_eqz hm3.symm (iok_det3 (n := 1) (k := 6) (iok_small (z := u0) (by omega)) (iok_small (z := v0) (by omega)) (iok_small (z := 1) (by decide)) (iok_small (z := u1) (by omega)) (iok_small (z := v1) (by omega)) (iok_small (z := 1) (by decide)) (iok_small (z := u2) (by omega)) (iok_small (z := v2) (by omega)) (iok_small (z := 1) (by decide)) (by decide)))
  have bn9 : IOk (ofZ a0) a0 7 := (iok_eqz ha0.symm (iok_mul (k := 7) bn1 (iok_small (z := x0) (by omega)) (by decide)))
  have bn10 : IOk (ofZ a1) a1 7 := (iok_eqz ha1.symm (iok_mul (k := 7) bn2 (iok_small (z := x1) (by omega)) (by decide)))
  have bn11 : IOk (ofZ a2) a2 7 := (iok_eqz ha2.symm (iok_mul (k := 7) bn3 (iok_small (z := x2) (by omega)) (by decide)))
  have bn12 : IOk (ofZ a3) a3 7 := (iok_eqz ha3.symm (iok_mul (k := 7) bn1 (iok_small (z := y0) (by omega)) (by decide)))
  have bn13 : IOk (ofZ a4) a4 7 := (iok_eqz ha4.symm (iok_mul (k := 7) bn2 (iok_small (z := y1) (by omega)) (by decide)))
  have bn14 : IOk (ofZ a5) a5 7 := (iok_eqz ha5.symm (iok_mul (k := 7) bn3 (iok_small (z := y2) (by omega)) (by decide)))
  have bn15 : IOk (ofZ a6) a6 7 := (iok_eqz ha6.symm (iok_mul (k := 7) bn1 (iok_small (z := 1) (by decide)) (by decide)))
  have bn16 : IOk (ofZ a7) a7 7 := (iok_eqz ha7.symm (iok_mul (k := 7) bn2 (iok_small (z := 1) (by decide)) (by decide)))
  have bn17 : IOk (ofZ a8) a8 7 := (iok_eqz ha8.symm (iok_mul (k := 7) bn3 (iok_small (z := 1) (by decide)) (by decide)))
  have bn18 : IOk (ofZ b0) b0 7 := (iok_eqz hb0.symm (iok_mul (k := 7) bn5 (iok_small (z := u0) (by omega)) (by decide)))
  have bn19 : IOk (ofZ b1) b1 7 := (iok_eqz hb1.symm (iok_mul (k := 7) bn6 (iok_small (z := u1) (by omega)) (by decide)))
  have bn20 : IOk (ofZ b2) b2 7 := (iok_eqz hb2.symm (iok_mul (k := 7) bn7 (iok_small (z := u2) (by omega)) (by decide)))
  have bn21 : IOk (ofZ b3) b3 7 := (iok_eqz hb3.symm (iok_mul (k := 7) bn5 (iok_small (z := v0) (by omega)) (by decide)))
  have bn22 : IOk (ofZ b4) b4 7 := (iok_eqz hb4.symm (iok_mul (k := 7) bn6 (iok_small (z := v1) (by omega)) (by decide)))
  have bn23 : IOk (ofZ b5) b5 7 := (iok_eqz hb5.symm (iok_mul (k := 7) bn7 (iok_small (z := v2) (by omega)) (by decide)))
  have bn24 : IOk (ofZ b6) b6 7 := (iok_eqz hb6.symm (iok_mul (k := 7) bn5 (iok_small (z := 1) (by decide)) (by decide)))
  have bn25 : IOk (ofZ b7) b7 7 := (iok_eqz hb7.symm (iok_mul (k := 7) bn6 (iok_small (z := 1) (by decide)) (by decide)))
  have bn26 : IOk (ofZ b8) b8 7 := (iok_eqz hb8.symm (iok_mul (k := 7) bn7 (iok_small (z := 1) (by decide)) (by decide)))
  refine kx [(3, (.ref 1 0)), (4, (vi 13))] [(1, some y5)] (zR (oLa sh26) <| zE (oCl (d_fourFF x0 y0 u0 v0 x1 y1 u1 v1 x2 y2 u2 v2 x3 y3 u3 v3 (by omega) (by omega) (by omega) (by omega) (by omega) (by omega) (by omega) (by omega) (by omega) (by omega) (by omega) (by omega) (by omega) (by omega) (by omega) (by omega) k0 hk0 k1 hk1 k2 hk2 k3 hk3 m0 hm0 m1 hm1 m2 hm2 m3 hm3 a0 ha0 a1 ha1 a2 ha2 a3 ha3 a4 ha4 a5 ha5 a6 ha6 a7 ha7 a8 ha8 b0 hb0 b1 hb1 b2 hb2 b3 hb3 b4 hb4 b5 hb5 b6 hb6 b7 hb7 b8 hb8 hzk hzm)) <| zM <| zE oEx <| zE oEx <| zN (oAl 1 ze32 zo32) <| zT (oSt sh32) <| zM <| zZ) ?_
  refine pwp_seq <| kx [(5, (vin 0))] [] (zM <| zZ) ?_
  refine pwp_seq <| pwp_seq <| kx [(22, (.d y6)), (23, (vin 0))] [] (zR (oLa sh26) <| zM <| zZ) ?_
  refine pwp_block <| pwp_rounds 20 ?_
  refine pwp_round <| pwp_seq <| kx [(24, (vb true))] [] (zE (oBk true oLt) <| zZ) ?_
  refine pwp_seq <| pwp_cond (b := true) (by kernel_rfl) (fun _ => ?_) (fun h => by cases h)
  refine pwp_skip <| pwp_seq <| pwp_block <| pwp_seq <| kx [(7, (.ref 2 0))] [(2, some (bx (encPair (RPair.mk (RPix.mk x0 y0) (RPix.mk u0 v0)))))] (zE (oXa ar26 sh25 (fun h => by cases h) 0) <| zN (oAl 2 ze25 zo25) <| zT (oSt sh25) <| zZ) ?_
  refine pwp_seq <| kx [(38, (vl 3 1 enc_i64 [x0, y0, u0, v0])), (39, (vin 4)), (40, (vin 0))] [] (zE (oFr fo25_0) <| zE (oFr fo23_0) <| zR (oL1 sh3) <| zE (oFr fo25_0) <| zE (oFr fo23_1) <| zR (oL1 sh3) <| zE (oFr fo25_1) <| zE (oFr fo23_0) <| zR (oL1 sh3) <| zE (oFr fo25_1) <| zE (oFr fo23_1) <| zR (oL1 sh3) <| zE (oBs el36 ze3 zo3) <| zE (oLn el36 4) <| zM <| zZ) ?_
  refine pwp_block <| pwp_rounds 20 ?_
  refine pwp_round <| pwp_seq <| kx [(41, (vb true))] [] (zE (oBk true oLt) <| zZ) ?_
  refine pwp_seq <| pwp_cond (b := true) (by kernel_rfl) (fun _ => ?_) (fun h => by cases h)
  refine pwp_skip <| pwp_seq <| pwp_block <| pwp_seq <| kx [(9, (vi x0))] [] (zE (oXs el36 0) <| zE (oC1 sh3) <| zM <| zZ) ?_
  refine pwp_seq <| kx [(49, (vb false))] [] (zM <| zE (oBk false oLt (by exact decide_eq_false (by omega))) <| zM <| zM <| zE (oBk false oGt (by exact decide_eq_false (by omega))) <| zE oPf <| zZ) ?_
  refine pwp_cond (b := false) (by kernel_rfl) (fun h => by cases h) (fun _ => ?_)
  refine pwp_skip <| kx [(40, (vin 1))] [] (zE (oAd 1 (hr := by decide)) <| zM <| zZ) ?_
  refine pwp_again (SimImp.refl _) ?_
  refine pwp_seq <| kx [(41, (vb true))] [] (zE (oBk true oLt) <| zZ) ?_
  refine pwp_seq <| pwp_cond (b := true) (by kernel_rfl) (fun _ => ?_) (fun h => by cases h)
  refine pwp_skip <| pwp_seq <| pwp_block <| pwp_seq <| kx [(9, (vi y0))] [] (zE (oXs el36 1) <| zE (oC1 sh3) <| zM <| zZ) ?_
  refine pwp_seq <| pwp_sim (wk (l := [(1, (.ref 0 0)), (3, (.ref 1 0)), (4, (vi 13)), (5, (vin 0)), (9, (vi y0)), (22, (.d y6)), (23, (vin 0)), (38, (vl 3 1 enc_i64 [x0, y0, u0, v0])), (39, (vin 4)), (40, (vin 1))]) (b := [(0, some y4), (1, some y5)])) ?_
  refine kx [(49, (vb false))] [] (zM <| zE (oBk false oLt (by exact decide_eq_false (by omega))) <| zM <| zM <| zE (oBk false oGt (by exact decide_eq_false (by omega))) <| zE oPf <| zZ) ?_
  refine pwp_cond (b := false) (by kernel_rfl) (fun h => by cases h) (fun _ => ?_)
  refine pwp_skip <| kx [(40, (vin 2))] [] (zE (oAd 2 (hr := by decide)) <| zM <| zZ) ?_
  refine pwp_again (SimImp.refl _) ?_
  refine pwp_seq <| kx [(41, (vb true))] [] (zE (oBk true oLt) <| zZ) ?_
  refine pwp_seq <| pwp_cond (b := true) (by kernel_rfl) (fun _ => ?_) (fun h => by cases h)
  refine pwp_skip <| pwp_seq <| pwp_block <| pwp_seq <| kx [(9, (vi u0))] [] (zE (oXs el36 2) <| zE (oC1 sh3) <| zM <| zZ) ?_
  refine pwp_seq <| kx [(49, (vb false))] [] (zM <| zE (oBk false oLt (by exact decide_eq_false (by omega))) <| zM <| zM <| zE (oBk false oGt (by exact decide_eq_false (by omega))) <| zE oPf <| zZ) ?_
  refine pwp_cond (b := false) (by kernel_rfl) (fun h => by cases h) (fun _ => ?_)
  refine pwp_skip <| kx [(40, (vin 3))] [] (zE (oAd 3 (hr := by decide)) <| zM <| zZ) ?_
  refine pwp_again (SimImp.refl _) ?_
  refine pwp_seq <| kx [(41, (vb true))] [] (zE (oBk true oLt) <| zZ) ?_
  refine pwp_seq <| pwp_cond (b := true) (by kernel_rfl) (fun _ => ?_) (fun h => by cases h)
  refine pwp_skip <| pwp_seq <| pwp_block <| pwp_seq <| kx [(9, (vi v0))] [] (zE (oXs el36 3) <| zE (oC1 sh3) <| zM <| zZ) ?_
  refine pwp_seq <| kx [(49, (vb false))] [] (zM <| zE (oBk false oLt (by exact decide_eq_false (by omega))) <| zM <| zM <| zE (oBk false oGt (by exact decide_eq_false (by omega))) <| zE oPf <| zZ) ?_
  refine pwp_cond (b := false) (by kernel_rfl) (fun h => by cases h) (fun _ => ?_)
  refine pwp_skip <| kx [(40, (vin 4))] [] (zE (oAd 4 (hr := by decide)) <| zM <| zZ) ?_
  refine pwp_again (SimImp.refl _) ?_
  refine pwp_seq <| kx [(41, (vb false))] [] (zE (oBk false oLt) <| zZ) ?_
  refine pwp_seq <| pwp_cond (b := false) (by kernel_rfl) (fun h => by cases h) (fun _ => ?_)
  refine pwp_exit <| kx [(23, (vin 1))] [] (zE (oAd 1 (hr := by decide)) <| zM <| zZ) ?_
  refine pwp_again (SimImp.refl _) ?_
  refine pwp_seq <| kx [(24, (vb true))] [] (zE (oBk true oLt) <| zZ) ?_
  refine pwp_seq <| pwp_cond (b := true) (by kernel_rfl) (fun _ => ?_) (fun h => by cases h)
  refine pwp_skip <| pwp_seq <| pwp_block <| pwp_seq <| kx [(7, (.ref 3 0))] [(3, some (bx (encPair (RPair.mk (RPix.mk x1 y1) (RPix.mk u1 v1)))))] (zE (oXa ar26 sh25 (fun h => by cases h) 1) <| zN (oAl 3 ze25 zo25) <| zT (oSt sh25) <| zZ) ?_
  refine pwp_seq <| pwp_sim (wk (l := [(1, (.ref 0 0)), (3, (.ref 1 0)), (4, (vi 13)), (5, (vin 0)), (7, (.ref 3 0)), (22, (.d y6)), (23, (vin 1))]) (b := [(0, some y4), (1, some y5), (3, some (bx (encPair (RPair.mk (RPix.mk x1 y1) (RPix.mk u1 v1)))))])) ?_
  refine kx [(38, (vl 3 1 enc_i64 [x1, y1, u1, v1])), (39, (vin 4)), (40, (vin 0))] [] (zE (oFr fo25_0) <| zE (oFr fo23_0) <| zR (oL1 sh3) <| zE (oFr fo25_0) <| zE (oFr fo23_1) <| zR (oL1 sh3) <| zE (oFr fo25_1) <| zE (oFr fo23_0) <| zR (oL1 sh3) <| zE (oFr fo25_1) <| zE (oFr fo23_1) <| zR (oL1 sh3) <| zE (oBs el36 ze3 zo3) <| zE (oLn el36 4) <| zM <| zZ) ?_
  refine pwp_block <| pwp_rounds 20 ?_
  refine pwp_round <| pwp_seq <| kx [(41, (vb true))] [] (zE (oBk true oLt) <| zZ) ?_
  refine pwp_seq <| pwp_cond (b := true) (by kernel_rfl) (fun _ => ?_) (fun h => by cases h)
  refine pwp_skip <| pwp_seq <| pwp_block <| pwp_seq <| kx [(9, (vi x1))] [] (zE (oXs el36 0) <| zE (oC1 sh3) <| zM <| zZ) ?_
  refine pwp_seq <| kx [(49, (vb false))] [] (zM <| zE (oBk false oLt (by exact decide_eq_false (by omega))) <| zM <| zM <| zE (oBk false oGt (by exact decide_eq_false (by omega))) <| zE oPf <| zZ) ?_
  refine pwp_cond (b := false) (by kernel_rfl) (fun h => by cases h) (fun _ => ?_)
  refine pwp_skip <| kx [(40, (vin 1))] [] (zE (oAd 1 (hr := by decide)) <| zM <| zZ) ?_
  refine pwp_again (SimImp.refl _) ?_
  refine pwp_seq <| kx [(41, (vb true))] [] (zE (oBk true oLt) <| zZ) ?_
  refine pwp_seq <| pwp_cond (b := true) (by kernel_rfl) (fun _ => ?_) (fun h => by cases h)
  refine pwp_skip <| pwp_seq <| pwp_block <| pwp_seq <| kx [(9, (vi y1))] [] (zE (oXs el36 1) <| zE (oC1 sh3) <| zM <| zZ) ?_
  refine pwp_seq <| kx [(49, (vb false))] [] (zM <| zE (oBk false oLt (by exact decide_eq_false (by omega))) <| zM <| zM <| zE (oBk false oGt (by exact decide_eq_false (by omega))) <| zE oPf <| zZ) ?_
  refine pwp_cond (b := false) (by kernel_rfl) (fun h => by cases h) (fun _ => ?_)
  refine pwp_skip <| kx [(40, (vin 2))] [] (zE (oAd 2 (hr := by decide)) <| zM <| zZ) ?_
  refine pwp_again (SimImp.refl _) ?_
  refine pwp_seq <| kx [(41, (vb true))] [] (zE (oBk true oLt) <| zZ) ?_
  refine pwp_seq <| pwp_cond (b := true) (by kernel_rfl) (fun _ => ?_) (fun h => by cases h)
  refine pwp_skip <| pwp_seq <| pwp_block <| pwp_seq <| kx [(9, (vi u1))] [] (zE (oXs el36 2) <| zE (oC1 sh3) <| zM <| zZ) ?_
  refine pwp_seq <| kx [(49, (vb false))] [] (zM <| zE (oBk false oLt (by exact decide_eq_false (by omega))) <| zM <| zM <| zE (oBk false oGt (by exact decide_eq_false (by omega))) <| zE oPf <| zZ) ?_
  refine pwp_cond (b := false) (by kernel_rfl) (fun h => by cases h) (fun _ => ?_)
  refine pwp_skip <| kx [(40, (vin 3))] [] (zE (oAd 3 (hr := by decide)) <| zM <| zZ) ?_
  refine pwp_again (SimImp.refl _) ?_
  refine pwp_seq <| kx [(41, (vb true))] [] (zE (oBk true oLt) <| zZ) ?_
  refine pwp_seq <| pwp_cond (b := true) (by kernel_rfl) (fun _ => ?_) (fun h => by cases h)
  refine pwp_skip <| pwp_seq <| pwp_block <| pwp_seq <| pwp_sim (wk (l := [(1, (.ref 0 0)), (3, (.ref 1 0)), (4, (vi 13)), (5, (vin 0)), (22, (.d y6)), (23, (vin 1)), (38, (vl 3 1 enc_i64 [x1, y1, u1, v1])), (39, (vin 4)), (40, (vin 3)), (41, (vb true))]) (b := [(0, some y4), (1, some y5)])) ?_
  refine kx [(9, (vi v1))] [] (zE (oXs el36 3) <| zE (oC1 sh3) <| zM <| zZ) ?_
  refine pwp_seq <| kx [(49, (vb false))] [] (zM <| zE (oBk false oLt (by exact decide_eq_false (by omega))) <| zM <| zM <| zE (oBk false oGt (by exact decide_eq_false (by omega))) <| zE oPf <| zZ) ?_
  refine pwp_cond (b := false) (by kernel_rfl) (fun h => by cases h) (fun _ => ?_)
  refine pwp_skip <| kx [(40, (vin 4))] [] (zE (oAd 4 (hr := by decide)) <| zM <| zZ) ?_
  refine pwp_again (SimImp.refl _) ?_
  refine pwp_seq <| kx [(41, (vb false))] [] (zE (oBk false oLt) <| zZ) ?_
  refine pwp_seq <| pwp_cond (b := false) (by kernel_rfl) (fun h => by cases h) (fun _ => ?_)
  refine pwp_exit <| kx [(23, (vin 2))] [] (zE (oAd 2 (hr := by decide)) <| zM <| zZ) ?_
  refine pwp_again (SimImp.refl _) ?_
  refine pwp_seq <| kx [(24, (vb true))] [] (zE (oBk true oLt) <| zZ) ?_
  refine pwp_seq <| pwp_cond (b := true) (by kernel_rfl) (fun _ => ?_) (fun h => by cases h)
  refine pwp_skip <| pwp_seq <| pwp_block <| pwp_seq <| kx [(7, (.ref 4 0))] [(4, some (bx (encPair (RPair.mk (RPix.mk x2 y2) (RPix.mk u2 v2)))))] (zE (oXa ar26 sh25 (fun h => by cases h) 2) <| zN (oAl 4 ze25 zo25) <| zT (oSt sh25) <| zZ) ?_
  refine pwp_seq <| kx [(38, (vl 3 1 enc_i64 [x2, y2, u2, v2])), (39, (vin 4)), (40, (vin 0))] [] (zE (oFr fo25_0) <| zE (oFr fo23_0) <| zR (oL1 sh3) <| zE (oFr fo25_0) <| zE (oFr fo23_1) <| zR (oL1 sh3) <| zE (oFr fo25_1) <| zE (oFr fo23_0) <| zR (oL1 sh3) <| zE (oFr fo25_1) <| zE (oFr fo23_1) <| zR (oL1 sh3) <| zE (oBs el36 ze3 zo3) <| zE (oLn el36 4) <| zM <| zZ) ?_
  refine pwp_block <| pwp_rounds 20 ?_
  refine pwp_round <| pwp_seq <| kx [(41, (vb true))] [] (zE (oBk true oLt) <| zZ) ?_
  refine pwp_seq <| pwp_cond (b := true) (by kernel_rfl) (fun _ => ?_) (fun h => by cases h)
  refine pwp_skip <| pwp_seq <| pwp_block <| pwp_seq <| kx [(9, (vi x2))] [] (zE (oXs el36 0) <| zE (oC1 sh3) <| zM <| zZ) ?_
  refine pwp_seq <| kx [(49, (vb false))] [] (zM <| zE (oBk false oLt (by exact decide_eq_false (by omega))) <| zM <| zM <| zE (oBk false oGt (by exact decide_eq_false (by omega))) <| zE oPf <| zZ) ?_
  refine pwp_cond (b := false) (by kernel_rfl) (fun h => by cases h) (fun _ => ?_)
  refine pwp_skip <| kx [(40, (vin 1))] [] (zE (oAd 1 (hr := by decide)) <| zM <| zZ) ?_
  refine pwp_again (SimImp.refl _) ?_
  refine pwp_seq <| kx [(41, (vb true))] [] (zE (oBk true oLt) <| zZ) ?_
  refine pwp_seq <| pwp_cond (b := true) (by kernel_rfl) (fun _ => ?_) (fun h => by cases h)
  refine pwp_skip <| pwp_seq <| pwp_block <| pwp_seq <| kx [(9, (vi y2))] [] (zE (oXs el36 1) <| zE (oC1 sh3) <| zM <| zZ) ?_
  refine pwp_seq <| pwp_sim (wk (l := [(1, (.ref 0 0)), (3, (.ref 1 0)), (4, (vi 13)), (5, (vin 0)), (9, (vi y2)), (22, (.d y6)), (23, (vin 2)), (38, (vl 3 1 enc_i64 [x2, y2, u2, v2])), (39, (vin 4)), (40, (vin 1))]) (b := [(0, some y4), (1, some y5)])) ?_
  refine kx [(49, (vb false))] [] (zM <| zE (oBk false oLt (by exact decide_eq_false (by omega))) <| zM <| zM <| zE (oBk false oGt (by exact decide_eq_false (by omega))) <| zE oPf <| zZ) ?_
  refine pwp_cond (b := false) (by kernel_rfl) (fun h => by cases h) (fun _ => ?_)
  refine pwp_skip <| kx [(40, (vin 2))] [] (zE (oAd 2 (hr := by decide)) <| zM <| zZ) ?_
  refine pwp_again (SimImp.refl _) ?_
  refine pwp_seq <| kx [(41, (vb true))] [] (zE (oBk true oLt) <| zZ) ?_
  refine pwp_seq <| pwp_cond (b := true) (by kernel_rfl) (fun _ => ?_) (fun h => by cases h)
  refine pwp_skip <| pwp_seq <| pwp_block <| pwp_seq <| kx [(9, (vi u2))] [] (zE (oXs el36 2) <| zE (oC1 sh3) <| zM <| zZ) ?_
  refine pwp_seq <| kx [(49, (vb false))] [] (zM <| zE (oBk false oLt (by exact decide_eq_false (by omega))) <| zM <| zM <| zE (oBk false oGt (by exact decide_eq_false (by omega))) <| zE oPf <| zZ) ?_
  refine pwp_cond (b := false) (by kernel_rfl) (fun h => by cases h) (fun _ => ?_)
  refine pwp_skip <| kx [(40, (vin 3))] [] (zE (oAd 3 (hr := by decide)) <| zM <| zZ) ?_
  refine pwp_again (SimImp.refl _) ?_
  refine pwp_seq <| kx [(41, (vb true))] [] (zE (oBk true oLt) <| zZ) ?_
  refine pwp_seq <| pwp_cond (b := true) (by kernel_rfl) (fun _ => ?_) (fun h => by cases h)
  refine pwp_skip <| pwp_seq <| pwp_block <| pwp_seq <| kx [(9, (vi v2))] [] (zE (oXs el36 3) <| zE (oC1 sh3) <| zM <| zZ) ?_
  refine pwp_seq <| kx [(49, (vb false))] [] (zM <| zE (oBk false oLt (by exact decide_eq_false (by omega))) <| zM <| zM <| zE (oBk false oGt (by exact decide_eq_false (by omega))) <| zE oPf <| zZ) ?_
  refine pwp_cond (b := false) (by kernel_rfl) (fun h => by cases h) (fun _ => ?_)
  refine pwp_skip <| kx [(40, (vin 4))] [] (zE (oAd 4 (hr := by decide)) <| zM <| zZ) ?_
  refine pwp_again (SimImp.refl _) ?_
  refine pwp_seq <| kx [(41, (vb false))] [] (zE (oBk false oLt) <| zZ) ?_
  refine pwp_seq <| pwp_cond (b := false) (by kernel_rfl) (fun h => by cases h) (fun _ => ?_)
  refine pwp_exit <| kx [(23, (vin 3))] [] (zE (oAd 3 (hr := by decide)) <| zM <| zZ) ?_
  refine pwp_again (SimImp.refl _) ?_
  refine pwp_seq <| kx [(24, (vb true))] [] (zE (oBk true oLt) <| zZ) ?_
  refine pwp_seq <| pwp_cond (b := true) (by kernel_rfl) (fun _ => ?_) (fun h => by cases h)
  refine pwp_skip <| pwp_seq <| pwp_block <| pwp_seq <| kx [(7, (.ref 5 0))] [(5, some (bx (encPair (RPair.mk (RPix.mk x3 y3) (RPix.mk u3 v3)))))] (zE (oXa ar26 sh25 (fun h => by cases h) 3) <| zN (oAl 5 ze25 zo25) <| zT (oSt sh25) <| zZ) ?_
  refine pwp_seq <| pwp_sim (wk (l := [(1, (.ref 0 0)), (3, (.ref 1 0)), (4, (vi 13)), (5, (vin 0)), (7, (.ref 5 0)), (22, (.d y6)), (23, (vin 3))]) (b := [(0, some y4), (1, some y5), (5, some (bx (encPair (RPair.mk (RPix.mk x3 y3) (RPix.mk u3 v3)))))])) ?_
  refine kx [(38, (vl 3 1 enc_i64 [x3, y3, u3, v3])), (39, (vin 4)), (40, (vin 0))] [] (zE (oFr fo25_0) <| zE (oFr fo23_0) <| zR (oL1 sh3) <| zE (oFr fo25_0) <| zE (oFr fo23_1) <| zR (oL1 sh3) <| zE (oFr fo25_1) <| zE (oFr fo23_0) <| zR (oL1 sh3) <| zE (oFr fo25_1) <| zE (oFr fo23_1) <| zR (oL1 sh3) <| zE (oBs el36 ze3 zo3) <| zE (oLn el36 4) <| zM <| zZ) ?_
  refine pwp_block <| pwp_rounds 20 ?_
  refine pwp_round <| pwp_seq <| kx [(41, (vb true))] [] (zE (oBk true oLt) <| zZ) ?_
  refine pwp_seq <| pwp_cond (b := true) (by kernel_rfl) (fun _ => ?_) (fun h => by cases h)
  refine pwp_skip <| pwp_seq <| pwp_block <| pwp_seq <| kx [(9, (vi x3))] [] (zE (oXs el36 0) <| zE (oC1 sh3) <| zM <| zZ) ?_
  refine pwp_seq <| kx [(49, (vb false))] [] (zM <| zE (oBk false oLt (by exact decide_eq_false (by omega))) <| zM <| zM <| zE (oBk false oGt (by exact decide_eq_false (by omega))) <| zE oPf <| zZ) ?_
  refine pwp_cond (b := false) (by kernel_rfl) (fun h => by cases h) (fun _ => ?_)
  refine pwp_skip <| kx [(40, (vin 1))] [] (zE (oAd 1 (hr := by decide)) <| zM <| zZ) ?_
  refine pwp_again (SimImp.refl _) ?_
  refine pwp_seq <| kx [(41, (vb true))] [] (zE (oBk true oLt) <| zZ) ?_
  refine pwp_seq <| pwp_cond (b := true) (by kernel_rfl) (fun _ => ?_) (fun h => by cases h)
  refine pwp_skip <| pwp_seq <| pwp_block <| pwp_seq <| kx [(9, (vi y3))] [] (zE (oXs el36 1) <| zE (oC1 sh3) <| zM <| zZ) ?_
  refine pwp_seq <| kx [(49, (vb false))] [] (zM <| zE (oBk false oLt (by exact decide_eq_false (by omega))) <| zM <| zM <| zE (oBk false oGt (by exact decide_eq_false (by omega))) <| zE oPf <| zZ) ?_
  refine pwp_cond (b := false) (by kernel_rfl) (fun h => by cases h) (fun _ => ?_)
  refine pwp_skip <| kx [(40, (vin 2))] [] (zE (oAd 2 (hr := by decide)) <| zM <| zZ) ?_
  refine pwp_again (SimImp.refl _) ?_
  refine pwp_seq <| kx [(41, (vb true))] [] (zE (oBk true oLt) <| zZ) ?_
  refine pwp_seq <| pwp_cond (b := true) (by kernel_rfl) (fun _ => ?_) (fun h => by cases h)
  refine pwp_skip <| pwp_seq <| pwp_block <| pwp_seq <| kx [(9, (vi u3))] [] (zE (oXs el36 2) <| zE (oC1 sh3) <| zM <| zZ) ?_
  refine pwp_seq <| kx [(49, (vb false))] [] (zM <| zE (oBk false oLt (by exact decide_eq_false (by omega))) <| zM <| zM <| zE (oBk false oGt (by exact decide_eq_false (by omega))) <| zE oPf <| zZ) ?_
  refine pwp_cond (b := false) (by kernel_rfl) (fun h => by cases h) (fun _ => ?_)
  refine pwp_skip <| kx [(40, (vin 3))] [] (zE (oAd 3 (hr := by decide)) <| zM <| zZ) ?_
  refine pwp_again (SimImp.refl _) ?_
  refine pwp_seq <| kx [(41, (vb true))] [] (zE (oBk true oLt) <| zZ) ?_
  refine pwp_seq <| pwp_cond (b := true) (by kernel_rfl) (fun _ => ?_) (fun h => by cases h)
  refine pwp_skip <| pwp_seq <| pwp_block <| pwp_seq <| pwp_sim (wk (l := [(1, (.ref 0 0)), (3, (.ref 1 0)), (4, (vi 13)), (5, (vin 0)), (22, (.d y6)), (23, (vin 3)), (38, (vl 3 1 enc_i64 [x3, y3, u3, v3])), (39, (vin 4)), (40, (vin 3)), (41, (vb true))]) (b := [(0, some y4), (1, some y5)])) ?_
  refine kx [(9, (vi v3))] [] (zE (oXs el36 3) <| zE (oC1 sh3) <| zM <| zZ) ?_
  refine pwp_seq <| kx [(49, (vb false))] [] (zM <| zE (oBk false oLt (by exact decide_eq_false (by omega))) <| zM <| zM <| zE (oBk false oGt (by exact decide_eq_false (by omega))) <| zE oPf <| zZ) ?_
  refine pwp_cond (b := false) (by kernel_rfl) (fun h => by cases h) (fun _ => ?_)
  refine pwp_skip <| kx [(40, (vin 4))] [] (zE (oAd 4 (hr := by decide)) <| zM <| zZ) ?_
  refine pwp_again (SimImp.refl _) ?_
  refine pwp_seq <| kx [(41, (vb false))] [] (zE (oBk false oLt) <| zZ) ?_
  refine pwp_seq <| pwp_cond (b := false) (by kernel_rfl) (fun h => by cases h) (fun _ => ?_)
  refine pwp_exit <| kx [(23, (vin 4))] [] (zE (oAd 4 (hr := by decide)) <| zM <| zZ) ?_
  refine pwp_again (SimImp.refl _) ?_
  refine pwp_seq <| kx [(24, (vb false))] [] (zE (oBk false oLt) <| zZ) ?_
  refine pwp_seq <| pwp_cond (b := false) (by kernel_rfl) (fun h => by cases h) (fun _ => ?_)
  refine pwp_exit <| pwp_seq <| kx [(10, (.ref 6 0))] [(6, some y5)] (zE (oBa ar32 ze32 zo32) <| zN (oAl 6 ze32 zo32) <| zT (oSt sh32) <| zZ) ?_
  refine pwp_seq <| pwp_seq <| kx [(54, (vb true))] [] (zM <| zE oEq <| zZ) ?_
  refine pwp_cond (b := true) (by kernel_rfl) (fun _ => ?_) (fun h => by cases h)
  refine pwp_seq ?_
  have bn27 : ∀ c ∈ [f0, f1, f2], IOk (ofZ c) c 1 := red_iok (n := 1) (.cons (iok_small (z := x0) (by omega)) (.cons (iok_small (z := y0) (by omega)) (.cons (iok_small (z := 1) (by decide)) .nil))) hf
  have bn28 : ∀ c ∈ [g0, g1, g2], IOk (ofZ c) c 1 := red_iok (n := 1) (.cons (iok_small (z := x1) (by omega)) (.cons (iok_small (z := y1) (by omega)) (.cons (iok_small (z := 1) (by decide)) .nil))) hg
  have bn29 : ∀ c ∈ [h0, h1, h2], IOk (ofZ c) c 1 := red_iok (n := 1) (.cons (iok_small (z := x2) (by omega)) (.cons (iok_small (z := y2) (by omega)) (.cons (iok_small (z := 1) (by decide)) .nil))) hh
  have bn30 : ∀ c ∈ [i0, i1, i2], IOk (ofZ c) c 1 := red_iok (n := 1) (.cons (iok_small (z := x3) (by omega)) (.cons (iok_small (z := y3) (by omega)) (.cons (iok_small (z := 1) (by decide)) .nil))) hi
  have bn31 : ∀ c ∈ [p0, p1, p2], IOk (ofZ c) c 1 := red_iok (n := 1) (.cons (iok_small (z := u0) (by omega)) (.cons (iok_small (z := v0) (by omega)) (.cons (iok_small (z := 1) (by decide)) .nil))) hp
  have bn32 : ∀ c ∈ [q0, q1, q2], IOk (ofZ c) c 1 := red_iok (n := 1) (.cons (iok_small (z := u1) (by omega)) (.cons (iok_small (z := v1) (by omega)) (.cons (iok_small (z := 1) (by decide)) .nil))) hq
  have bn33 : ∀ c ∈ [s0, s1, s2], IOk (ofZ c) c 1 := red_iok (n := 1) (.cons (iok_small (z := u2) (by omega)) (.cons (iok_small (z := v2) (by omega)) (.cons (iok_small (z := 1) (by decide)) .nil))) hs
  have bn34 : ∀ c ∈ [t0, t1, t2], IOk (ofZ c) c 1 := red_iok (n := 1) (.cons (iok_small (z := u3) (by omega)) (.cons (iok_small (z := v3) (by omega)) (.cons (iok_small (z := 1) (by decide)) .nil))) ht
  refine kx [(11, (.ref 7 0)), (12, (vb false))] [(7, some y5)] (zR (oLa sh26) <| zE (oCl (l_fourFF x0 y0 u0 v0 x1 y1 u1 v1 x2 y2 u2 v2 x3 y3 u3 v3 (by omega) (by omega) (by omega) (by omega) (by omega) (by omega) (by omega) (by omega) (by omega) (by omega) (by omega) (by omega) (by omega) (by omega) (by omega) (by omega) f0 f1 f2 hf g0 g1 g2 hg h0 h1 h2 hh i0 i1 i2 hi p0 p1 p2 hp q0 q1 q2 hq s0 s1 s2 hs t0 t1 t2 ht hzf hzt)) <| zM <| zE oEx <| zE oEx <| zN (oAl 7 ze32 zo32) <| zT (oSt sh32) <| zM <| zZ) ?_
  refine pwp_seq <| kx [] [(6, some y5)] (zR (oLa sh32) <| zT (oSt sh32) <| zZ) ?_
  refine pwp_seq <| kx [(62, (vb true))] [] (zM <| zE oNt <| zZ) ?_
  refine pwp_cond (b := true) (by kernel_rfl) (fun _ => ?_) (fun h => by cases h)
  refine kx [(5, (vin 13))] [] (zM <| zZ) ?_
  refine pwp_seq <| pwp_seq <| kx [(64, (vb true))] [] (zM <| zE oNe <| zZ) ?_
  refine pwp_cond (b := true) (by kernel_rfl) (fun _ => ?_) (fun h => by cases h)
  refine pwp_seq <| kx [(2, (vb true))] [] (zM <| zM <| zE oEq <| zM <| zE (e_slv (by exact rfl) ar32 (by exact rfl) (by kernel_rfl) (by kernel_rfl)) <| zR ⟨y5, e_clv (es := List.map encI y7) (l_empty 1000000 y7 [0, 0, 0, 0, 0, 0, 0, 0, 0] (.cons (iu iok_zero) (.cons (iu iok_zero) (.cons (iu iok_zero) (.cons (iu iok_zero) (.cons (iu iok_zero) (.cons (iu iok_zero) (.cons (iu iok_zero) (.cons (iu iok_zero) (.cons (iu iok_zero) .nil))))))))) (Nat.le_of_ble_eq_true rfl) (allnil_of rfl)) (by exact rfl) (by kernel_rfl) (by exact rfl) (.v .nil) (pubs_cells _ _ (fun _ => rfl)) (by kernel_rfl) (by kernel_rfl) (.val _), by kernel_rfl⟩ <| zE oPt <| zM <| zZ) ?_
  refine pwp_ret ⟨_, (.tmp (d := (.val (.bool (true)))) rfl .nil), ?_⟩
  rfl
theorem w_fouFO (x0 y0 u0 v0 x1 y1 u1 v1 x2 y2 u2 v2 x3 y3 u3 v3 : Int) (hx0 : -1048576 ≤ x0 ∧ x0 ≤ 1048576) (hy0 : -1048576 ≤ y0 ∧ y0 ≤ 1048576) (hu0 : -1048576 ≤ u0 ∧ u0 ≤ 1048576) (hv0 : -1048576 ≤ v0 ∧ v0 ≤ 1048576) (hx1 : -1048576 ≤ x1 ∧ x1 ≤ 1048576) (hy1 : -1048576 ≤ y1 ∧ y1 ≤ 1048576) (hu1 : -1048576 ≤ u1 ∧ u1 ≤ 1048576) (hv1 : -1048576 ≤ v1 ∧ v1 ≤ 1048576) (hx2 : -1048576 ≤ x2 ∧ x2 ≤ 1048576) (hy2 : -1048576 ≤ y2 ∧ y2 ≤ 1048576) (hu2 : -1048576 ≤ u2 ∧ u2 ≤ 1048576) (hv2 : -1048576 ≤ v2 ∧ v2 ≤ 1048576) (hx3 : -1048576 ≤ x3 ∧ x3 ≤ 1048576) (hy3 : -1048576 ≤ y3 ∧ y3 ≤ 1048576) (hu3 : -1048576 ≤ u3 ∧ u3 ≤ 1048576) (hv3 : -1048576 ≤ v3 ∧ v3 ≤ 1048576) (k0 : Int) (hk0 : (det3 x3 y3 1 x1 y1 1 x2 y2 1) = k0) (k1 : Int) (hk1 : (det3 x0 y0 1 x3 y3 1 x2 y2 1) = k1) (k2 : Int) (hk2 : (det3 x0 y0 1 x1 y1 1 x3 y3 1) = k2) (k3 : Int) (hk3 : (det3 x0 y0 1 x1 y1 1 x2 y2 1) = k3) (m0 : Int) (hm0 : (det3 u3 v3 1 u1 v1 1 u2 v2 1) = m0) (m1 : Int) (hm1 : (det3 u0 v0 1 u3 v3 1 u2 v2 1) = m1) (m2 : Int) (hm2 : (det3 u0 v0 1 u1 v1 1 u3 v3 1) = m2) (m3 : Int) (hm3 : (det3 u0 v0 1 u1 v1 1 u2 v2 1) = m3) (a0 : Int) (ha0 : (k0 * x0) = a0) (a1 : Int) (ha1 : (k1 * x1) = a1) (a2 : Int) (ha2 : (k2 * x2) = a2) (a3 : Int) (ha3 : (k0 * y0) = a3) (a4 : Int) (ha4 : (k1 * y1) = a4) (a5 : Int) (ha5 : (k2 * y2) = a5) (a6 : Int) (ha6 : (k0 * 1) = a6) (a7 : Int) (ha7 : (k1 * 1) = a7) (a8 : Int) (ha8 : (k2 * 1) = a8) (b0 : Int) (hb0 : (m0 * u0) = b0) (b1 : Int) (hb1 : (m1 * u1) = b1) (b2 : Int) (hb2 : (m2 * u2) = b2) (b3 : Int) (hb3 : (m0 * v0) = b3) (b4 : Int) (hb4 : (m1 * v1) = b4) (b5 : Int) (hb5 : (m2 * v2) = b5) (b6 : Int) (hb6 : (m0 * 1) = b6) (b7 : Int) (hb7 : (m1 * 1) = b7) (b8 : Int) (hb8 : (m2 * 1) = b8) (f0 f1 f2 : Int) (hf : redL [x0, y0, 1] = [f0, f1, f2]) (g0 g1 g2 : Int) (hg : redL [x1, y1, 1] = [g0, g1, g2]) (h0 h1 h2 : Int) (hh : redL [x2, y2, 1] = [h0, h1, h2]) (i0 i1 i2 : Int) (hi : redL [x3, y3, 1] = [i0, i1, i2]) (p0 p1 p2 : Int) (hp : redL [u0, v0, 1] = [p0, p1, p2]) (q0 q1 q2 : Int) (hq : redL [u1, v1, 1] = [q0, q1, q2]) (s0 s1 s2 : Int) (hs : redL [u2, v2, 1] = [s0, s1, s2]) (t0 t1 t2 : Int) (ht : redL [u3, v3, 1] = [t0, t1, t2]) (b_0 b_1 b_2 b_3 b_4 b_5 b_6 b_7 b_8 : Int) (hb_ : redL [((det3 t0 t1 t2 q0 q1 q2 s0 s1 s2) * p0), ((det3 p0 p1 p2 t0 t1 t2 s0 s1 s2) * q0), ((det3 p0 p1 p2 q0 q1 q2 t0 t1 t2) * s0), ((det3 t0 t1 t2 q0 q1 q2 s0 s1 s2) * p1), ((det3 p0 p1 p2 t0 t1 t2 s0 s1 s2) * q1), ((det3 p0 p1 p2 q0 q1 q2 t0 t1 t2) * s1), ((det3 t0 t1 t2 q0 q1 q2 s0 s1 s2) * p2), ((det3 p0 p1 p2 t0 t1 t2 s0 s1 s2) * q2), ((det3 p0 p1 p2 q0 q1 q2 t0 t1 t2) * s2)] = [b_0, b_1, b_2, b_3, b_4, b_5, b_6, b_7, b_8]) (hzk : k0 * k1 * k2 * k3 = 0) (hm0_ : m0 ≠ 0) (hm1_ : m1 ≠ 0) (hm2_ : m2 ≠ 0) (hm3_ : m3 ≠ 0) (hzf : (det3 i0 i1 i2 g0 g1 g2 h0 h1 h2) * (det3 f0 f1 f2 i0 i1 i2 h0 h1 h2) * (det3 f0 f1 f2 g0 g1 g2 i0 i1 i2) * (det3 f0 f1 f2 g0 g1 g2 h0 h1 h2) = 0) (htn0 : (det3 t0 t1 t2 q0 q1 q2 s0 s1 s2) ≠ 0) (htn1 : (det3 p0 p1 p2 t0 t1 t2 s0 s1 s2) ≠ 0) (htn2 : (det3 p0 p1 p2 q0 q1 q2 t0 t1 t2) ≠ 0) (htn3 : (det3 p0 p1 p2 q0 q1 q2 s0 s1 s2) ≠ 0) (htnz : sgnL [((det3 t0 t1 t2 q0 q1 q2 s0 s1 s2) * p0), ((det3 p0 p1 p2 t0 t1 t2 s0 s1 s2) * q0), ((det3 p0 p1 p2 q0 q1 q2 t0 t1 t2) * s0), ((det3 t0 t1 t2 q0 q1 q2 s0 s1 s2) * p1), ((det3 p0 p1 p2 t0 t1 t2 s0 s1 s2) * q1), ((det3 p0 p1 p2 q0 q1 q2 t0 t1 t2) * s1), ((det3 t0 t1 t2 q0 q1 q2 s0 s1 s2) * p2), ((det3 p0 p1 p2 t0 t1 t2 s0 s1 s2) * q2), ((det3 p0 p1 p2 q0 q1 q2 t0 t1 t2) * s2)] ≠ 0) (htdz : signI (det3 ((det3 t0 t1 t2 q0 q1 q2 s0 s1 s2) * p0) ((det3 p0 p1 p2 t0 t1 t2 s0 s1 s2) * q0) ((det3 p0 p1 p2 q0 q1 q2 t0 t1 t2) * s0) ((det3 t0 t1 t2 q0 q1 q2 s0 s1 s2) * p1) ((det3 p0 p1 p2 t0 t1 t2 s0 s1 s2) * q1) ((det3 p0 p1 p2 q0 q1 q2 t0 t1 t2) * s1) ((det3 t0 t1 t2 q0 q1 q2 s0 s1 s2) * p2) ((det3 p0 p1 p2 t0 t1 t2 s0 s1 s2) * q2) ((det3 p0 p1 p2 q0 q1 q2 t0 t1 t2) * s2)) ≠ 0) : Takes Tryz.prog 3 [(encA26 (A4.mk (RPair.mk (RPix.mk x0 y0) (RPix.mk u0 v0)) (RPair.mk (RPix.mk x1 y1) (RPix.mk u1 v1)) (RPair.mk (RPix.mk x2 y2) (RPix.mk u2 v2)) (RPair.mk (RPix.mk x3 y3) (RPix.mk u3 v3))))] (.val (.bool (true))) := by
  let y7 := [(RInt.mk false []), (RInt.mk false []), (RInt.mk false []), (RInt.mk false []), (RInt.mk false []), (RInt.mk false []), (RInt.mk false []), (RInt.mk false []), (RInt.mk false [])]
  let y6 := (encA26 (A4.mk (RPair.mk (RPix.mk x0 y0) (RPix.mk u0 v0)) (RPair.mk (RPix.mk x1 y1) (RPix.mk u1 v1)) (RPair.mk (RPix.mk x2 y2) (RPix.mk u2 v2)) (RPair.mk (RPix.mk x3 y3) (RPix.mk u3 v3))))
  let y5 := (bx (encA31 (A9.mk (RInt.mk false []) (RInt.mk false []) (RInt.mk false []) (RInt.mk false []) (RInt.mk false []) (RInt.mk false []) (RInt.mk false []) (RInt.mk false []) (RInt.mk false []))))
  let y4 := (bx y6)
  refine fn_intro Tryz.func3 rfl cb3 rfl ?_
  show PWp _ _ _ _ ⟨[(0, (.d y6))], []⟩
  refine pwp_seq <| kx [(1, (.ref 0 0))] [(0, some y4)] (zN (oBx 0) <| zM <| zZ) ?_
  refine pwp_seq <| pwp_seq <| kx [(16, (vb false))] [] (zE (oCl l_known27) <| zE oNt <| zZ) ?_
  refine pwp_cond (b := false) (by kernel_rfl) (fun h => by cases h) (fun _ => ?_)
  refine pwp_skip <| pwp_seq ?_
  have bn1 : IOk (ofZ k0) k0 6 := (iok_eqz hk0.symm (iok_det3 (n := 1) (k := 6) (iok_small (z := x3) (by omega)) (iok_small (z := y3) (by omega)) (iok_small (z := 1) (by decide)) (iok_small (z := x1) (by omega)) (iok_small (z := y1) (by omega)) (iok_small (z := 1) (by decide)) (iok_small (z := x2) (by omega)) (iok_small (z := y2) (by omega)) (iok_small (z := 1) (by decide)) (by decide)))
  have bn2 : IOk (ofZ k1) k1 6 := (iok_eqz hk1.symm (iok_det3 (n := 1) (k := 6) (iok_small (z := x0) (by omega)) (iok_small (z := y0) (by omega)) (iok_small (z := 1) (by decide)) (iok_small (z := x3) (by omega)) (iok_small (z := y3) (by omega)) (iok_small (z := 1) (by decide)) (iok_small (z := x2) (by omega)) (iok_small (z := y2) (by omega)) (iok_small (z := 1) (by decide)) (by decide)))
  have bn3 : IOk (ofZ k2) k2 6 := (iok_eqz hk2.symm (iok_det3 (n := 1) (k := 6) (iok_small (z := x0) (by omega)) (iok_small (z := y0) (by omega)) (iok_small (z := 1) (by decide)) (iok_small (z := x1) (by omega)) (iok_small (z := y1) (by omega)) (iok_small (z := 1) (by decide)) (iok_small (z := x3) (by omega)) (iok_small (z := y3) (by omega)) (iok_small (z := 1) (by decide)) (by decide)))
  have bn4 : IOk (ofZ k3) k3 6 := (iok_eqz hk3.symm (iok_det3 (n := 1) (k := 6) (iok_small (z := x0) (by omega)) (iok_small (z := y0) (by omega)) (iok_small (z := 1) (by decide)) (iok_small (z := x1) (by omega)) (iok_small (z := y1) (by omega)) (iok_small (z := 1) (by decide)) (iok_small (z := x2) (by omega)) (iok_small (z := y2) (by omega)) (iok_small (z := 1) (by decide)) (by decide)))
  have bn5 : IOk (ofZ m0) m0 6 := (iok_eqz hm0.symm (iok_det3 (n := 1) (k := 6) (iok_small (z := u3) (by omega)) (iok_small (z := v3) (by omega)) (iok_small (z := 1) (by decide)) (iok_small (z := u1) (by omega)) (iok_small (z := v1) (by omega)) (iok_small (z := 1) (by decide)) (iok_small (z := u2) (by omega)) (iok_small (z := v2) (by omega)) (iok_small (z := 1) (by decide)) (by decide)))
  have bn6 : IOk (ofZ m1) m1 6 := (iok_eqz hm1.symm (iok_det3 (n := 1) (k := 6) (iok_small (z := u0) (by omega)) (iok_small (z := v0) (by omega)) (iok_small (z := 1) (by decide)) (iok_small (z := u3) (by omega)) (iok_small (z := v3) (by omega)) (iok_small (z := 1) (by decide)) (iok_small (z := u2) (by omega)) (iok_small (z := v2) (by omega)) (iok_small (z := 1) (by decide)) (by decide)))
  have bn7 : IOk (ofZ m2) m2 6 := (iok_eqz hm2.symm (iok_det3 (n := 1) (k := 6) (iok_small (z := u0) (by omega)) (iok_small (z := v0) (by omega)) (iok_small (z := 1) (by decide)) (iok_small (z := u1) (by omega)) (iok_small (z := v1) (by omega)) (iok_small (z := 1) (by decide)) (iok_small (z := u3) (by omega)) (iok_small (z := v3) (by omega)) (iok_small (z := 1) (by decide)) (by decide)))
  have bn8 : IOk (ofZ m3) m3 6 := (iok_eqz hm3.symm (iok_det3 (n := 1) (k := 6) (iok_small (z := u0) (by omega)) (iok_small (z := v0) (by omega)) (iok_small (z := 1) (by decide)) (iok_small (z := u1) (by omega)) (iok_small (z := v1) (by omega)) (iok_small (z := 1) (by decide)) (iok_small (z := u2) (by omega)) (iok_small (z := v2) (by omega)) (iok_small (z := 1) (by decide)) (by decide)))
  have bn9 : IOk (ofZ a0) a0 7 := (iok_eqz ha0.symm (iok_mul (k := 7) bn1 (iok_small (z := x0) (by omega)) (by decide)))
  have bn10 : IOk (ofZ a1) a1 7 := (iok_eqz ha1.symm (iok_mul (k := 7) bn2 (iok_small (z := x1) (by omega)) (by decide)))
  have bn11 : IOk (ofZ a2) a2 7 := (iok_eqz ha2.symm (iok_mul (k := 7) bn3 (iok_small (z := x2) (by omega)) (by decide)))
  have bn12 : IOk (ofZ a3) a3 7 := (iok_eqz ha3.symm (iok_mul (k := 7) bn1 (iok_small (z := y0) (by omega)) (by decide)))
  have bn13 : IOk (ofZ a4) a4 7 := (iok_eqz ha4.symm (iok_mul (k := 7) bn2 (iok_small (z := y1) (by omega)) (by decide)))
  have bn14 : IOk (ofZ a5) a5 7 := (iok_eqz ha5.symm (iok_mul (k := 7) bn3 (iok_small (z := y2) (by omega)) (by decide)))
  have bn15 : IOk (ofZ a6) a6 7 := (iok_eqz ha6.symm (iok_mul (k := 7) bn1 (iok_small (z := 1) (by decide)) (by decide)))
  have bn16 : IOk (ofZ a7) a7 7 := (iok_eqz ha7.symm (iok_mul (k := 7) bn2 (iok_small (z := 1) (by decide)) (by decide)))
  have bn17 : IOk (ofZ a8) a8 7 := (iok_eqz ha8.symm (iok_mul (k := 7) bn3 (iok_small (z := 1) (by decide)) (by decide)))
  have bn18 : IOk (ofZ b0) b0 7 := (iok_eqz hb0.symm (iok_mul (k := 7) bn5 (iok_small (z := u0) (by omega)) (by decide)))
  have bn19 : IOk (ofZ b1) b1 7 := (iok_eqz hb1.symm (iok_mul (k := 7) bn6 (iok_small (z := u1) (by omega)) (by decide)))
  have bn20 : IOk (ofZ b2) b2 7 := (iok_eqz hb2.symm (iok_mul (k := 7) bn7 (iok_small (z := u2) (by omega)) (by decide)))
  have bn21 : IOk (ofZ b3) b3 7 := (iok_eqz hb3.symm (iok_mul (k := 7) bn5 (iok_small (z := v0) (by omega)) (by decide)))
  have bn22 : IOk (ofZ b4) b4 7 := (iok_eqz hb4.symm (iok_mul (k := 7) bn6 (iok_small (z := v1) (by omega)) (by decide)))
  have bn23 : IOk (ofZ b5) b5 7 := (iok_eqz hb5.symm (iok_mul (k := 7) bn7 (iok_small (z := v2) (by omega)) (by decide)))
  have bn24 : IOk (ofZ b6) b6 7 := (iok_eqz hb6.symm (iok_mul (k := 7) bn5 (iok_small (z := 1) (by decide)) (by decide)))
  have bn25 : IOk (ofZ b7) b7 7 := (iok_eqz hb7.symm (iok_mul (k := 7) bn6 (iok_small (z := 1) (by decide)) (by decide)))
  have bn26 : IOk (ofZ b8) b8 7 := (iok_eqz hb8.symm (iok_mul (k := 7) bn7 (iok_small (z := 1) (by decide)) (by decide)))
  refine kx [(3, (.ref 1 0)), (4, (vi 13))] [(1, some y5)] (zR (oLa sh26) <| zE (oCl (d_fourFO x0 y0 u0 v0 x1 y1 u1 v1 x2 y2 u2 v2 x3 y3 u3 v3 (by omega) (by omega) (by omega) (by omega) (by omega) (by omega) (by omega) (by omega) (by omega) (by omega) (by omega) (by omega) (by omega) (by omega) (by omega) (by omega) k0 hk0 k1 hk1 k2 hk2 k3 hk3 m0 hm0 m1 hm1 m2 hm2 m3 hm3 a0 ha0 a1 ha1 a2 ha2 a3 ha3 a4 ha4 a5 ha5 a6 ha6 a7 ha7 a8 ha8 b0 hb0 b1 hb1 b2 hb2 b3 hb3 b4 hb4 b5 hb5 b6 hb6 b7 hb7 b8 hb8 hzk hm0_ hm1_ hm2_ hm3_)) <| zM <| zE oEx <| zE oEx <| zN (oAl 1 ze32 zo32) <| zT (oSt sh32) <| zM <| zZ) ?_
  refine pwp_seq <| kx [(5, (vin 0))] [] (zM <| zZ) ?_
  refine pwp_seq <| pwp_seq <| kx [(22, (.d y6)), (23, (vin 0))] [] (zR (oLa sh26) <| zM <| zZ) ?_
  refine pwp_block <| pwp_rounds 20 ?_
  refine pwp_round <| pwp_seq <| kx [(24, (vb true))] [] (zE (oBk true oLt) <| zZ) ?_
  refine pwp_seq <| pwp_cond (b := true) (by kernel_rfl) (fun _ => ?_) (fun h => by cases h)
  refine pwp_skip <| pwp_seq <| pwp_block <| pwp_seq <| kx [(7, (.ref 2 0))] [(2, some (bx (encPair (RPair.mk (RPix.mk x0 y0) (RPix.mk u0 v0)))))] (zE (oXa ar26 sh25 (fun h => by cases h) 0) <| zN (oAl 2 ze25 zo25) <| zT (oSt sh25) <| zZ) ?_
  refine pwp_seq <| kx [(38, (vl 3 1 enc_i64 [x0, y0, u0, v0])), (39, (vin 4)), (40, (vin 0))] [] (zE (oFr fo25_0) <| zE (oFr fo23_0) <| zR (oL1 sh3) <| zE (oFr fo25_0) <| zE (oFr fo23_1) <| zR (oL1 sh3) <| zE (oFr fo25_1) <| zE (oFr fo23_0) <| zR (oL1 sh3) <| zE (oFr fo25_1) <| zE (oFr fo23_1) <| zR (oL1 sh3) <| zE (oBs el36 ze3 zo3) <| zE (oLn el36 4) <| zM <| zZ) ?_
  refine pwp_block <| pwp_rounds 20 ?_
  refine pwp_round <| pwp_seq <| kx [(41, (vb true))] [] (zE (oBk true oLt) <| zZ) ?_
  refine pwp_seq <| pwp_cond (b := true) (by kernel_rfl) (fun _ => ?_) (fun h => by cases h)
  refine pwp_skip <| pwp_seq <| pwp_block <| pwp_seq <| kx [(9, (vi x0))] [] (zE (oXs el36 0) <| zE (oC1 sh3) <| zM <| zZ) ?_
  refine pwp_seq <| kx [(49, (vb false))] [] (zM <| zE (oBk false oLt (by exact decide_eq_false (by omega))) <| zM <| zM <| zE (oBk false oGt (by exact decide_eq_false (by omega))) <| zE oPf <| zZ) ?_
  refine pwp_cond (b := false) (by kernel_rfl) (fun h => by cases h) (fun _ => ?_)
  refine pwp_skip <| kx [(40, (vin 1))] [] (zE (oAd 1 (hr := by decide)) <| zM <| zZ) ?_
  refine pwp_again (SimImp.refl _) ?_
  refine pwp_seq <| kx [(41, (vb true))] [] (zE (oBk true oLt) <| zZ) ?_
  refine pwp_seq <| pwp_cond (b := true) (by kernel_rfl) (fun _ => ?_) (fun h => by cases h)
  refine pwp_skip <| pwp_seq <| pwp_block <| pwp_seq <| kx [(9, (vi y0))] [] (zE (oXs el36 1) <| zE (oC1 sh3) <| zM <| zZ) ?_
  refine pwp_seq <| pwp_sim (wk (l := [(1, (.ref 0 0)), (3, (.ref 1 0)), (4, (vi 13)), (5, (vin 0)), (9, (vi y0)), (22, (.d y6)), (23, (vin 0)), (38, (vl 3 1 enc_i64 [x0, y0, u0, v0])), (39, (vin 4)), (40, (vin 1))]) (b := [(0, some y4), (1, some y5)])) ?_
  refine kx [(49, (vb false))] [] (zM <| zE (oBk false oLt (by exact decide_eq_false (by omega))) <| zM <| zM <| zE (oBk false oGt (by exact decide_eq_false (by omega))) <| zE oPf <| zZ) ?_
  refine pwp_cond (b := false) (by kernel_rfl) (fun h => by cases h) (fun _ => ?_)
  refine pwp_skip <| kx [(40, (vin 2))] [] (zE (oAd 2 (hr := by decide)) <| zM <| zZ) ?_
  refine pwp_again (SimImp.refl _) ?_
  refine pwp_seq <| kx [(41, (vb true))] [] (zE (oBk true oLt) <| zZ) ?_
  refine pwp_seq <| pwp_cond (b := true) (by kernel_rfl) (fun _ => ?_) (fun h => by cases h)
  refine pwp_skip <| pwp_seq <| pwp_block <| pwp_seq <| kx [(9, (vi u0))] [] (zE (oXs el36 2) <| zE (oC1 sh3) <| zM <| zZ) ?_
  refine pwp_seq <| kx [(49, (vb false))] [] (zM <| zE (oBk false oLt (by exact decide_eq_false (by omega))) <| zM <| zM <| zE (oBk false oGt (by exact decide_eq_false (by omega))) <| zE oPf <| zZ) ?_
  refine pwp_cond (b := false) (by kernel_rfl) (fun h => by cases h) (fun _ => ?_)
  refine pwp_skip <| kx [(40, (vin 3))] [] (zE (oAd 3 (hr := by decide)) <| zM <| zZ) ?_
  refine pwp_again (SimImp.refl _) ?_
  refine pwp_seq <| kx [(41, (vb true))] [] (zE (oBk true oLt) <| zZ) ?_
  refine pwp_seq <| pwp_cond (b := true) (by kernel_rfl) (fun _ => ?_) (fun h => by cases h)
  refine pwp_skip <| pwp_seq <| pwp_block <| pwp_seq <| kx [(9, (vi v0))] [] (zE (oXs el36 3) <| zE (oC1 sh3) <| zM <| zZ) ?_
  refine pwp_seq <| kx [(49, (vb false))] [] (zM <| zE (oBk false oLt (by exact decide_eq_false (by omega))) <| zM <| zM <| zE (oBk false oGt (by exact decide_eq_false (by omega))) <| zE oPf <| zZ) ?_
  refine pwp_cond (b := false) (by kernel_rfl) (fun h => by cases h) (fun _ => ?_)
  refine pwp_skip <| kx [(40, (vin 4))] [] (zE (oAd 4 (hr := by decide)) <| zM <| zZ) ?_
  refine pwp_again (SimImp.refl _) ?_
  refine pwp_seq <| kx [(41, (vb false))] [] (zE (oBk false oLt) <| zZ) ?_
  refine pwp_seq <| pwp_cond (b := false) (by kernel_rfl) (fun h => by cases h) (fun _ => ?_)
  refine pwp_exit <| kx [(23, (vin 1))] [] (zE (oAd 1 (hr := by decide)) <| zM <| zZ) ?_
  refine pwp_again (SimImp.refl _) ?_
  refine pwp_seq <| kx [(24, (vb true))] [] (zE (oBk true oLt) <| zZ) ?_
  refine pwp_seq <| pwp_cond (b := true) (by kernel_rfl) (fun _ => ?_) (fun h => by cases h)
  refine pwp_skip <| pwp_seq <| pwp_block <| pwp_seq <| kx [(7, (.ref 3 0))] [(3, some (bx (encPair (RPair.mk (RPix.mk x1 y1) (RPix.mk u1 v1)))))] (zE (oXa ar26 sh25 (fun h => by cases h) 1) <| zN (oAl 3 ze25 zo25) <| zT (oSt sh25) <| zZ) ?_
  refine pwp_seq <| pwp_sim (wk (l := [(1, (.ref 0 0)), (3, (.ref 1 0)), (4, (vi 13)), (5, (vin 0)), (7, (.ref 3 0)), (22, (.d y6)), (23, (vin 1))]) (b := [(0, some y4), (1, some y5), (3, some (bx (encPair (RPair.mk (RPix.mk x1 y1) (RPix.mk u1 v1)))))])) ?_
  refine kx [(38, (vl 3 1 enc_i64 [x1, y1, u1, v1])), (39, (vin 4)), (40, (vin 0))] [] (zE (oFr fo25_0) <| zE (oFr fo23_0) <| zR (oL1 sh3) <| zE (oFr fo25_0) <| zE (oFr fo23_1) <| zR (oL1 sh3) <| zE (oFr fo25_1) <| zE (oFr fo23_0) <| zR (oL1 sh3) <| zE (oFr fo25_1) <| zE (oFr fo23_1) <| zR (oL1 sh3) <| zE (oBs el36 ze3 zo3) <| zE (oLn el36 4) <| zM <| zZ) ?_
  refine pwp_block <| pwp_rounds 20 ?_
  refine pwp_round <| pwp_seq <| kx [(41, (vb true))] [] (zE (oBk true oLt) <| zZ) ?_
  refine pwp_seq <| pwp_cond (b := true) (by kernel_rfl) (fun _ => ?_) (fun h => by cases h)
  refine pwp_skip <| pwp_seq <| pwp_block <| pwp_seq <| kx [(9, (vi x1))] [] (zE (oXs el36 0) <| zE (oC1 sh3) <| zM <| zZ) ?_
  refine pwp_seq <| kx [(49, (vb false))] [] (zM <| zE (oBk false oLt (by exact decide_eq_false (by omega))) <| zM <| zM <| zE (oBk false oGt (by exact decide_eq_false (by omega))) <| zE oPf <| zZ) ?_
  refine pwp_cond (b := false) (by kernel_rfl) (fun h => by cases h) (fun _ => ?_)
  refine pwp_skip <| kx [(40, (vin 1))] [] (zE (oAd 1 (hr := by decide)) <| zM <| zZ) ?_
  refine pwp_again (SimImp.refl _) ?_
  refine pwp_seq <| kx [(41, (vb true))] [] (zE (oBk true oLt) <| zZ) ?_
  refine pwp_seq <| pwp_cond (b := true) (by kernel_rfl) (fun _ => ?_) (fun h => by cases h)
  refine pwp_skip <| pwp_seq <| pwp_block <| pwp_seq <| kx [(9, (vi y1))] [] (zE (oXs el36 1) <| zE (oC1 sh3) <| zM <| zZ) ?_
  refine pwp_seq <| kx [(49, (vb false))] [] (zM <| zE (oBk false oLt (by exact decide_eq_false (by omega))) <| zM <| zM <| zE (oBk false oGt (by exact decide_eq_false (by omega))) <| zE oPf <| zZ) ?_
  refine pwp_cond (b := false) (by kernel_rfl) (fun h => by cases h) (fun _ => ?_)
  refine pwp_skip <| kx [(40, (vin 2))] [] (zE (oAd 2 (hr := by decide)) <| zM <| zZ) ?_
  refine pwp_again (SimImp.refl _) ?_
  refine pwp_seq <| kx [(41, (vb true))] [] (zE (oBk true oLt) <| zZ) ?_
  refine pwp_seq <| pwp_cond (b := true) (by kernel_rfl) (fun _ => ?_) (fun h => by cases h)
  refine pwp_skip <| pwp_seq <| pwp_block <| pwp_seq <| kx [(9, (vi u1))] [] (zE (oXs el36 2) <| zE (oC1 sh3) <| zM <| zZ) ?_
  refine pwp_seq <| kx [(49, (vb false))] [] (zM <| zE (oBk false oLt (by exact decide_eq_false (by omega))) <| zM <| zM <| zE (oBk false oGt (by exact decide_eq_false (by omega))) <| zE oPf <| zZ) ?_
  refine pwp_cond (b := false) (by kernel_rfl) (fun h => by cases h) (fun _ => ?_)
  refine pwp_skip <| kx [(40, (vin 3))] [] (zE (oAd 3 (hr := by decide)) <| zM <| zZ) ?_
  refine pwp_again (SimImp.refl _) ?_
  refine pwp_seq <| kx [(41, (vb true))] [] (zE (oBk true oLt) <| zZ) ?_
  refine pwp_seq <| pwp_cond (b := true) (by kernel_rfl) (fun _ => ?_) (fun h => by cases h)
  refine pwp_skip <| pwp_seq <| pwp_block <| pwp_seq <| pwp_sim (wk (l := [(1, (.ref 0 0)), (3, (.ref 1 0)), (4, (vi 13)), (5, (vin 0)), (22, (.d y6)), (23, (vin 1)), (38, (vl 3 1 enc_i64 [x1, y1, u1, v1])), (39, (vin 4)), (40, (vin 3)), (41, (vb true))]) (b := [(0, some y4), (1, some y5)])) ?_
  refine kx [(9, (vi v1))] [] (zE (oXs el36 3) <| zE (oC1 sh3) <| zM <| zZ) ?_
  refine pwp_seq <| kx [(49, (vb false))] [] (zM <| zE (oBk false oLt (by exact decide_eq_false (by omega))) <| zM <| zM <| zE (oBk false oGt (by exact decide_eq_false (by omega))) <| zE oPf <| zZ) ?_
  refine pwp_cond (b := false) (by kernel_rfl) (fun h => by cases h) (fun _ => ?_)
  refine pwp_skip <| kx [(40, (vin 4))] [] (zE (oAd 4 (hr := by decide)) <| zM <| zZ) ?_
  refine pwp_again (SimImp.refl _) ?_
  refine pwp_seq <| kx [(41, (vb false))] [] (zE (oBk false oLt) <| zZ) ?_
  refine pwp_seq <| pwp_cond (b := false) (by kernel_rfl) (fun h => by cases h) (fun _ => ?_)
  refine pwp_exit <| kx [(23, (vin 2))] [] (zE (oAd 2 (hr := by decide)) <| zM <| zZ) ?_
  refine pwp_again (SimImp.refl _) ?_
  refine pwp_seq <| kx [(24, (vb true))] [] (zE (oBk true oLt) <| zZ) ?_
  refine pwp_seq <| pwp_cond (b := true) (by kernel_rfl) (fun _ => ?_) (fun h => by cases h)
  refine pwp_skip <| pwp_seq <| pwp_block <| pwp_seq <| kx [(7, (.ref 4 0))] [(4, some (bx (encPair (RPair.mk (RPix.mk x2 y2) (RPix.mk u2 v2)))))] (zE (oXa ar26 sh25 (fun h => by cases h) 2) <| zN (oAl 4 ze25 zo25) <| zT (oSt sh25) <| zZ) ?_
  refine pwp_seq <| kx [(38, (vl 3 1 enc_i64 [x2, y2, u2, v2])), (39, (vin 4)), (40, (vin 0))] [] (zE (oFr fo25_0) <| zE (oFr fo23_0) <| zR (oL1 sh3) <| zE (oFr fo25_0) <| zE (oFr fo23_1) <| zR (oL1 sh3) <| zE (oFr fo25_1) <| zE (oFr fo23_0) <| zR (oL1 sh3) <| zE (oFr fo25_1) <| zE (oFr fo23_1) <| zR (oL1 sh3) <| zE (oBs el36 ze3 zo3) <| zE (oLn el36 4) <| zM <| zZ) ?_
  refine pwp_block <| pwp_rounds 20 ?_
  refine pwp_round <| pwp_seq <| kx [(41, (vb true))] [] (zE (oBk true oLt) <| zZ) ?_
  refine pwp_seq <| pwp_cond (b := true) (by kernel_rfl) (fun _ => ?_) (fun h => by cases h)
  refine pwp_skip <| pwp_seq <| pwp_block <| pwp_seq <| kx [(9, (vi x2))] [] (zE (oXs el36 0) <| zE (oC1 sh3) <| zM <| zZ) ?_
  refine pwp_seq <| kx [(49, (vb false))] [] (zM <| zE (oBk false oLt (by exact decide_eq_false (by omega))) <| zM <| zM <| zE (oBk false oGt (by exact decide_eq_false (by omega))) <| zE oPf <| zZ) ?_
  refine pwp_cond (b := false) (by kernel_rfl) (fun h => by cases h) (fun _ => ?_)
  refine pwp_skip <| kx [(40, (vin 1))] [] (zE (oAd 1 (hr := by decide)) <| zM <| zZ) ?_
  refine pwp_again (SimImp.refl _) ?_
  refine pwp_seq <| kx [(41, (vb true))] [] (zE (oBk true oLt) <| zZ) ?_
  refine pwp_seq <| pwp_cond (b := true) (by kernel_rfl) (fun _ => ?_) (fun h => by cases h)
  refine pwp_skip <| pwp_seq <| pwp_block <| pwp_seq <| kx [(9, (vi y2))] [] (zE (oXs el36 1) <| zE (oC1 sh3) <| zM <| zZ) ?_
  refine pwp_seq <| pwp_sim (wk (l := [(1, (.ref 0 0)), (3, (.ref 1 0)), (4, (vi 13)), (5, (vin 0)), (9, (vi y2)), (22, (.d y6)), (23, (vin 2)), (38, (vl 3 1 enc_i64 [x2, y2, u2, v2])), (39, (vin 4)), (40, (vin 1))]) (b := [(0, some y4), (1, some y5)])) ?_
  refine kx [(49, (vb false))] [] (zM <| zE (oBk false oLt (by exact decide_eq_false (by omega))) <| zM <| zM <| zE (oBk false oGt (by exact decide_eq_false (by omega))) <| zE oPf <| zZ) ?_
  refine pwp_cond (b := false) (by kernel_rfl) (fun h => by cases h) (fun _ => ?_)
  refine pwp_skip <| kx [(40, (vin 2))] [] (zE (oAd 2 (hr := by decide)) <| zM <| zZ) ?_
  refine pwp_again (SimImp.refl _) ?_
  refine pwp_seq <| kx [(41, (vb true))] [] (zE (oBk true oLt) <| zZ) ?_
  refine pwp_seq <| pwp_cond (b := true) (by kernel_rfl) (fun _ => ?_) (fun h => by cases h)
  refine pwp_skip <| pwp_seq <| pwp_block <| pwp_seq <| kx [(9, (vi u2))] [] (zE (oXs el36 2) <| zE (oC1 sh3) <| zM <| zZ) ?_
  refine pwp_seq <| kx [(49, (vb false))] [] (zM <| zE (oBk false oLt (by exact decide_eq_false (by omega))) <| zM <| zM <| zE (oBk false oGt (by exact decide_eq_false (by omega))) <| zE oPf <| zZ) ?_
  refine pwp_cond (b := false) (by kernel_rfl) (fun h => by cases h) (fun _ => ?_)
  refine pwp_skip <| kx [(40, (vin 3))] [] (zE (oAd 3 (hr := by decide)) <| zM <| zZ) ?_
  refine pwp_again (SimImp.refl _) ?_
  refine pwp_seq <| kx [(41, (vb true))] [] (zE (oBk true oLt) <| zZ) ?_
  refine pwp_seq <| pwp_cond (b := true) (by kernel_rfl) (fun _ => ?_) (fun h => by cases h)
  refine pwp_skip <| pwp_seq <| pwp_block <| pwp_seq <| kx [(9, (vi v2))] [] (zE (oXs el36 3) <| zE (oC1 sh3) <| zM <| zZ) ?_
  refine pwp_seq <| kx [(49, (vb false))] [] (zM <| zE (oBk false oLt (by exact decide_eq_false (by omega))) <| zM <| zM <| zE (oBk false oGt (by exact decide_eq_false (by omega))) <| zE oPf <| zZ) ?_
  refine pwp_cond (b := false) (by kernel_rfl) (fun h => by cases h) (fun _ => ?_)
  refine pwp_skip <| kx [(40, (vin 4))] [] (zE (oAd 4 (hr := by decide)) <| zM <| zZ) ?_
  refine pwp_again (SimImp.refl _) ?_
  refine pwp_seq <| kx [(41, (vb false))] [] (zE (oBk false oLt) <| zZ) ?_
  refine pwp_seq <| pwp_cond (b := false) (by kernel_rfl) (fun h => by cases h) (fun _ => ?_)
  refine pwp_exit <| kx [(23, (vin 3))] [] (zE (oAd 3 (hr := by decide)) <| zM <| zZ) ?_
  refine pwp_again (SimImp.refl _) ?_
  refine pwp_seq <| kx [(24, (vb true))] [] (zE (oBk true oLt) <| zZ) ?_
  refine pwp_seq <| pwp_cond (b := true) (by kernel_rfl) (fun _ => ?_) (fun h => by cases h)
  refine pwp_skip <| pwp_seq <| pwp_block <| pwp_seq <| kx [(7, (.ref 5 0))] [(5, some (bx (encPair (RPair.mk (RPix.mk x3 y3) (RPix.mk u3 v3)))))] (zE (oXa ar26 sh25 (fun h => by cases h) 3) <| zN (oAl 5 ze25 zo25) <| zT (oSt sh25) <| zZ) ?_
  refine pwp_seq <| pwp_sim (wk (l := [(1, (.ref 0 0)), (3, (.ref 1 0)), (4, (vi 13)), (5, (vin 0)), (7, (.ref 5 0)), (22, (.d y6)), (23, (vin 3))]) (b := [(0, some y4), (1, some y5), (5, some (bx (encPair (RPair.mk (RPix.mk x3 y3) (RPix.mk u3 v3)))))])) ?_
  refine kx [(38, (vl 3 1 enc_i64 [x3, y3, u3, v3])), (39, (vin 4)), (40, (vin 0))] [] (zE (oFr fo25_0) <| zE (oFr fo23_0) <| zR (oL1 sh3) <| zE (oFr fo25_0) <| zE (oFr fo23_1) <| zR (oL1 sh3) <| zE (oFr fo25_1) <| zE (oFr fo23_0) <| zR (oL1 sh3) <| zE (oFr fo25_1) <| zE (oFr fo23_1) <| zR (oL1 sh3) <| zE (oBs el36 ze3 zo3) <| zE (oLn el36 4) <| zM <| zZ) ?_
  refine pwp_block <| pwp_rounds 20 ?_
  refine pwp_round <| pwp_seq <| kx [(41, (vb true))] [] (zE (oBk true oLt) <| zZ) ?_
  refine pwp_seq <| pwp_cond (b := true) (by kernel_rfl) (fun _ => ?_) (fun h => by cases h)
  refine pwp_skip <| pwp_seq <| pwp_block <| pwp_seq <| kx [(9, (vi x3))] [] (zE (oXs el36 0) <| zE (oC1 sh3) <| zM <| zZ) ?_
  refine pwp_seq <| kx [(49, (vb false))] [] (zM <| zE (oBk false oLt (by exact decide_eq_false (by omega))) <| zM <| zM <| zE (oBk false oGt (by exact decide_eq_false (by omega))) <| zE oPf <| zZ) ?_
  refine pwp_cond (b := false) (by kernel_rfl) (fun h => by cases h) (fun _ => ?_)
  refine pwp_skip <| kx [(40, (vin 1))] [] (zE (oAd 1 (hr := by decide)) <| zM <| zZ) ?_
  refine pwp_again (SimImp.refl _) ?_
  refine pwp_seq <| kx [(41, (vb true))] [] (zE (oBk true oLt) <| zZ) ?_
  refine pwp_seq <| pwp_cond (b := true) (by kernel_rfl) (fun _ => ?_) (fun h => by cases h)
  refine pwp_skip <| pwp_seq <| pwp_block <| pwp_seq <| kx [(9, (vi y3))] [] (zE (oXs el36 1) <| zE (oC1 sh3) <| zM <| zZ) ?_
  refine pwp_seq <| kx [(49, (vb false))] [] (zM <| zE (oBk false oLt (by exact decide_eq_false (by omega))) <| zM <| zM <| zE (oBk false oGt (by exact decide_eq_false (by omega))) <| zE oPf <| zZ) ?_
  refine pwp_cond (b := false) (by kernel_rfl) (fun h => by cases h) (fun _ => ?_)
  refine pwp_skip <| kx [(40, (vin 2))] [] (zE (oAd 2 (hr := by decide)) <| zM <| zZ) ?_
  refine pwp_again (SimImp.refl _) ?_
  refine pwp_seq <| kx [(41, (vb true))] [] (zE (oBk true oLt) <| zZ) ?_
  refine pwp_seq <| pwp_cond (b := true) (by kernel_rfl) (fun _ => ?_) (fun h => by cases h)
  refine pwp_skip <| pwp_seq <| pwp_block <| pwp_seq <| kx [(9, (vi u3))] [] (zE (oXs el36 2) <| zE (oC1 sh3) <| zM <| zZ) ?_
  refine pwp_seq <| kx [(49, (vb false))] [] (zM <| zE (oBk false oLt (by exact decide_eq_false (by omega))) <| zM <| zM <| zE (oBk false oGt (by exact decide_eq_false (by omega))) <| zE oPf <| zZ) ?_
  refine pwp_cond (b := false) (by kernel_rfl) (fun h => by cases h) (fun _ => ?_)
  refine pwp_skip <| kx [(40, (vin 3))] [] (zE (oAd 3 (hr := by decide)) <| zM <| zZ) ?_
  refine pwp_again (SimImp.refl _) ?_
  refine pwp_seq <| kx [(41, (vb true))] [] (zE (oBk true oLt) <| zZ) ?_
  refine pwp_seq <| pwp_cond (b := true) (by kernel_rfl) (fun _ => ?_) (fun h => by cases h)
  refine pwp_skip <| pwp_seq <| pwp_block <| pwp_seq <| pwp_sim (wk (l := [(1, (.ref 0 0)), (3, (.ref 1 0)), (4, (vi 13)), (5, (vin 0)), (22, (.d y6)), (23, (vin 3)), (38, (vl 3 1 enc_i64 [x3, y3, u3, v3])), (39, (vin 4)), (40, (vin 3)), (41, (vb true))]) (b := [(0, some y4), (1, some y5)])) ?_
  refine kx [(9, (vi v3))] [] (zE (oXs el36 3) <| zE (oC1 sh3) <| zM <| zZ) ?_
  refine pwp_seq <| kx [(49, (vb false))] [] (zM <| zE (oBk false oLt (by exact decide_eq_false (by omega))) <| zM <| zM <| zE (oBk false oGt (by exact decide_eq_false (by omega))) <| zE oPf <| zZ) ?_
  refine pwp_cond (b := false) (by kernel_rfl) (fun h => by cases h) (fun _ => ?_)
  refine pwp_skip <| kx [(40, (vin 4))] [] (zE (oAd 4 (hr := by decide)) <| zM <| zZ) ?_
  refine pwp_again (SimImp.refl _) ?_
  refine pwp_seq <| kx [(41, (vb false))] [] (zE (oBk false oLt) <| zZ) ?_
  refine pwp_seq <| pwp_cond (b := false) (by kernel_rfl) (fun h => by cases h) (fun _ => ?_)
  refine pwp_exit <| kx [(23, (vin 4))] [] (zE (oAd 4 (hr := by decide)) <| zM <| zZ) ?_
  refine pwp_again (SimImp.refl _) ?_
  refine pwp_seq <| kx [(24, (vb false))] [] (zE (oBk false oLt) <| zZ) ?_
  refine pwp_seq <| pwp_cond (b := false) (by kernel_rfl) (fun h => by cases h) (fun _ => ?_)
  refine pwp_exit <| pwp_seq <| kx [(10, (.ref 6 0))] [(6, some y5)] (zE (oBa ar32 ze32 zo32) <| zN (oAl 6 ze32 zo32) <| zT (oSt sh32) <| zZ) ?_
  refine pwp_seq <| pwp_seq <| kx [(54, (vb true))] [] (zM <| zE oEq <| zZ) ?_
  refine pwp_cond (b := true) (by kernel_rfl) (fun _ => ?_) (fun h => by cases h)
  refine pwp_seq ?_
  have bn27 : ∀ c ∈ [f0, f1, f2], IOk (ofZ c) c 1 := red_iok (n := 1) (.cons (iok_small (z := x0) (by omega)) (.cons (iok_small (z := y0) (by omega)) (.cons (iok_small (z := 1) (by decide)) .nil))) hf
  have bn28 : ∀ c ∈ [g0, g1, g2], IOk (ofZ c) c 1 := red_iok (n := 1) (.cons (iok_small (z := x1) (by omega)) (.cons (iok_small (z := y1) (by omega)) (.cons (iok_small (z := 1) (by decide)) .nil))) hg
  have bn29 : ∀ c ∈ [h0, h1, h2], IOk (ofZ c) c 1 := red_iok (n := 1) (.cons (iok_small (z := x2) (by omega)) (.cons (iok_small (z := y2) (by omega)) (.cons (iok_small (z := 1) (by decide)) .nil))) hh
  have bn30 : ∀ c ∈ [i0, i1, i2], IOk (ofZ c) c 1 := red_iok (n := 1) (.cons (iok_small (z := x3) (by omega)) (.cons (iok_small (z := y3) (by omega)) (.cons (iok_small (z := 1) (by decide)) .nil))) hi
  have bn31 : ∀ c ∈ [p0, p1, p2], IOk (ofZ c) c 1 := red_iok (n := 1) (.cons (iok_small (z := u0) (by omega)) (.cons (iok_small (z := v0) (by omega)) (.cons (iok_small (z := 1) (by decide)) .nil))) hp
  have bn32 : ∀ c ∈ [q0, q1, q2], IOk (ofZ c) c 1 := red_iok (n := 1) (.cons (iok_small (z := u1) (by omega)) (.cons (iok_small (z := v1) (by omega)) (.cons (iok_small (z := 1) (by decide)) .nil))) hq
  have bn33 : ∀ c ∈ [s0, s1, s2], IOk (ofZ c) c 1 := red_iok (n := 1) (.cons (iok_small (z := u2) (by omega)) (.cons (iok_small (z := v2) (by omega)) (.cons (iok_small (z := 1) (by decide)) .nil))) hs
  have bn34 : ∀ c ∈ [t0, t1, t2], IOk (ofZ c) c 1 := red_iok (n := 1) (.cons (iok_small (z := u3) (by omega)) (.cons (iok_small (z := v3) (by omega)) (.cons (iok_small (z := 1) (by decide)) .nil))) ht
  have bn35 : ∀ c ∈ [b_0, b_1, b_2, b_3, b_4, b_5, b_6, b_7, b_8], IOk (ofZ c) c 7 := red_iok (n := 7) (.cons (iok_mul (k := 7) (iok_det3 (n := 1) (k := 6) (bn34 t0 (by simp)) (bn34 t1 (by simp)) (bn34 t2 (by simp)) (bn32 q0 (by simp)) (bn32 q1 (by simp)) (bn32 q2 (by simp)) (bn33 s0 (by simp)) (bn33 s1 (by simp)) (bn33 s2 (by simp)) (by decide)) (bn31 p0 (by simp)) (by decide)) (.cons (iok_mul (k := 7) (iok_det3 (n := 1) (k := 6) (bn31 p0 (by simp)) (bn31 p1 (by simp)) (bn31 p2 (by simp)) (bn34 t0 (by simp)) (bn34 t1 (by simp)) (bn34 t2 (by simp)) (bn33 s0 (by simp)) (bn33 s1 (by simp)) (bn33 s2 (by simp)) (by decide)) (bn32 q0 (by simp)) (by decide)) (.cons (iok_mul (k := 7) (iok_det3 (n := 1) (k := 6) (bn31 p0 (by simp)) (bn31 p1 (by simp)) (bn31 p2 (by simp)) (bn32 q0 (by simp)) (bn32 q1 (by simp)) (bn32 q2 (by simp)) (bn34 t0 (by simp)) (bn34 t1 (by simp)) (bn34 t2 (by simp)) (by decide)) (bn33 s0 (by simp)) (by decide)) (.cons (iok_mul (k := 7) (iok_det3 (n := 1) (k := 6) (bn34 t0 (by simp)) (bn34 t1 (by simp)) (bn34 t2 (by simp)) (bn32 q0 (by simp)) (bn32 q1 (by simp)) (bn32 q2 (by simp)) (bn33 s0 (by simp)) (bn33 s1 (by simp)) (bn33 s2 (by simp)) (by decide)) (bn31 p1 (by simp)) (by decide)) (.cons (iok_mul (k := 7) (iok_det3 (n := 1) (k := 6) (bn31 p0 (by simp)) (bn31 p1 (by simp)) (bn31 p2 (by simp)) (bn34 t0 (by simp)) (bn34 t1 (by simp)) (bn34 t2 (by simp)) (bn33 s0 (by simp)) (bn33 s1 (by simp)) (bn33 s2 (by simp)) (by decide)) (bn32 q1 (by simp)) (by decide)) (.cons (iok_mul (k := 7) (iok_det3 (n := 1) (k := 6) (bn31 p0 (by simp)) (bn31 p1 (by simp)) (bn31 p2 (by simp)) (bn32 q0 (by simp)) (bn32 q1 (by simp)) (bn32 q2 (by simp)) (bn34 t0 (by simp)) (bn34 t1 (by simp)) (bn34 t2 (by simp)) (by decide)) (bn33 s1 (by simp)) (by decide)) (.cons (iok_mul (k := 7) (iok_det3 (n := 1) (k := 6) (bn34 t0 (by simp)) (bn34 t1 (by simp)) (bn34 t2 (by simp)) (bn32 q0 (by simp)) (bn32 q1 (by simp)) (bn32 q2 (by simp)) (bn33 s0 (by simp)) (bn33 s1 (by simp)) (bn33 s2 (by simp)) (by decide)) (bn31 p2 (by simp)) (by decide)) (.cons (iok_mul (k := 7) (iok_det3 (n := 1) (k := 6) (bn31 p0 (by simp)) (bn31 p1 (by simp)) (bn31 p2 (by simp)) (bn34 t0 (by simp)) (bn34 t1 (by simp)) (bn34 t2 (by simp)) (bn33 s0 (by simp)) (bn33 s1 (by simp)) (bn33 s2 (by simp)) (by decide)) (bn32 q2 (by simp)) (by decide)) (.cons (iok_mul (k := 7) (iok_det3 (n := 1) (k := 6) (bn31 p0 (by simp)) (bn31 p1 (by simp)) (bn31 p2 (by simp)) (bn32 q0 (by simp)) (bn32 q1 (by simp)) (bn32 q2 (by simp)) (bn34 t0 (by simp)) (bn34 t1 (by simp)) (bn34 t2 (by simp)) (by decide)) (bn33 s2 (by simp)) (by decide)) .nil))))))))) hb_
  refine kx [(11, (.ref 7 0)), (12, (vb false))] [(7, some y5)] (zR (oLa sh26) <| zE (oCl (l_fourFO x0 y0 u0 v0 x1 y1 u1 v1 x2 y2 u2 v2 x3 y3 u3 v3 (by omega) (by omega) (by omega) (by omega) (by omega) (by omega) (by omega) (by omega) (by omega) (by omega) (by omega) (by omega) (by omega) (by omega) (by omega) (by omega) f0 f1 f2 hf g0 g1 g2 hg h0 h1 h2 hh i0 i1 i2 hi p0 p1 p2 hp q0 q1 q2 hq s0 s1 s2 hs t0 t1 t2 ht b_0 b_1 b_2 b_3 b_4 b_5 b_6 b_7 b_8 hb_ hzf htn0 htn1 htn2 htn3 htnz htdz)) <| zM <| zE oEx <| zE oEx <| zN (oAl 7 ze32 zo32) <| zT (oSt sh32) <| zM <| zZ) ?_
  refine pwp_seq <| kx [] [(6, some y5)] (zR (oLa sh32) <| zT (oSt sh32) <| zZ) ?_
  refine pwp_seq <| kx [(62, (vb true))] [] (zM <| zE oNt <| zZ) ?_
  refine pwp_cond (b := true) (by kernel_rfl) (fun _ => ?_) (fun h => by cases h)
  refine kx [(5, (vin 13))] [] (zM <| zZ) ?_
  refine pwp_seq <| pwp_seq <| kx [(64, (vb true))] [] (zM <| zE oNe <| zZ) ?_
  refine pwp_cond (b := true) (by kernel_rfl) (fun _ => ?_) (fun h => by cases h)
  refine pwp_seq <| kx [(2, (vb true))] [] (zM <| zM <| zE oEq <| zM <| zE (e_slv (by exact rfl) ar32 (by exact rfl) (by kernel_rfl) (by kernel_rfl)) <| zR ⟨y5, e_clv (es := List.map encI y7) (l_empty 1000000 y7 [0, 0, 0, 0, 0, 0, 0, 0, 0] (.cons (iu iok_zero) (.cons (iu iok_zero) (.cons (iu iok_zero) (.cons (iu iok_zero) (.cons (iu iok_zero) (.cons (iu iok_zero) (.cons (iu iok_zero) (.cons (iu iok_zero) (.cons (iu iok_zero) .nil))))))))) (Nat.le_of_ble_eq_true rfl) (allnil_of rfl)) (by exact rfl) (by kernel_rfl) (by exact rfl) (.v .nil) (pubs_cells _ _ (fun _ => rfl)) (by kernel_rfl) (by kernel_rfl) (.val _), by kernel_rfl⟩ <| zE oPt <| zM <| zZ) ?_
  refine pwp_ret ⟨_, (.tmp (d := (.val (.bool (true)))) rfl .nil), ?_⟩
  rfl
theorem w_fouOF (x0 y0 u0 v0 x1 y1 u1 v1 x2 y2 u2 v2 x3 y3 u3 v3 : Int) (hx0 : -1048576 ≤ x0 ∧ x0 ≤ 1048576) (hy0 : -1048576 ≤ y0 ∧ y0 ≤ 1048576) (hu0 : -1048576 ≤ u0 ∧ u0 ≤ 1048576) (hv0 : -1048576 ≤ v0 ∧ v0 ≤ 1048576) (hx1 : -1048576 ≤ x1 ∧ x1 ≤ 1048576) (hy1 : -1048576 ≤ y1 ∧ y1 ≤ 1048576) (hu1 : -1048576 ≤ u1 ∧ u1 ≤ 1048576) (hv1 : -1048576 ≤ v1 ∧ v1 ≤ 1048576) (hx2 : -1048576 ≤ x2 ∧ x2 ≤ 1048576) (hy2 : -1048576 ≤ y2 ∧ y2 ≤ 1048576) (hu2 : -1048576 ≤ u2 ∧ u2 ≤ 1048576) (hv2 : -1048576 ≤ v2 ∧ v2 ≤ 1048576) (hx3 : -1048576 ≤ x3 ∧ x3 ≤ 1048576) (hy3 : -1048576 ≤ y3 ∧ y3 ≤ 1048576) (hu3 : -1048576 ≤ u3 ∧ u3 ≤ 1048576) (hv3 : -1048576 ≤ v3 ∧ v3 ≤ 1048576) (k0 : Int) (hk0 : (det3 x3 y3 1 x1 y1 1 x2 y2 1) = k0) (k1 : Int) (hk1 : (det3 x0 y0 1 x3 y3 1 x2 y2 1) = k1) (k2 : Int) (hk2 : (det3 x0 y0 1 x1 y1 1 x3 y3 1) = k2) (k3 : Int) (hk3 : (det3 x0 y0 1 x1 y1 1 x2 y2 1) = k3) (m0 : Int) (hm0 : (det3 u3 v3 1 u1 v1 1 u2 v2 1) = m0) (m1 : Int) (hm1 : (det3 u0 v0 1 u3 v3 1 u2 v2 1) = m1) (m2 : Int) (hm2 : (det3 u0 v0 1 u1 v1 1 u3 v3 1) = m2) (m3 : Int) (hm3 : (det3 u0 v0 1 u1 v1 1 u2 v2 1) = m3) (a0 : Int) (ha0 : (k0 * x0) = a0) (a1 : Int) (ha1 : (k1 * x1) = a1) (a2 : Int) (ha2 : (k2 * x2) = a2) (a3 : Int) (ha3 : (k0 * y0) = a3) (a4 : Int) (ha4 : (k1 * y1) = a4) (a5 : Int) (ha5 : (k2 * y2) = a5) (a6 : Int) (ha6 : (k0 * 1) = a6) (a7 : Int) (ha7 : (k1 * 1) = a7) (a8 : Int) (ha8 : (k2 * 1) = a8) (b0 : Int) (hb0 : (m0 * u0) = b0) (b1 : Int) (hb1 : (m1 * u1) = b1) (b2 : Int) (hb2 : (m2 * u2) = b2) (b3 : Int) (hb3 : (m0 * v0) = b3) (b4 : Int) (hb4 : (m1 * v1) = b4) (b5 : Int) (hb5 : (m2 * v2) = b5) (b6 : Int) (hb6 : (m0 * 1) = b6) (b7 : Int) (hb7 : (m1 * 1) = b7) (b8 : Int) (hb8 : (m2 * 1) = b8) (f0 f1 f2 : Int) (hf : redL [x0, y0, 1] = [f0, f1, f2]) (g0 g1 g2 : Int) (hg : redL [x1, y1, 1] = [g0, g1, g2]) (h0 h1 h2 : Int) (hh : redL [x2, y2, 1] = [h0, h1, h2]) (i0 i1 i2 : Int) (hi : redL [x3, y3, 1] = [i0, i1, i2]) (p0 p1 p2 : Int) (hp : redL [u0, v0, 1] = [p0, p1, p2]) (q0 q1 q2 : Int) (hq : redL [u1, v1, 1] = [q0, q1, q2]) (s0 s1 s2 : Int) (hs : redL [u2, v2, 1] = [s0, s1, s2]) (t0 t1 t2 : Int) (ht : redL [u3, v3, 1] = [t0, t1, t2]) (a_0 a_1 a_2 a_3 a_4 a_5 a_6 a_7 a_8 : Int) (ha_ : redL [((det3 i0 i1 i2 g0 g1 g2 h0 h1 h2) * f0), ((det3 f0 f1 f2 i0 i1 i2 h0 h1 h2) * g0), ((det3 f0 f1 f2 g0 g1 g2 i0 i1 i2) * h0), ((det3 i0 i1 i2 g0 g1 g2 h0 h1 h2) * f1), ((det3 f0 f1 f2 i0 i1 i2 h0 h1 h2) * g1), ((det3 f0 f1 f2 g0 g1 g2 i0 i1 i2) * h1), ((det3 i0 i1 i2 g0 g1 g2 h0 h1 h2) * f2), ((det3 f0 f1 f2 i0 i1 i2 h0 h1 h2) * g2), ((det3 f0 f1 f2 g0 g1 g2 i0 i1 i2) * h2)] = [a_0, a_1, a_2, a_3, a_4, a_5, a_6, a_7, a_8]) (hk0_ : k0 ≠ 0) (hk1_ : k1 ≠ 0) (hk2_ : k2 ≠ 0) (hk3_ : k3 ≠ 0) (hzm : m0 * m1 * m2 * m3 = 0) (hfn0 : (det3 i0 i1 i2 g0 g1 g2 h0 h1 h2) ≠ 0) (hfn1 : (det3 f0 f1 f2 i0 i1 i2 h0 h1 h2) ≠ 0) (hfn2 : (det3 f0 f1 f2 g0 g1 g2 i0 i1 i2) ≠ 0) (hfn3 : (det3 f0 f1 f2 g0 g1 g2 h0 h1 h2) ≠ 0) (hfnz : sgnL [((det3 i0 i1 i2 g0 g1 g2 h0 h1 h2) * f0), ((det3 f0 f1 f2 i0 i1 i2 h0 h1 h2) * g0), ((det3 f0 f1 f2 g0 g1 g2 i0 i1 i2) * h0), ((det3 i0 i1 i2 g0 g1 g2 h0 h1 h2) * f1), ((det3 f0 f1 f2 i0 i1 i2 h0 h1 h2) * g1), ((det3 f0 f1 f2 g0 g1 g2 i0 i1 i2) * h1), ((det3 i0 i1 i2 g0 g1 g2 h0 h1 h2) * f2), ((det3 f0 f1 f2 i0 i1 i2 h0 h1 h2) * g2), ((det3 f0 f1 f2 g0 g1 g2 i0 i1 i2) * h2)] ≠ 0) (hfdz : signI (det3 ((det3 i0 i1 i2 g0 g1 g2 h0 h1 h2) * f0) ((det3 f0 f1 f2 i0 i1 i2 h0 h1 h2) * g0) ((det3 f0 f1 f2 g0 g1 g2 i0 i1 i2) * h0) ((det3 i0 i1 i2 g0 g1 g2 h0 h1 h2) * f1) ((det3 f0 f1 f2 i0 i1 i2 h0 h1 h2) * g1) ((det3 f0 f1 f2 g0 g1 g2 i0 i1 i2) * h1) ((det3 i0 i1 i2 g0 g1 g2 h0 h1 h2) * f2) ((det3 f0 f1 f2 i0 i1 i2 h0 h1 h2) * g2) ((det3 f0 f1 f2 g0 g1 g2 i0 i1 i2) * h2)) ≠ 0) (hzt : (det3 t0 t1 t2 q0 q1 q2 s0 s1 s2) * (det3 p0 p1 p2 t0 t1 t2 s0 s1 s2) * (det3 p0 p1 p2 q0 q1 q2 t0 t1 t2) * (det3 p0 p1 p2 q0 q1 q2 s0 s1 s2) = 0) : Takes Tryz.prog 3 [(encA26 (A4.mk (RPair.mk (RPix.mk x0 y0) (RPix.mk u0 v0)) (RPair.mk (RPix.mk x1 y1) (RPix.mk u1 v1)) (RPair.mk (RPix.mk x2 y2) (RPix.mk u2 v2)) (RPair.mk (RPix.mk x3 y3) (RPix.mk u3 v3))))] (.val (.bool (true))) := by
  let y7 := [(RInt.mk false []), (RInt.mk false []), (RInt.mk false []), (RInt.mk false []), (RInt.mk false []), (RInt.mk false []), (RInt.mk false []), (RInt.mk false []), (RInt.mk false [])]
  let y6 := (encA26 (A4.mk (RPair.mk (RPix.mk x0 y0) (RPix.mk u0 v0)) (RPair.mk (RPix.mk x1 y1) (RPix.mk u1 v1)) (RPair.mk (RPix.mk x2 y2) (RPix.mk u2 v2)) (RPair.mk (RPix.mk x3 y3) (RPix.mk u3 v3))))
  let y5 := (bx (encA31 (A9.mk (RInt.mk false []) (RInt.mk false []) (RInt.mk false []) (RInt.mk false []) (RInt.mk false []) (RInt.mk false []) (RInt.mk false []) (RInt.mk false []) (RInt.mk false []))))
  let y4 := (bx y6)
  refine fn_intro Tryz.func3 rfl cb3 rfl ?_
  show PWp _ _ _ _ ⟨[(0, (.d y6))], []⟩
  refine pwp_seq <| kx [(1, (.ref 0 0))] [(0, some y4)] (zN (oBx 0) <| zM <| zZ) ?_
  refine pwp_seq <| pwp_seq <| kx [(16, (vb false))] [] (zE (oCl l_known27) <| zE oNt <| zZ) ?_
  refine pwp_cond (b := false) (by kernel_rfl) (fun h => by cases h) (fun _ => ?_)
  refine pwp_skip <| pwp_seq ?_
  have bn1 : IOk (ofZ k0) k0 6 := (iok_eqz hk0.symm (iok_det3 (n := 1) (k := 6) (iok_small (z := x3) (by omega)) (iok_small (z := y3) (by omega)) (iok_small (z := 1) (by decide)) (iok_small (z := x1) (by omega)) (iok_small (z := y1) (by omega)) (iok_small (z := 1) (by decide)) (iok_small (z := x2) (by omega)) (iok_small (z := y2) (by omega)) (iok_small (z := 1) (by decide)) (by decide)))
  have bn2 : IOk (ofZ k1) k1 6 := (iok_eqz hk1.symm (iok_det3 (n := 1) (k := 6) (iok_small (z := x0) (by omega)) (iok_small (z := y0) (by omega)) (iok_small (z := 1) (by decide)) (iok_small (z := x3) (by omega)) (iok_small (z := y3) (by omega)) (iok_small (z := 1) (by decide)) (iok_small (z := x2) (by omega)) (iok_small (z := y2) (by omega)) (iok_small (z := 1) (by decide)) (by decide)))
  have bn3 : IOk (ofZ k2) k2 6 := (iok_eqz hk2.symm (iok_det3 (n := 1) (k := 6) (iok_small (z := x0) (by omega)) (iok_small (z := y0) (by omega)) (iok_small (z := 1) (by decide)) (iok_small (z := x1) (by omega)) (iok_small (z := y1) (by omega)) (iok_small (z := 1) (by decide)) (iok_small (z := x3) (by omega)) (iok_small (z := y3) (by omega)) (iok_small (z := 1) (by decide)) (by decide)))
  have bn4 : IOk (ofZ k3) k3 6 := (iok_eqz hk3.symm (iok_det3 (n := 1) (k := 6) (iok_small (z := x0) (by omega)) (iok_small (z := y0) (by omega)) (iok_small (z := 1) (by decide)) (iok_small (z := x1) (by omega)) (iok_small (z := y1) (by omega)) (iok_small (z := 1) (by decide)) (iok_small (z := x2) (by omega)) (iok_small (z := y2) (by omega)) (iok_small (z := 1) (by decide)) (by decide)))
  have bn5 : IOk (ofZ m0) m0 6 := (iok_eqz hm0.symm (iok_det3 (n := 1) (k := 6) (iok_small (z := u3) (by omega)) (iok_small (z := v3) (by omega)) (iok_small (z := 1) (by decide)) (iok_small (z := u1) (by omega)) (iok_small (z := v1) (by omega)) (iok_small (z := 1) (by decide)) (iok_small (z := u2) (by omega)) (iok_small (z := v2) (by omega)) (iok_small (z := 1) (by decide)) (by decide)))
  have bn6 : IOk (ofZ m1) m1 6 := (iok_eqz hm1.symm (iok_det3 (n := 1) (k := 6) (iok_small (z := u0) (by omega)) (iok_small (z := v0) (by omega)) (iok_small (z := 1) (by decide)) (iok_small (z := u3) (by omega)) (iok_small (z := v3) (by omega)) (iok_small (z := 1) (by decide)) (iok_small (z := u2) (by omega)) (iok_small (z := v2) (by omega)) (iok_small (z := 1) (by decide)) (by decide)))
  have bn7 : IOk (ofZ m2) m2 6 := (iok_eqz hm2.symm (iok_det3 (n := 1) (k := 6) (iok_small (z := u0) (by omega)) (iok_small (z := v0) (by omega)) (iok_small (z := 1) (by decide)) (iok_small (z := u1) (by omega)) (iok_small (z := v1) (by omega)) (iok_small (z := 1) (by decide)) (iok_small (z := u3) (by omega)) (iok_small (z := v3) (by omega)) (iok_small (z := 1) (by decide)) (by decide)))
  have bn8 : IOk (ofZ m3) m3 6 := (iok_eqz hm3.symm (iok_det3 (n := 1) (k := 6) (iok_small (z := u0) (by omega)) (iok_small (z := v0) (by omega)) (iok_small (z := 1) (by decide)) (iok_small (z := u1) (by omega)) (iok_small (z := v1) (by omega)) (iok_small (z := 1) (by decide)) (iok_small (z := u2) (by omega)) (iok_small (z := v2) (by omega)) (iok_small (z := 1) (by decide)) (by decide)))
  have bn9 : IOk (ofZ a0) a0 7 := (iok_eqz ha0.symm (iok_mul (k := 7) bn1 (iok_small (z := x0) (by omega)) (by decide)))
  have bn10 : IOk (ofZ a1) a1 7 := (iok_eqz ha1.symm (iok_mul (k := 7) bn2 (iok_small (z := x1) (by omega)) (by decide)))
  have bn11 : IOk (ofZ a2) a2 7 := (iok_eqz ha2.symm (iok_mul (k := 7) bn3 (iok_small (z := x2) (by omega)) (by decide)))
  have bn12 : IOk (ofZ a3) a3 7 := (iok_eqz ha3.symm (iok_mul (k := 7) bn1 (iok_small (z := y0) (by omega)) (by decide)))
  have bn13 : IOk (ofZ a4) a4 7 := (iok_eqz ha4.symm (iok_mul (k := 7) bn2 (iok_small (z := y1) (by omega)) (by decide)))
  have bn14 : IOk (ofZ a5) a5 7 := (iok_eqz ha5.symm (iok_mul (k := 7) bn3 (iok_small (z := y2) (by omega)) (by decide)))
  have bn15 : IOk (ofZ a6) a6 7 := (iok_eqz ha6.symm (iok_mul (k := 7) bn1 (iok_small (z := 1) (by decide)) (by decide)))
  have bn16 : IOk (ofZ a7) a7 7 := (iok_eqz ha7.symm (iok_mul (k := 7) bn2 (iok_small (z := 1) (by decide)) (by decide)))
  have bn17 : IOk (ofZ a8) a8 7 := (iok_eqz ha8.symm (iok_mul (k := 7) bn3 (iok_small (z := 1) (by decide)) (by decide)))
  have bn18 : IOk (ofZ b0) b0 7 := (iok_eqz hb0.symm (iok_mul (k := 7) bn5 (iok_small (z := u0) (by omega)) (by decide)))
  have bn19 : IOk (ofZ b1) b1 7 := (iok_eqz hb1.symm (iok_mul (k := 7) bn6 (iok_small (z := u1) (by omega)) (by decide)))
  have bn20 : IOk (ofZ b2) b2 7 := (iok_eqz hb2.symm (iok_mul (k := 7) bn7 (iok_small (z := u2) (by omega)) (by decide)))
  have bn21 : IOk (ofZ b3) b3 7 := (iok_eqz hb3.symm (iok_mul (k := 7) bn5 (iok_small (z := v0) (by omega)) (by decide)))
  have bn22 : IOk (ofZ b4) b4 7 := (iok_eqz hb4.symm (iok_mul (k := 7) bn6 (iok_small (z := v1) (by omega)) (by decide)))
  have bn23 : IOk (ofZ b5) b5 7 := (iok_eqz hb5.symm (iok_mul (k := 7) bn7 (iok_small (z := v2) (by omega)) (by decide)))
  have bn24 : IOk (ofZ b6) b6 7 := (iok_eqz hb6.symm (iok_mul (k := 7) bn5 (iok_small (z := 1) (by decide)) (by decide)))
  have bn25 : IOk (ofZ b7) b7 7 := (iok_eqz hb7.symm (iok_mul (k := 7) bn6 (iok_small (z := 1) (by decide)) (by decide)))
  have bn26 : IOk (ofZ b8) b8 7 := (iok_eqz hb8.symm (iok_mul (k := 7) bn7 (iok_small (z := 1) (by decide)) (by decide)))
  refine kx [(3, (.ref 1 0)), (4, (vi 13))] [(1, some y5)] (zR (oLa sh26) <| zE (oCl (d_fourOF x0 y0 u0 v0 x1 y1 u1 v1 x2 y2 u2 v2 x3 y3 u3 v3 (by omega) (by omega) (by omega) (by omega) (by omega) (by omega) (by omega) (by omega) (by omega) (by omega) (by omega) (by omega) (by omega) (by omega) (by omega) (by omega) k0 hk0 k1 hk1 k2 hk2 k3 hk3 m0 hm0 m1 hm1 m2 hm2 m3 hm3 a0 ha0 a1 ha1 a2 ha2 a3 ha3 a4 ha4 a5 ha5 a6 ha6 a7 ha7 a8 ha8 b0 hb0 b1 hb1 b2 hb2 b3 hb3 b4 hb4 b5 hb5 b6 hb6 b7 hb7 b8 hb8 hk0_ hk1_ hk2_ hk3_ hzm)) <| zM <| zE oEx <| zE oEx <| zN (oAl 1 ze32 zo32) <| zT (oSt sh32) <| zM <| zZ) ?_
  refine pwp_seq <| kx [(5, (vin 0))] [] (zM <| zZ) ?_
  refine pwp_seq <| pwp_seq <| kx [(22, (.d y6)), (23, (vin 0))] [] (zR (oLa sh26) <| zM <| zZ) ?_
  refine pwp_block <| pwp_rounds 20 ?_
  refine pwp_round <| pwp_seq <| kx [(24, (vb true))] [] (zE (oBk true oLt) <| zZ) ?_
  refine pwp_seq <| pwp_cond (b := true) (by kernel_rfl) (fun _ => ?_) (fun h => by cases h)
  refine pwp_skip <| pwp_seq <| pwp_block <| pwp_seq <| kx [(7, (.ref 2 0))] [(2, some (bx (encPair (RPair.mk (RPix.mk x0 y0) (RPix.mk u0 v0)))))] (zE (oXa ar26 sh25 (fun h => by cases h) 0) <| zN (oAl 2 ze25 zo25) <| zT (oSt sh25) <| zZ) ?_
  refine pwp_seq <| kx [(38, (vl 3 1 enc_i64 [x0, y0, u0, v0])), (39, (vin 4)), (40, (vin 0))] [] (zE (oFr fo25_0) <| zE (oFr fo23_0) <| zR (oL1 sh3) <| zE (oFr fo25_0) <| zE (oFr fo23_1) <| zR (oL1 sh3) <| zE (oFr fo25_1) <| zE (oFr fo23_0) <| zR (oL1 sh3) <| zE (oFr fo25_1) <| zE (oFr fo23_1) <| zR (oL1 sh3) <| zE (oBs el36 ze3 zo3) <| zE (oLn el36 4) <| zM <| zZ) ?_
  refine pwp_block <| pwp_rounds 20 ?_
  refine pwp_round <| pwp_seq <| kx [(41, (vb true))] [] (zE (oBk true oLt) <| zZ) ?_
  refine pwp_seq <| pwp_cond (b := true) (by kernel_rfl) (fun _ => ?_) (fun h => by cases h)
  refine pwp_skip <| pwp_seq <| pwp_block <| pwp_seq <| kx [(9, (vi x0))] [] (zE (oXs el36 0) <| zE (oC1 sh3) <| zM <| zZ) ?_
  refine pwp_seq <| kx [(49, (vb false))] [] (zM <| zE (oBk false oLt (by exact decide_eq_false (by omega))) <| zM <| zM <| zE (oBk false oGt (by exact decide_eq_false (by omega))) <| zE oPf <| zZ) ?_
  refine pwp_cond (b := false) (by kernel_rfl) (fun h => by cases h) (fun _ => ?_)
  refine pwp_skip <| kx [(40, (vin 1))] [] (zE (oAd 1 (hr := by decide)) <| zM <| zZ) ?_
  refine pwp_again (SimImp.refl _) ?_
  refine pwp_seq <| kx [(41, (vb true))] [] (zE (oBk true oLt) <| zZ) ?_
  refine pwp_seq <| pwp_cond (b := true) (by kernel_rfl) (fun _ => ?_) (fun h => by cases h)
  refine pwp_skip <| pwp_seq <| pwp_block <| pwp_seq <| kx [(9, (vi y0))] [] (zE (oXs el36 1) <| zE (oC1 sh3) <| zM <| zZ) ?_
  refine pwp_seq <| pwp_sim (wk (l := [(1, (.ref 0 0)), (3, (.ref 1 0)), (4, (vi 13)), (5, (vin 0)), (9, (vi y0)), (22, (.d y6)), (23, (vin 0)), (38, (vl 3 1 enc_i64 [x0, y0, u0, v0])), (39, (vin 4)), (40, (vin 1))]) (b := [(0, some y4), (1, some y5)])) ?_
  refine kx [(49, (vb false))] [] (zM <| zE (oBk false oLt (by exact decide_eq_false (by omega))) <| zM <| zM <| zE (oBk false oGt (by exact decide_eq_false (by omega))) <| zE oPf <| zZ) ?_
  refine pwp_cond (b := false) (by kernel_rfl) (fun h => by cases h) (fun _ => ?_)
  refine pwp_skip <| kx [(40, (vin 2))] [] (zE (oAd 2 (hr := by decide)) <| zM <| zZ) ?_
  refine pwp_again (SimImp.refl _) ?_
  refine pwp_seq <| kx [(41, (vb true))] [] (zE (oBk true oLt) <| zZ) ?_
  refine pwp_seq <| pwp_cond (b := true) (by kernel_rfl) (fun _ => ?_) (fun h => by cases h)
  refine pwp_skip <| pwp_seq <| pwp_block <| pwp_seq <| kx [(9, (vi u0))] [] (zE (oXs el36 2) <| zE (oC1 sh3) <| zM <| zZ) ?_
  refine pwp_seq <| kx [(49, (vb false))] [] (zM <| zE (oBk false oLt (by exact decide_eq_false (by omega))) <| zM <| zM <| zE (oBk false oGt (by exact decide_eq_false (by omega))) <| zE oPf <| zZ) ?_
  refine pwp_cond (b := false) (by kernel_rfl) (fun h => by cases h) (fun _ => ?_)
  refine pwp_skip <| kx [(40, (vin 3))] [] (zE (oAd 3 (hr := by decide)) <| zM <| zZ) ?_
  refine pwp_again (SimImp.refl _) ?_
  refine pwp_seq <| kx [(41, (vb true))] [] (zE (oBk true oLt) <| zZ) ?_
  refine pwp_seq <| pwp_cond (b := true) (by kernel_rfl) (fun _ => ?_) (fun h => by cases h)
  refine pwp_skip <| pwp_seq <| pwp_block <| pwp_seq <| kx [(9, (vi v0))] [] (zE (oXs el36 3) <| zE (oC1 sh3) <| zM <| zZ) ?_
  refine pwp_seq <| kx [(49, (vb false))] [] (zM <| zE (oBk false oLt (by exact decide_eq_false (by omega))) <| zM <| zM <| zE (oBk false oGt (by exact decide_eq_false (by omega))) <| zE oPf <| zZ) ?_
  refine pwp_cond (b := false) (by kernel_rfl) (fun h => by cases h) (fun _ => ?_)
  refine pwp_skip <| kx [(40, (vin 4))] [] (zE (oAd 4 (hr := by decide)) <| zM <| zZ) ?_
  refine pwp_again (SimImp.refl _) ?_
  refine pwp_seq <| kx [(41, (vb false))] [] (zE (oBk false oLt) <| zZ) ?_
  refine pwp_seq <| pwp_cond (b := false) (by kernel_rfl) (fun h => by cases h) (fun _ => ?_)
  refine pwp_exit <| kx [(23, (vin 1))] [] (zE (oAd 1 (hr := by decide)) <| zM <| zZ) ?_
  refine pwp_again (SimImp.refl _) ?_
  refine pwp_seq <| kx [(24, (vb true))] [] (zE (oBk true oLt) <| zZ) ?_
  refine pwp_seq <| pwp_cond (b := true) (by kernel_rfl) (fun _ => ?_) (fun h => by cases h)
  refine pwp_skip <| pwp_seq <| pwp_block <| pwp_seq <| kx [(7, (.ref 3 0))] [(3, some (bx (encPair (RPair.mk (RPix.mk x1 y1) (RPix.mk u1 v1)))))] (zE (oXa ar26 sh25 (fun h => by cases h) 1) <| zN (oAl 3 ze25 zo25) <| zT (oSt sh25) <| zZ) ?_
  refine pwp_seq <| pwp_sim (wk (l := [(1, (.ref 0 0)), (3, (.ref 1 0)), (4, (vi 13)), (5, (vin 0)), (7, (.ref 3 0)), (22, (.d y6)), (23, (vin 1))]) (b := [(0, some y4), (1, some y5), (3, some (bx (encPair (RPair.mk (RPix.mk x1 y1) (RPix.mk u1 v1)))))])) ?_
  refine kx [(38, (vl 3 1 enc_i64 [x1, y1, u1, v1])), (39, (vin 4)), (40, (vin 0))] [] (zE (oFr fo25_0) <| zE (oFr fo23_0) <| zR (oL1 sh3) <| zE (oFr fo25_0) <| zE (oFr fo23_1) <| zR (oL1 sh3) <| zE (oFr fo25_1) <| zE (oFr fo23_0) <| zR (oL1 sh3) <| zE (oFr fo25_1) <| zE (oFr fo23_1) <| zR (oL1 sh3) <| zE (oBs el36 ze3 zo3) <| zE (oLn el36 4) <| zM <| zZ) ?_
  refine pwp_block <| pwp_rounds 20 ?_
  refine pwp_round <| pwp_seq <| kx [(41, (vb true))] [] (zE (oBk true oLt) <| zZ) ?_
  refine pwp_seq <| pwp_cond (b := true) (by kernel_rfl) (fun _ => ?_) (fun h => by cases h)
  refine pwp_skip <| pwp_seq <| pwp_block <| pwp_seq <| kx [(9, (vi x1))] [] (zE (oXs el36 0) <| zE (oC1 sh3) <| zM <| zZ) ?_
  refine pwp_seq <| kx [(49, (vb false))] [] (zM <| zE (oBk false oLt (by exact decide_eq_false (by omega))) <| zM <| zM <| zE (oBk false oGt (by exact decide_eq_false (by omega))) <| zE oPf <| zZ) ?_
  refine pwp_cond (b := false) (by kernel_rfl) (fun h => by cases h) (fun _ => ?_)
  refine pwp_skip <| kx [(40, (vin 1))] [] (zE (oAd 1 (hr := by decide)) <| zM <| zZ) ?_
  refine pwp_again (SimImp.refl _) ?_
  refine pwp_seq <| kx [(41, (vb true))] [] (zE (oBk true oLt) <| zZ) ?_
  refine pwp_seq <| pwp_cond (b := true) (by kernel_rfl) (fun _ => ?_) (fun h => by cases h)
  refine pwp_skip <| pwp_seq <| pwp_block <| pwp_seq <| kx [(9, (vi y1))] [] (zE (oXs el36 1) <| zE (oC1 sh3) <| zM <| zZ) ?_
  refine pwp_seq <| kx [(49, (vb false))] [] (zM <| zE (oBk false oLt (by exact decide_eq_false (by omega))) <| zM <| zM <| zE (oBk false oGt (by exact decide_eq_false (by omega))) <| zE oPf <| zZ) ?_
  refine pwp_cond (b := false) (by kernel_rfl) (fun h => by cases h) (fun _ => ?_)
  refine pwp_skip <| kx [(40, (vin 2))] [] (zE (oAd 2 (hr := by decide)) <| zM <| zZ) ?_
  refine pwp_again (SimImp.refl _) ?_
  refine pwp_seq <| kx [(41, (vb true))] [] (zE (oBk true oLt) <| zZ) ?_
  refine pwp_seq <| pwp_cond (b := true) (by kernel_rfl) (fun _ => ?_) (fun h => by cases h)
  refine pwp_skip <| pwp_seq <| pwp_block <| pwp_seq <| kx [(9, (vi u1))] [] (zE (oXs el36 2) <| zE (oC1 sh3) <| zM <| zZ) ?_
  refine pwp_seq <| kx [(49, (vb false))] [] (zM <| zE (oBk false oLt (by exact decide_eq_false (by omega))) <| zM <| zM <| zE (oBk false oGt (by exact decide_eq_false (by omega))) <| zE oPf <| zZ) ?_
  refine pwp_cond (b := false) (by kernel_rfl) (fun h => by cases h) (fun _ => ?_)
  refine pwp_skip <| kx [(40, (vin 3))] [] (zE (oAd 3 (hr := by decide)) <| zM <| zZ) ?_
  refine pwp_again (SimImp.refl _) ?_
  refine pwp_seq <| kx [(41, (vb true))] [] (zE (oBk true oLt) <| zZ) ?_
  refine pwp_seq <| pwp_cond (b := true) (by kernel_rfl) (fun _ => ?_) (fun h => by cases h)
  refine pwp_skip <| pwp_seq <| pwp_block <| pwp_seq <| pwp_sim (wk (l := [(1, (.ref 0 0)), (3, (.ref 1 0)), (4, (vi 13)), (5, (vin 0)), (22, (.d y6)), (23, (vin 1)), (38, (vl 3 1 enc_i64 [x1, y1, u1, v1])), (39, (vin 4)), (40, (vin 3)), (41, (vb true))]) (b := [(0, some y4), (1, some y5)])) ?_
  refine kx [(9, (vi v1))] [] (zE (oXs el36 3) <| zE (oC1 sh3) <| zM <| zZ) ?_
  refine pwp_seq <| kx [(49, (vb false))] [] (zM <| zE (oBk false oLt (by exact decide_eq_false (by omega))) <| zM <| zM <| zE (oBk false oGt (by exact decide_eq_false (by omega))) <| zE oPf <| zZ) ?_
  refine pwp_cond (b := false) (by kernel_rfl) (fun h => by cases h) (fun _ => ?_)
  refine pwp_skip <| kx [(40, (vin 4))] [] (zE (oAd 4 (hr := by decide)) <| zM <| zZ) ?_
  refine pwp_again (SimImp.refl _) ?_
  refine pwp_seq <| kx [(41, (vb false))] [] (zE (oBk false oLt) <| zZ) ?_
  refine pwp_seq <| pwp_cond (b := false) (by kernel_rfl) (fun h => by cases h) (fun _ => ?_)
  refine pwp_exit <| kx [(23, (vin 2))] [] (zE (oAd 2 (hr := by decide)) <| zM <| zZ) ?_
  refine pwp_again (SimImp.refl _) ?_
  refine pwp_seq <| kx [(24, (vb true))] [] (zE (oBk true oLt) <| zZ) ?_
  refine pwp_seq <| pwp_cond (b := true) (by kernel_rfl) (fun _ => ?_) (fun h => by cases h)
  refine pwp_skip <| pwp_seq <| pwp_block <| pwp_seq <| kx [(7, (.ref 4 0))] [(4, some (bx (encPair (RPair.mk (RPix.mk x2 y2) (RPix.mk u2 v2)))))] (zE (oXa ar26 sh25 (fun h => by cases h) 2) <| zN (oAl 4 ze25 zo25) <| zT (oSt sh25) <| zZ) ?_
  refine pwp_seq <| kx [(38, (vl 3 1 enc_i64 [x2, y2, u2, v2])), (39, (vin 4)), (40, (vin 0))] [] (zE (oFr fo25_0) <| zE (oFr fo23_0) <| zR (oL1 sh3) <| zE (oFr fo25_0) <| zE (oFr fo23_1) <| zR (oL1 sh3) <| zE (oFr fo25_1) <| zE (oFr fo23_0) <| zR (oL1 sh3) <| zE (oFr fo25_1) <| zE (oFr fo23_1) <| zR (oL1 sh3) <| zE (oBs el36 ze3 zo3) <| zE (oLn el36 4) <| zM <| zZ) ?_
  refine pwp_block <| pwp_rounds 20 ?_
  refine pwp_round <| pwp_seq <| kx [(41, (vb true))] [] (zE (oBk true oLt) <| zZ) ?_
  refine pwp_seq <| pwp_cond (b := true) (by kernel_rfl) (fun _ => ?_) (fun h => by cases h)
  refine pwp_skip <| pwp_seq <| pwp_block <| pwp_seq <| kx [(9, (vi x2))] [] (zE (oXs el36 0) <| zE (oC1 sh3) <| zM <| zZ) ?_
  refine pwp_seq <| kx [(49, (vb false))] [] (zM <| zE (oBk false oLt (by exact decide_eq_false (by omega))) <| zM <| zM <| zE (oBk false oGt (by exact decide_eq_false (by omega))) <| zE oPf <| zZ) ?_
  refine pwp_cond (b := false) (by kernel_rfl) (fun h => by cases h) (fun _ => ?_)
  refine pwp_skip <| kx [(40, (vin 1))] [] (zE (oAd 1 (hr := by decide)) <| zM <| zZ) ?_
  refine pwp_again (SimImp.refl _) ?_
  refine pwp_seq <| kx [(41, (vb true))] [] (zE (oBk true oLt) <| zZ) ?_
  refine pwp_seq <| pwp_cond (b := true) (by kernel_rfl) (fun _ => ?_) (fun h => by cases h)
  refine pwp_skip <| pwp_seq <| pwp_block <| pwp_seq <| kx [(9, (vi y2))] [] (zE (oXs el36 1) <| zE (oC1 sh3) <| zM <| zZ) ?_
  refine pwp_seq <| pwp_sim (wk (l := [(1, (.ref 0 0)), (3, (.ref 1 0)), (4, (vi 13)), (5, (vin 0)), (9, (vi y2)), (22, (.d y6)), (23, (vin 2)), (38, (vl 3 1 enc_i64 [x2, y2, u2, v2])), (39, (vin 4)), (40, (vin 1))]) (b := [(0, some y4), (1, some y5)])) ?_
  refine kx [(49, (vb false))] [] (zM <| zE (oBk false oLt (by exact decide_eq_false (by omega))) <| zM <| zM <| zE (oBk false oGt (by exact decide_eq_false (by omega))) <| zE oPf <| zZ) ?_
  refine pwp_cond (b := false) (by kernel_rfl) (fun h => by cases h) (fun _ => ?_)
  refine pwp_skip <| kx [(40, (vin 2))] [] (zE (oAd 2 (hr := by decide)) <| zM <| zZ) ?_
  refine pwp_again (SimImp.refl _) ?_
  refine pwp_seq <| kx [(41, (vb true))] [] (zE (oBk true oLt) <| zZ) ?_
  refine pwp_seq <| pwp_cond (b := true) (by kernel_rfl) (fun _ => ?_) (fun h => by cases h)
  refine pwp_skip <| pwp_seq <| pwp_block <| pwp_seq <| kx [(9, (vi u2))] [] (zE (oXs el36 2) <| zE (oC1 sh3) <| zM <| zZ) ?_
  refine pwp_seq <| kx [(49, (vb false))] [] (zM <| zE (oBk false oLt (by exact decide_eq_false (by omega))) <| zM <| zM <| zE (oBk false oGt (by exact decide_eq_false (by omega))) <| zE oPf <| zZ) ?_
  refine pwp_cond (b := false) (by kernel_rfl) (fun h => by cases h) (fun _ => ?_)
  refine pwp_skip <| kx [(40, (vin 3))] [] (zE (oAd 3 (hr := by decide)) <| zM <| zZ) ?_
  refine pwp_again (SimImp.refl _) ?_
  refine pwp_seq <| kx [(41, (vb true))] [] (zE (oBk true oLt) <| zZ) ?_
  refine pwp_seq <| pwp_cond (b := true) (by kernel_rfl) (fun _ => ?_) (fun h => by cases h)
  refine pwp_skip <| pwp_seq <| pwp_block <| pwp_seq <| kx [(9, (vi v2))] [] (zE (oXs el36 3) <| zE (oC1 sh3) <| zM <| zZ) ?_
  refine pwp_seq <| kx [(49, (vb false))] [] (zM <| zE (oBk false oLt (by exact decide_eq_false (by omega))) <| zM <| zM <| zE (oBk false oGt (by exact decide_eq_false (by omega))) <| zE oPf <| zZ) ?_
  refine pwp_cond (b := false) (by kernel_rfl) (fun h => by cases h) (fun _ => ?_)
  refine pwp_skip <| kx [(40, (vin 4))] [] (zE (oAd 4 (hr := by decide)) <| zM <| zZ) ?_
  refine pwp_again (SimImp.refl _) ?_
  refine pwp_seq <| kx [(41, (vb false))] [] (zE (oBk false oLt) <| zZ) ?_
  refine pwp_seq <| pwp_cond (b := false) (by kernel_rfl) (fun h => by cases h) (fun _ => ?_)
  refine pwp_exit <| kx [(23, (vin 3))] [] (zE (oAd 3 (hr := by decide)) <| zM <| zZ) ?_
  refine pwp_again (SimImp.refl _) ?_
  refine pwp_seq <| kx [(24, (vb true))] [] (zE (oBk true oLt) <| zZ) ?_
  refine pwp_seq <| pwp_cond (b := true) (by kernel_rfl) (fun _ => ?_) (fun h => by cases h)
  refine pwp_skip <| pwp_seq <| pwp_block <| pwp_seq <| kx [(7, (.ref 5 0))] [(5, some (bx (encPair (RPair.mk (RPix.mk x3 y3) (RPix.mk u3 v3)))))] (zE (oXa ar26 sh25 (fun h => by cases h) 3) <| zN (oAl 5 ze25 zo25) <| zT (oSt sh25) <| zZ) ?_
  refine pwp_seq <| pwp_sim (wk (l := [(1, (.ref 0 0)), (3, (.ref 1 0)), (4, (vi 13)), (5, (vin 0)), (7, (.ref 5 0)), (22, (.d y6)), (23, (vin 3))]) (b := [(0, some y4), (1, some y5), (5, some (bx (encPair (RPair.mk (RPix.mk x3 y3) (RPix.mk u3 v3)))))])) ?_
  refine kx [(38, (vl 3 1 enc_i64 [x3, y3, u3, v3])), (39, (vin 4)), (40, (vin 0))] [] (zE (oFr fo25_0) <| zE (oFr fo23_0) <| zR (oL1 sh3) <| zE (oFr fo25_0) <| zE (oFr fo23_1) <| zR (oL1 sh3) <| zE (oFr fo25_1) <| zE (oFr fo23_0) <| zR (oL1 sh3) <| zE (oFr fo25_1) <| zE (oFr fo23_1) <| zR (oL1 sh3) <| zE (oBs el36 ze3 zo3) <| zE (oLn el36 4) <| zM <| zZ) ?_
  refine pwp_block <| pwp_rounds 20 ?_
  refine pwp_round <| pwp_seq <| kx [(41, (vb true))] [] (zE (oBk true oLt) <| zZ) ?_
  refine pwp_seq <| pwp_cond (b := true) (by kernel_rfl) (fun _ => ?_) (fun h => by cases h)
  refine pwp_skip <| pwp_seq <| pwp_block <| pwp_seq <| kx [(9, (vi x3))] [] (zE (oXs el36 0) <| zE (oC1 sh3) <| zM <| zZ) ?_
  refine pwp_seq <| kx [(49, (vb false))] [] (zM <| zE (oBk false oLt (by exact decide_eq_false (by omega))) <| zM <| zM <| zE (oBk false oGt (by exact decide_eq_false (by omega))) <| zE oPf <| zZ) ?_
  refine pwp_cond (b := false) (by kernel_rfl) (fun h => by cases h) (fun _ => ?_)
  refine pwp_skip <| kx [(40, (vin 1))] [] (zE (oAd 1 (hr := by decide)) <| zM <| zZ) ?_
  refine pwp_again (SimImp.refl _) ?_
  refine pwp_seq <| kx [(41, (vb true))] [] (zE (oBk true oLt) <| zZ) ?_
  refine pwp_seq <| pwp_cond (b := true) (by kernel_rfl) (fun _ => ?_) (fun h => by cases h)
  refine pwp_skip <| pwp_seq <| pwp_block <| pwp_seq <| kx [(9, (vi y3))] [] (zE (oXs el36 1) <| zE (oC1 sh3) <| zM <| zZ) ?_
  refine pwp_seq <| kx [(49, (vb false))] [] (zM <| zE (oBk false oLt (by exact decide_eq_false (by omega))) <| zM <| zM <| zE (oBk false oGt (by exact decide_eq_false (by omega))) <| zE oPf <| zZ) ?_
  refine pwp_cond (b := false) (by kernel_rfl) (fun h => by cases h) (fun _ => ?_)
  refine pwp_skip <| kx [(40, (vin 2))] [] (zE (oAd 2 (hr := by decide)) <| zM <| zZ) ?_
  refine pwp_again (SimImp.refl _) ?_
  refine pwp_seq <| kx [(41, (vb true))] [] (zE (oBk true oLt) <| zZ) ?_
  refine pwp_seq <| pwp_cond (b := true) (by kernel_rfl) (fun _ => ?_) (fun h => by cases h)
  refine pwp_skip <| pwp_seq <| pwp_block <| pwp_seq <| kx [(9, (vi u3))] [] (zE (oXs el36 2) <| zE (oC1 sh3) <| zM <| zZ) ?_
  refine pwp_seq <| kx [(49, (vb false))] [] (zM <| zE (oBk false oLt (by exact decide_eq_false (by omega))) <| zM <| zM <| zE (oBk false oGt (by exact decide_eq_false (by omega))) <| zE oPf <| zZ) ?_
  refine pwp_cond (b := false) (by kernel_rfl) (fun h => by cases h) (fun _ => ?_)
  refine pwp_skip <| kx [(40, (vin 3))] [] (zE (oAd 3 (hr := by decide)) <| zM <| zZ) ?_
  refine pwp_again (SimImp.refl _) ?_
  refine pwp_seq <| kx [(41, (vb true))] [] (zE (oBk true oLt) <| zZ) ?_
  refine pwp_seq <| pwp_cond (b := true) (by kernel_rfl) (fun _ => ?_) (fun h => by cases h)
  refine pwp_skip <| pwp_seq <| pwp_block <| pwp_seq <| pwp_sim (wk (l := [(1, (.ref 0 0)), (3, (.ref 1 0)), (4, (vi 13)), (5, (vin 0)), (22, (.d y6)), (23, (vin 3)), (38, (vl 3 1 enc_i64 [x3, y3, u3, v3])), (39, (vin 4)), (40, (vin 3)), (41, (vb true))]) (b := [(0, some y4), (1, some y5)])) ?_
  refine kx [(9, (vi v3))] [] (zE (oXs el36 3) <| zE (oC1 sh3) <| zM <| zZ) ?_
  refine pwp_seq <| kx [(49, (vb false))] [] (zM <| zE (oBk false oLt (by exact decide_eq_false (by omega))) <| zM <| zM <| zE (oBk false oGt (by exact decide_eq_false (by omega))) <| zE oPf <| zZ) ?_
  refine pwp_cond (b := false) (by kernel_rfl) (fun h => by cases h) (fun _ => ?_)
  refine pwp_skip <| kx [(40, (vin 4))] [] (zE (oAd 4 (hr := by decide)) <| zM <| zZ) ?_
  refine pwp_again (SimImp.refl _) ?_
  refine pwp_seq <| kx [(41, (vb false))] [] (zE (oBk false oLt) <| zZ) ?_
  refine pwp_seq <| pwp_cond (b := false) (by kernel_rfl) (fun h => by cases h) (fun _ => ?_)
  refine pwp_exit <| kx [(23, (vin 4))] [] (zE (oAd 4 (hr := by decide)) <| zM <| zZ) ?_
  refine pwp_again (SimImp.refl _) ?_
  refine pwp_seq <| kx [(24, (vb false))] [] (zE (oBk false oLt) <| zZ) ?_
  refine pwp_seq <| pwp_cond (b := false) (by kernel_rfl) (fun h => by cases h) (fun _ => ?_)
  refine pwp_exit <| pwp_seq <| kx [(10, (.ref 6 0))] [(6, some y5)] (zE (oBa ar32 ze32 zo32) <| zN (oAl 6 ze32 zo32) <| zT (oSt sh32) <| zZ) ?_
  refine pwp_seq <| pwp_seq <| kx [(54, (vb true))] [] (zM <| zE oEq <| zZ) ?_
  refine pwp_cond (b := true) (by kernel_rfl) (fun _ => ?_) (fun h => by cases h)
  refine pwp_seq ?_
  have bn27 : ∀ c ∈ [f0, f1, f2], IOk (ofZ c) c 1 := red_iok (n := 1) (.cons (iok_small (z := x0) (by omega)) (.cons (iok_small (z := y0) (by omega)) (.cons (iok_small (z := 1) (by decide)) .nil))) hf
  have bn28 : ∀ c ∈ [g0, g1, g2], IOk (ofZ c) c 1 := red_iok (n := 1) (.cons (iok_small (z := x1) (by omega)) (.cons (iok_small (z := y1) (by omega)) (.cons (iok_small (z := 1) (by decide)) .nil))) hg
  have bn29 : ∀ c ∈ [h0, h1, h2], IOk (ofZ c) c 1 := red_iok (n := 1) (.cons (iok_small (z := x2) (by omega)) (.cons (iok_small (z := y2) (by omega)) (.cons (iok_small (z := 1) (by decide)) .nil))) hh
  have bn30 : ∀ c ∈ [i0, i1, i2], IOk (ofZ c) c 1 := red_iok (n := 1) (.cons (iok_small (z := x3) (by omega)) (.cons (iok_small (z := y3) (by omega)) (.cons (iok_small (z := 1) (by decide)) .nil))) hi
  have bn31 : ∀ c ∈ [p0, p1, p2], IOk (ofZ c) c 1 := red_iok (n := 1) (.cons (iok_small (z := u0) (by omega)) (.cons (iok_small (z := v0) (by omega)) (.cons (iok_small (z := 1) (by decide)) .nil))) hp
  have bn32 : ∀ c ∈ [q0, q1, q2], IOk (ofZ c) c 1 := red_iok (n := 1) (.cons (iok_small (z := u1) (by omega)) (.cons (iok_small (z := v1) (by omega)) (.cons (iok_small (z := 1) (by decide)) .nil))) hq
  have bn33 : ∀ c ∈ [s0, s1, s2], IOk (ofZ c) c 1 := red_iok (n := 1) (.cons (iok_small (z := u2) (by omega)) (.cons (iok_small (z := v2) (by omega)) (.cons (iok_small (z := 1) (by decide)) .nil))) hs
  have bn34 : ∀ c ∈ [t0, t1, t2], IOk (ofZ c) c 1 := red_iok (n := 1) (.cons (iok_small (z := u3) (by omega)) (.cons (iok_small (z := v3) (by omega)) (.cons (iok_small (z := 1) (by decide)) .nil))) ht
  have bn35 : ∀ c ∈ [a_0, a_1, a_2, a_3, a_4, a_5, a_6, a_7, a_8], IOk (ofZ c) c 7 := red_iok (n := 7) (.cons (iok_mul (k := 7) (iok_det3 (n := 1) (k := 6) (bn30 i0 (by simp)) (bn30 i1 (by simp)) (bn30 i2 (by simp)) (bn28 g0 (by simp)) (bn28 g1 (by simp)) (bn28 g2 (by simp)) (bn29 h0 (by simp)) (bn29 h1 (by simp)) (bn29 h2 (by simp)) (by decide)) (bn27 f0 (by simp)) (by decide)) (.cons (iok_mul (k := 7) (iok_det3 (n := 1) (k := 6) (bn27 f0 (by simp)) (bn27 f1 (by simp)) (bn27 f2 (by simp)) (bn30 i0 (by simp)) (bn30 i1 (by simp)) (bn30 i2 (by simp)) (bn29 h0 (by simp)) (bn29 h1 (by simp)) (bn29 h2 (by simp)) (by decide)) (bn28 g0 (by simp)) (by decide)) (.cons (iok_mul (k := 7) (iok_det3 (n := 1) (k := 6) (bn27 f0 (by simp)) (bn27 f1 (by simp)) (bn27 f2 (by simp)) (bn28 g0 (by simp)) (bn28 g1 (by simp)) (bn28 g2 (by simp)) (bn30 i0 (by simp)) (bn30 i1 (by simp)) (bn30 i2 (by simp)) (by decide)) (bn29 h0 (by simp)) (by decide)) (.cons (iok_mul (k := 7) (iok_det3 (n := 1) (k := 6) (bn30 i0 (by simp)) (bn30 i1 (by simp)) (bn30 i2 (by simp)) (bn28 g0 (by simp)) (bn28 g1 (by simp)) (bn28 g2 (by simp)) (bn29 h0 (by simp)) (bn29 h1 (by simp)) (bn29 h2 (by simp)) (by decide)) (bn27 f1 (by simp)) (by decide)) (.cons (iok_mul (k := 7) (iok_det3 (n := 1) (k := 6) (bn27 f0 (by simp)) (bn27 f1 (by simp)) (bn27 f2 (by simp)) (bn30 i0 (by simp)) (bn30 i1 (by simp)) (bn30 i2 (by simp)) (bn29 h0 (by simp)) (bn29 h1 (by simp)) (bn29 h2 (by simp)) (by decide)) (bn28 g1 (by simp)) (by decide)) (.cons (iok_mul (k := 7) (iok_det3 (n := 1) (k := 6) (bn27 f0 (by simp)) (bn27 f1 (by simp)) (bn27 f2 (by simp)) (bn28 g0 (by simp)) (bn28 g1 (by simp)) (bn28 g2 (by simp)) (bn30 i0 (by simp)) (bn30 i1 (by simp)) (bn30 i2 (by simp)) (by decide)) (bn29 h1 (by simp)) (by decide)) (.cons (iok_mul (k := 7) (iok_det3 (n := 1) (k := 6) (bn30 i0 (by simp)) (bn30 i1 (by simp)) (bn30 i2 (by simp)) (bn28 g0 (by simp)) (bn28 g1 (by simp)) (bn28 g2 (by simp)) (bn29 h0 (by simp)) (bn29 h1 (by simp)) (bn29 h2 (by simp)) (by decide)) (bn27 f2 (by simp)) (by decide)) (.cons (iok_mul (k := 7) (iok_det3 (n := 1) (k := 6) (bn27 f0 (by simp)) (bn27 f1 (by simp)) (bn27 f2 (by simp)) (bn30 i0 (by simp)) (bn30 i1 (by simp)) (bn30 i2 (by simp)) (bn29 h0 (by simp)) (bn29 h1 (by simp)) (bn29 h2 (by simp)) (by decide)) (bn28 g2 (by simp)) (by decide)) (.cons (iok_mul (k := 7) (iok_det3 (n := 1) (k := 6) (bn27 f0 (by simp)) (bn27 f1 (by simp)) (bn27 f2 (by simp)) (bn28 g0 (by simp)) (bn28 g1 (by simp)) (bn28 g2 (by simp)) (bn30 i0 (by simp)) (bn30 i1 (by simp)) (bn30 i2 (by simp)) (by decide)) (bn29 h2 (by simp)) (by decide)) .nil))))))))) ha_
  refine kx [(11, (.ref 7 0)), (12, (vb false))] [(7, some y5)] (zR (oLa sh26) <| zE (oCl (l_fourOF x0 y0 u0 v0 x1 y1 u1 v1 x2 y2 u2 v2 x3 y3 u3 v3 (by omega) (by omega) (by omega) (by omega) (by omega) (by omega) (by omega) (by omega) (by omega) (by omega) (by omega) (by omega) (by omega) (by omega) (by omega) (by omega) f0 f1 f2 hf g0 g1 g2 hg h0 h1 h2 hh i0 i1 i2 hi p0 p1 p2 hp q0 q1 q2 hq s0 s1 s2 hs t0 t1 t2 ht a_0 a_1 a_2 a_3 a_4 a_5 a_6 a_7 a_8 ha_ hfn0 hfn1 hfn2 hfn3 hfnz hfdz hzt)) <| zM <| zE oEx <| zE oEx <| zN (oAl 7 ze32 zo32) <| zT (oSt sh32) <| zM <| zZ) ?_
  refine pwp_seq <| kx [] [(6, some y5)] (zR (oLa sh32) <| zT (oSt sh32) <| zZ) ?_
  refine pwp_seq <| kx [(62, (vb true))] [] (zM <| zE oNt <| zZ) ?_
  refine pwp_cond (b := true) (by kernel_rfl) (fun _ => ?_) (fun h => by cases h)
  refine kx [(5, (vin 13))] [] (zM <| zZ) ?_
  refine pwp_seq <| pwp_seq <| kx [(64, (vb true))] [] (zM <| zE oNe <| zZ) ?_
  refine pwp_cond (b := true) (by kernel_rfl) (fun _ => ?_) (fun h => by cases h)
  refine pwp_seq <| kx [(2, (vb true))] [] (zM <| zM <| zE oEq <| zM <| zE (e_slv (by exact rfl) ar32 (by exact rfl) (by kernel_rfl) (by kernel_rfl)) <| zR ⟨y5, e_clv (es := List.map encI y7) (l_empty 1000000 y7 [0, 0, 0, 0, 0, 0, 0, 0, 0] (.cons (iu iok_zero) (.cons (iu iok_zero) (.cons (iu iok_zero) (.cons (iu iok_zero) (.cons (iu iok_zero) (.cons (iu iok_zero) (.cons (iu iok_zero) (.cons (iu iok_zero) (.cons (iu iok_zero) .nil))))))))) (Nat.le_of_ble_eq_true rfl) (allnil_of rfl)) (by exact rfl) (by kernel_rfl) (by exact rfl) (.v .nil) (pubs_cells _ _ (fun _ => rfl)) (by kernel_rfl) (by kernel_rfl) (.val _), by kernel_rfl⟩ <| zE oPt <| zM <| zZ) ?_
  refine pwp_ret ⟨_, (.tmp (d := (.val (.bool (true)))) rfl .nil), ?_⟩
  rfl
set_option maxHeartbeats 4000000 in
theorem w_fou (x0 y0 u0 v0 x1 y1 u1 v1 x2 y2 u2 v2 x3 y3 u3 v3 : Int) (hx0 : -1048576 ≤ x0 ∧ x0 ≤ 1048576) (hy0 : -1048576 ≤ y0 ∧ y0 ≤ 1048576) (hu0 : -1048576 ≤ u0 ∧ u0 ≤ 1048576) (hv0 : -1048576 ≤ v0 ∧ v0 ≤ 1048576) (hx1 : -1048576 ≤ x1 ∧ x1 ≤ 1048576) (hy1 : -1048576 ≤ y1 ∧ y1 ≤ 1048576) (hu1 : -1048576 ≤ u1 ∧ u1 ≤ 1048576) (hv1 : -1048576 ≤ v1 ∧ v1 ≤ 1048576) (hx2 : -1048576 ≤ x2 ∧ x2 ≤ 1048576) (hy2 : -1048576 ≤ y2 ∧ y2 ≤ 1048576) (hu2 : -1048576 ≤ u2 ∧ u2 ≤ 1048576) (hv2 : -1048576 ≤ v2 ∧ v2 ≤ 1048576) (hx3 : -1048576 ≤ x3 ∧ x3 ≤ 1048576) (hy3 : -1048576 ≤ y3 ∧ y3 ≤ 1048576) (hu3 : -1048576 ≤ u3 ∧ u3 ≤ 1048576) (hv3 : -1048576 ≤ v3 ∧ v3 ≤ 1048576) (k0 : Int) (hk0 : (det3 x3 y3 1 x1 y1 1 x2 y2 1) = k0) (k1 : Int) (hk1 : (det3 x0 y0 1 x3 y3 1 x2 y2 1) = k1) (k2 : Int) (hk2 : (det3 x0 y0 1 x1 y1 1 x3 y3 1) = k2) (k3 : Int) (hk3 : (det3 x0 y0 1 x1 y1 1 x2 y2 1) = k3) (m0 : Int) (hm0 : (det3 u3 v3 1 u1 v1 1 u2 v2 1) = m0) (m1 : Int) (hm1 : (det3 u0 v0 1 u3 v3 1 u2 v2 1) = m1) (m2 : Int) (hm2 : (det3 u0 v0 1 u1 v1 1 u3 v3 1) = m2) (m3 : Int) (hm3 : (det3 u0 v0 1 u1 v1 1 u2 v2 1) = m3) (a0 : Int) (ha0 : (k0 * x0) = a0) (a1 : Int) (ha1 : (k1 * x1) = a1) (a2 : Int) (ha2 : (k2 * x2) = a2) (a3 : Int) (ha3 : (k0 * y0) = a3) (a4 : Int) (ha4 : (k1 * y1) = a4) (a5 : Int) (ha5 : (k2 * y2) = a5) (a6 : Int) (ha6 : (k0 * 1) = a6) (a7 : Int) (ha7 : (k1 * 1) = a7) (a8 : Int) (ha8 : (k2 * 1) = a8) (b0 : Int) (hb0 : (m0 * u0) = b0) (b1 : Int) (hb1 : (m1 * u1) = b1) (b2 : Int) (hb2 : (m2 * u2) = b2) (b3 : Int) (hb3 : (m0 * v0) = b3) (b4 : Int) (hb4 : (m1 * v1) = b4) (b5 : Int) (hb5 : (m2 * v2) = b5) (b6 : Int) (hb6 : (m0 * 1) = b6) (b7 : Int) (hb7 : (m1 * 1) = b7) (b8 : Int) (hb8 : (m2 * 1) = b8) (f0 f1 f2 : Int) (hf : redL [x0, y0, 1] = [f0, f1, f2]) (g0 g1 g2 : Int) (hg : redL [x1, y1, 1] = [g0, g1, g2]) (h0 h1 h2 : Int) (hh : redL [x2, y2, 1] = [h0, h1, h2]) (i0 i1 i2 : Int) (hi : redL [x3, y3, 1] = [i0, i1, i2]) (p0 p1 p2 : Int) (hp : redL [u0, v0, 1] = [p0, p1, p2]) (q0 q1 q2 : Int) (hq : redL [u1, v1, 1] = [q0, q1, q2]) (s0 s1 s2 : Int) (hs : redL [u2, v2, 1] = [s0, s1, s2]) (t0 t1 t2 : Int) (ht : redL [u3, v3, 1] = [t0, t1, t2]) (a_0 a_1 a_2 a_3 a_4 a_5 a_6 a_7 a_8 : Int) (ha_ : redL [((det3 i0 i1 i2 g0 g1 g2 h0 h1 h2) * f0), ((det3 f0 f1 f2 i0 i1 i2 h0 h1 h2) * g0), ((det3 f0 f1 f2 g0 g1 g2 i0 i1 i2) * h0), ((det3 i0 i1 i2 g0 g1 g2 h0 h1 h2) * f1), ((det3 f0 f1 f2 i0 i1 i2 h0 h1 h2) * g1), ((det3 f0 f1 f2 g0 g1 g2 i0 i1 i2) * h1), ((det3 i0 i1 i2 g0 g1 g2 h0 h1 h2) * f2), ((det3 f0 f1 f2 i0 i1 i2 h0 h1 h2) * g2), ((det3 f0 f1 f2 g0 g1 g2 i0 i1 i2) * h2)] = [a_0, a_1, a_2, a_3, a_4, a_5, a_6, a_7, a_8]) (b_0 b_1 b_2 b_3 b_4 b_5 b_6 b_7 b_8 : Int) (hb_ : redL [((det3 t0 t1 t2 q0 q1 q2 s0 s1 s2) * p0), ((det3 p0 p1 p2 t0 t1 t2 s0 s1 s2) * q0), ((det3 p0 p1 p2 q0 q1 q2 t0 t1 t2) * s0), ((det3 t0 t1 t2 q0 q1 q2 s0 s1 s2) * p1), ((det3 p0 p1 p2 t0 t1 t2 s0 s1 s2) * q1), ((det3 p0 p1 p2 q0 q1 q2 t0 t1 t2) * s1), ((det3 t0 t1 t2 q0 q1 q2 s0 s1 s2) * p2), ((det3 p0 p1 p2 t0 t1 t2 s0 s1 s2) * q2), ((det3 p0 p1 p2 q0 q1 q2 t0 t1 t2) * s2)] = [b_0, b_1, b_2, b_3, b_4, b_5, b_6, b_7, b_8]) (e0 e1 e2 e3 e4 e5 e6 e7 e8 : Int) (he : redL [((a_4 * a_8) - (a_5 * a_7)), ((a_7 * a_2) - (a_8 * a_1)), ((a_1 * a_5) - (a_2 * a_4)), ((a_5 * a_6) - (a_3 * a_8)), ((a_8 * a_0) - (a_6 * a_2)), ((a_2 * a_3) - (a_0 * a_5)), ((a_3 * a_7) - (a_4 * a_6)), ((a_6 * a_1) - (a_7 * a_0)), ((a_0 * a_4) - (a_1 * a_3))] = [e0, e1, e2, e3, e4, e5, e6, e7, e8]) (c0 c1 c2 c3 c4 c5 c6 c7 c8 : Int) (hc : redL [(((b0 * ((a4 * a8) - (a5 * a7))) + (b1 * ((a5 * a6) - (a3 * a8)))) + (b2 * ((a3 * a7) - (a4 * a6)))), (((b0 * ((a7 * a2) - (a8 * a1))) + (b1 * ((a8 * a0) - (a6 * a2)))) + (b2 * ((a6 * a1) - (a7 * a0)))), (((b0 * ((a1 * a5) - (a2 * a4))) + (b1 * ((a2 * a3) - (a0 * a5)))) + (b2 * ((a0 * a4) - (a1 * a3)))), (((b3 * ((a4 * a8) - (a5 * a7))) + (b4 * ((a5 * a6) - (a3 * a8)))) + (b5 * ((a3 * a7) - (a4 * a6)))), (((b3 * ((a7 * a2) - (a8 * a1))) + (b4 * ((a8 * a0) - (a6 * a2)))) + (b5 * ((a6 * a1) - (a7 * a0)))), (((b3 * ((a1 * a5) - (a2 * a4))) + (b4 * ((a2 * a3) - (a0 * a5)))) + (b5 * ((a0 * a4) - (a1 * a3)))), (((b6 * ((a4 * a8) - (a5 * a7))) + (b7 * ((a5 * a6) - (a3 * a8)))) + (b8 * ((a3 * a7) - (a4 * a6)))), (((b6 * ((a7 * a2) - (a8 * a1))) + (b7 * ((a8 * a0) - (a6 * a2)))) + (b8 * ((a6 * a1) - (a7 * a0)))), (((b6 * ((a1 * a5) - (a2 * a4))) + (b7 * ((a2 * a3) - (a0 * a5)))) + (b8 * ((a0 * a4) - (a1 * a3))))] = [c0, c1, c2, c3, c4, c5, c6, c7, c8]) (hk0_ : k0 ≠ 0) (hk1_ : k1 ≠ 0) (hk2_ : k2 ≠ 0) (hk3_ : k3 ≠ 0) (hm0_ : m0 ≠ 0) (hm1_ : m1 ≠ 0) (hm2_ : m2 ≠ 0) (hm3_ : m3 ≠ 0) (hnz : sgnL [(((b0 * ((a4 * a8) - (a5 * a7))) + (b1 * ((a5 * a6) - (a3 * a8)))) + (b2 * ((a3 * a7) - (a4 * a6)))), (((b0 * ((a7 * a2) - (a8 * a1))) + (b1 * ((a8 * a0) - (a6 * a2)))) + (b2 * ((a6 * a1) - (a7 * a0)))), (((b0 * ((a1 * a5) - (a2 * a4))) + (b1 * ((a2 * a3) - (a0 * a5)))) + (b2 * ((a0 * a4) - (a1 * a3)))), (((b3 * ((a4 * a8) - (a5 * a7))) + (b4 * ((a5 * a6) - (a3 * a8)))) + (b5 * ((a3 * a7) - (a4 * a6)))), (((b3 * ((a7 * a2) - (a8 * a1))) + (b4 * ((a8 * a0) - (a6 * a2)))) + (b5 * ((a6 * a1) - (a7 * a0)))), (((b3 * ((a1 * a5) - (a2 * a4))) + (b4 * ((a2 * a3) - (a0 * a5)))) + (b5 * ((a0 * a4) - (a1 * a3)))), (((b6 * ((a4 * a8) - (a5 * a7))) + (b7 * ((a5 * a6) - (a3 * a8)))) + (b8 * ((a3 * a7) - (a4 * a6)))), (((b6 * ((a7 * a2) - (a8 * a1))) + (b7 * ((a8 * a0) - (a6 * a2)))) + (b8 * ((a6 * a1) - (a7 * a0)))), (((b6 * ((a1 * a5) - (a2 * a4))) + (b7 * ((a2 * a3) - (a0 * a5)))) + (b8 * ((a0 * a4) - (a1 * a3))))] ≠ 0) (hfn0 : (det3 i0 i1 i2 g0 g1 g2 h0 h1 h2) ≠ 0) (hfn1 : (det3 f0 f1 f2 i0 i1 i2 h0 h1 h2) ≠ 0) (hfn2 : (det3 f0 f1 f2 g0 g1 g2 i0 i1 i2) ≠ 0) (hfn3 : (det3 f0 f1 f2 g0 g1 g2 h0 h1 h2) ≠ 0) (hfnz : sgnL [((det3 i0 i1 i2 g0 g1 g2 h0 h1 h2) * f0), ((det3 f0 f1 f2 i0 i1 i2 h0 h1 h2) * g0), ((det3 f0 f1 f2 g0 g1 g2 i0 i1 i2) * h0), ((det3 i0 i1 i2 g0 g1 g2 h0 h1 h2) * f1), ((det3 f0 f1 f2 i0 i1 i2 h0 h1 h2) * g1), ((det3 f0 f1 f2 g0 g1 g2 i0 i1 i2) * h1), ((det3 i0 i1 i2 g0 g1 g2 h0 h1 h2) * f2), ((det3 f0 f1 f2 i0 i1 i2 h0 h1 h2) * g2), ((det3 f0 f1 f2 g0 g1 g2 i0 i1 i2) * h2)] ≠ 0) (hfdz : signI (det3 ((det3 i0 i1 i2 g0 g1 g2 h0 h1 h2) * f0) ((det3 f0 f1 f2 i0 i1 i2 h0 h1 h2) * g0) ((det3 f0 f1 f2 g0 g1 g2 i0 i1 i2) * h0) ((det3 i0 i1 i2 g0 g1 g2 h0 h1 h2) * f1) ((det3 f0 f1 f2 i0 i1 i2 h0 h1 h2) * g1) ((det3 f0 f1 f2 g0 g1 g2 i0 i1 i2) * h1) ((det3 i0 i1 i2 g0 g1 g2 h0 h1 h2) * f2) ((det3 f0 f1 f2 i0 i1 i2 h0 h1 h2) * g2) ((det3 f0 f1 f2 g0 g1 g2 i0 i1 i2) * h2)) ≠ 0) (htn0 : (det3 t0 t1 t2 q0 q1 q2 s0 s1 s2) ≠ 0) (htn1 : (det3 p0 p1 p2 t0 t1 t2 s0 s1 s2) ≠ 0) (htn2 : (det3 p0 p1 p2 q0 q1 q2 t0 t1 t2) ≠ 0) (htn3 : (det3 p0 p1 p2 q0 q1 q2 s0 s1 s2) ≠ 0) (htnz : sgnL [((det3 t0 t1 t2 q0 q1 q2 s0 s1 s2) * p0), ((det3 p0 p1 p2 t0 t1 t2 s0 s1 s2) * q0), ((det3 p0 p1 p2 q0 q1 q2 t0 t1 t2) * s0), ((det3 t0 t1 t2 q0 q1 q2 s0 s1 s2) * p1), ((det3 p0 p1 p2 t0 t1 t2 s0 s1 s2) * q1), ((det3 p0 p1 p2 q0 q1 q2 t0 t1 t2) * s1), ((det3 t0 t1 t2 q0 q1 q2 s0 s1 s2) * p2), ((det3 p0 p1 p2 t0 t1 t2 s0 s1 s2) * q2), ((det3 p0 p1 p2 q0 q1 q2 t0 t1 t2) * s2)] ≠ 0) (htdz : signI (det3 ((det3 t0 t1 t2 q0 q1 q2 s0 s1 s2) * p0) ((det3 p0 p1 p2 t0 t1 t2 s0 s1 s2) * q0) ((det3 p0 p1 p2 q0 q1 q2 t0 t1 t2) * s0) ((det3 t0 t1 t2 q0 q1 q2 s0 s1 s2) * p1) ((det3 p0 p1 p2 t0 t1 t2 s0 s1 s2) * q1) ((det3 p0 p1 p2 q0 q1 q2 t0 t1 t2) * s1) ((det3 t0 t1 t2 q0 q1 q2 s0 s1 s2) * p2) ((det3 p0 p1 p2 t0 t1 t2 s0 s1 s2) * q2) ((det3 p0 p1 p2 q0 q1 q2 t0 t1 t2) * s2)) ≠ 0) (hnj : sgnL [((a_4 * a_8) - (a_5 * a_7)), ((a_7 * a_2) - (a_8 * a_1)), ((a_1 * a_5) - (a_2 * a_4)), ((a_5 * a_6) - (a_3 * a_8)), ((a_8 * a_0) - (a_6 * a_2)), ((a_2 * a_3) - (a_0 * a_5)), ((a_3 * a_7) - (a_4 * a_6)), ((a_6 * a_1) - (a_7 * a_0)), ((a_0 * a_4) - (a_1 * a_3))] ≠ 0) (hdj : signI (det3 ((a_4 * a_8) - (a_5 * a_7)) ((a_7 * a_2) - (a_8 * a_1)) ((a_1 * a_5) - (a_2 * a_4)) ((a_5 * a_6) - (a_3 * a_8)) ((a_8 * a_0) - (a_6 * a_2)) ((a_2 * a_3) - (a_0 * a_5)) ((a_3 * a_7) - (a_4 * a_6)) ((a_6 * a_1) - (a_7 * a_0)) ((a_0 * a_4) - (a_1 * a_3))) ≠ 0) (hnr : sgnL [(((b_0 * e0) + (b_1 * e3)) + (b_2 * e6)), (((b_0 * e1) + (b_1 * e4)) + (b_2 * e7)), (((b_0 * e2) + (b_1 * e5)) + (b_2 * e8)), (((b_3 * e0) + (b_4 * e3)) + (b_5 * e6)), (((b_3 * e1) + (b_4 * e4)) + (b_5 * e7)), (((b_3 * e2) + (b_4 * e5)) + (b_5 * e8)), (((b_6 * e0) + (b_7 * e3)) + (b_8 * e6)), (((b_6 * e1) + (b_7 * e4)) + (b_8 * e7)), (((b_6 * e2) + (b_7 * e5)) + (b_8 * e8))] ≠ 0) (hdr : signI (det3 (((b_0 * e0) + (b_1 * e3)) + (b_2 * e6)) (((b_0 * e1) + (b_1 * e4)) + (b_2 * e7)) (((b_0 * e2) + (b_1 * e5)) + (b_2 * e8)) (((b_3 * e0) + (b_4 * e3)) + (b_5 * e6)) (((b_3 * e1) + (b_4 * e4)) + (b_5 * e7)) (((b_3 * e2) + (b_4 * e5)) + (b_5 * e8)) (((b_6 * e0) + (b_7 * e3)) + (b_8 * e6)) (((b_6 * e1) + (b_7 * e4)) + (b_8 * e7)) (((b_6 * e2) + (b_7 * e5)) + (b_8 * e8))) ≠ 0) (hrc : redL [(((b_0 * e0) + (b_1 * e3)) + (b_2 * e6)), (((b_0 * e1) + (b_1 * e4)) + (b_2 * e7)), (((b_0 * e2) + (b_1 * e5)) + (b_2 * e8)), (((b_3 * e0) + (b_4 * e3)) + (b_5 * e6)), (((b_3 * e1) + (b_4 * e4)) + (b_5 * e7)), (((b_3 * e2) + (b_4 * e5)) + (b_5 * e8)), (((b_6 * e0) + (b_7 * e3)) + (b_8 * e6)), (((b_6 * e1) + (b_7 * e4)) + (b_8 * e7)), (((b_6 * e2) + (b_7 * e5)) + (b_8 * e8))] = [c0, c1, c2, c3, c4, c5, c6, c7, c8]) (han0 : sgnL [(((c0 * f0) + (c1 * f1)) + (c2 * f2)), (((c3 * f0) + (c4 * f1)) + (c5 * f2)), (((c6 * f0) + (c7 * f1)) + (c8 * f2))] ≠ 0) (hap0 : redL [(((c0 * f0) + (c1 * f1)) + (c2 * f2)), (((c3 * f0) + (c4 * f1)) + (c5 * f2)), (((c6 * f0) + (c7 * f1)) + (c8 * f2))] = [p0, p1, p2]) (han1 : sgnL [(((c0 * g0) + (c1 * g1)) + (c2 * g2)), (((c3 * g0) + (c4 * g1)) + (c5 * g2)), (((c6 * g0) + (c7 * g1)) + (c8 * g2))] ≠ 0) (hap1 : redL [(((c0 * g0) + (c1 * g1)) + (c2 * g2)), (((c3 * g0) + (c4 * g1)) + (c5 * g2)), (((c6 * g0) + (c7 * g1)) + (c8 * g2))] = [q0, q1, q2]) (han2 : sgnL [(((c0 * h0) + (c1 * h1)) + (c2 * h2)), (((c3 * h0) + (c4 * h1)) + (c5 * h2)), (((c6 * h0) + (c7 * h1)) + (c8 * h2))] ≠ 0) (hap2 : redL [(((c0 * h0) + (c1 * h1)) + (c2 * h2)), (((c3 * h0) + (c4 * h1)) + (c5 * h2)), (((c6 * h0) + (c7 * h1)) + (c8 * h2))] = [s0, s1, s2]) (han3 : sgnL [(((c0 * i0) + (c1 * i1)) + (c2 * i2)), (((c3 * i0) + (c4 * i1)) + (c5 * i2)), (((c6 * i0) + (c7 * i1)) + (c8 * i2))] ≠ 0) (hap3 : redL [(((c0 * i0) + (c1 * i1)) + (c2 * i2)), (((c3 * i0) + (c4 * i1)) + (c5 * i2)), (((c6 * i0) + (c7 * i1)) + (c8 * i2))] = [t0, t1, t2]) : Takes Tryz.prog 3 [(encA26 (A4.mk (RPair.mk (RPix.mk x0 y0) (RPix.mk u0 v0)) (RPair.mk (RPix.mk x1 y1) (RPix.mk u1 v1)) (RPair.mk (RPix.mk x2 y2) (RPix.mk u2 v2)) (RPair.mk (RPix.mk x3 y3) (RPix.mk u3 v3))))] (.val (.bool (true))) := by
  let y7 := (A9.mk (ofZ c0) (ofZ c1) (ofZ c2) (ofZ c3) (ofZ c4) (ofZ c5) (ofZ c6) (ofZ c7) (ofZ c8))
  let y6 := (bx (encA31 y7))
  let y5 := (encA26 (A4.mk (RPair.mk (RPix.mk x0 y0) (RPix.mk u0 v0)) (RPair.mk (RPix.mk x1 y1) (RPix.mk u1 v1)) (RPair.mk (RPix.mk x2 y2) (RPix.mk u2 v2)) (RPair.mk (RPix.mk x3 y3) (RPix.mk u3 v3))))
  let y4 := (bx y5)
  refine fn_intro Tryz.func3 rfl cb3 rfl ?_
  show PWp _ _ _ _ ⟨[(0, (.d y5))], []⟩
  refine pwp_seq <| kx [(1, (.ref 0 0))] [(0, some y4)] (zN (oBx 0) <| zM <| zZ) ?_
  refine pwp_seq <| pwp_seq <| kx [(16, (vb false))] [] (zE (oCl l_known27) <| zE oNt <| zZ) ?_
  refine pwp_cond (b := false) (by kernel_rfl) (fun h => by cases h) (fun _ => ?_)
  refine pwp_skip <| pwp_seq ?_
  have bn1 : IOk (ofZ k0) k0 6 := (iok_eqz hk0.symm (iok_det3 (n := 1) (k := 6) (iok_small (z := x3) (by omega)) (iok_small (z := y3) (by omega)) (iok_small (z := 1) (by decide)) (iok_small (z := x1) (by omega)) (iok_small (z := y1) (by omega)) (iok_small (z := 1) (by decide)) (iok_small (z := x2) (by omega)) (iok_small (z := y2) (by omega)) (iok_small (z := 1) (by decide)) (by decide)))
  have bn2 : IOk (ofZ k1) k1 6 := (iok_eqz hk1.symm (iok_det3 (n := 1) (k := 6) (iok_small (z := x0) (by omega)) (iok_small (z := y0) (by omega)) (iok_small (z := 1) (by decide)) (iok_small (z := x3) (by omega)) (iok_small (z := y3) (by omega)) (iok_small (z := 1) (by decide)) (iok_small (z := x2) (by omega)) (iok_small (z := y2) (by omega)) (iok_small (z := 1) (by decide)) (by decide)))
  have bn3 : IOk (ofZ k2) k2 6 := (iok_eqz hk2.symm (iok_det3 (n := 1) (k := 6) (iok_small (z := x0) (by omega)) (iok_small (z := y0) (by omega)) (iok_small (z := 1) (by decide)) (iok_small (z := x1) (by omega)) (iok_small (z := y1) (by omega)) (iok_small (z := 1) (by decide)) (iok_small (z := x3) (by omega)) (iok_small (z := y3) (by omega)) (iok_small (z := 1) (by decide)) (by decide)))
  have bn4 : IOk (ofZ k3) k3 6 := (iok_eqz hk3.symm (iok_det3 (n := 1) (k := 6) (iok_small (z := x0) (by omega)) (iok_small (z := y0) (by omega)) (iok_small (z := 1) (by decide)) (iok_small (z := x1) (by omega)) (iok_small (z := y1) (by omega)) (iok_small (z := 1) (by decide)) (iok_small (z := x2) (by omega)) (iok_small (z := y2) (by omega)) (iok_small (z := 1) (by decide)) (by decide)))
  have bn5 : IOk (ofZ m0) m0 6 := (iok_eqz hm0.symm (iok_det3 (n := 1) (k := 6) (iok_small (z := u3) (by omega)) (iok_small (z := v3) (by omega)) (iok_small (z := 1) (by decide)) (iok_small (z := u1) (by omega)) (iok_small (z := v1) (by omega)) (iok_small (z := 1) (by decide)) (iok_small (z := u2) (by omega)) (iok_small (z := v2) (by omega)) (iok_small (z := 1) (by decide)) (by decide)))
  have bn6 : IOk (ofZ m1) m1 6 := (iok_eqz hm1.symm (iok_det3 (n := 1) (k := 6) (iok_small (z := u0) (by omega)) (iok_small (z := v0) (by omega)) (iok_small (z := 1) (by decide)) (iok_small (z := u3) (by omega)) (iok_small (z := v3) (by omega)) (iok_small (z := 1) (by decide)) (iok_small (z := u2) (by omega)) (iok_small (z := v2) (by omega)) (iok_small (z := 1) (by decide)) (by decide)))
  have bn7 : IOk (ofZ m2) m2 6 := (iok_eqz hm2.symm (iok_det3 (n := 1) (k := 6) (iok_small (z := u0) (by omega)) (iok_small (z := v0) (by omega)) (iok_small (z := 1) (by decide)) (iok_small (z := u1) (by omega)) (iok_small (z := v1) (by omega)) (iok_small (z := 1) (by decide)) (iok_small (z := u3) (by omega)) (iok_small (z := v3) (by omega)) (iok_small (z := 1) (by decide)) (by decide)))
  have bn8 : IOk (ofZ m3) m3 6 := (iok_eqz hm3.symm (iok_det3 (n := 1) (k := 6) (iok_small (z := u0) (by omega)) (iok_small (z := v0) (by omega)) (iok_small (z := 1) (by decide)) (iok_small (z := u1) (by omega)) (iok_small (z := v1) (by omega)) (iok_small (z := 1) (by decide)) (iok_small (z := u2) (by omega)) (iok_small (z := v2) (by omega)) (iok_small (z := 1) (by decide)) (by decide)))
  have bn9 : IOk (ofZ a0) a0 7 := (iok_eqz ha0.symm (iok_mul (k := 7) bn1 (iok_small (z := x0) (by omega)) (by decide)))
  have bn10 : IOk (ofZ a1) a1 7 := (iok_eqz ha1.symm (iok_mul (k := 7) bn2 (iok_small (z := x1) (by omega)) (by decide)))
  have bn11 : IOk (ofZ a2) a2 7 := (iok_eqz ha2.symm (iok_mul (k := 7) bn3 (iok_small (z := x2) (by omega)) (by decide)))
  have bn12 : IOk (ofZ a3) a3 7 := (iok_eqz ha3.symm (iok_mul (k := 7) bn1 (iok_small (z := y0) (by omega)) (by decide)))
  have bn13 : IOk (ofZ a4) a4 7 := (iok_eqz ha4.symm (iok_mul (k := 7) bn2 (iok_small (z := y1) (by omega)) (by decide)))
  have bn14 : IOk (ofZ a5) a5 7 := (iok_eqz ha5.symm (iok_mul (k := 7) bn3 (iok_small (z := y2) (by omega)) (by decide)))
  have bn15 : IOk (ofZ a6) a6 7 := (iok_eqz ha6.symm (iok_mul (k := 7) bn1 (iok_small (z := 1) (by decide)) (by decide)))
  have bn16 : IOk (ofZ a7) a7 7 := (iok_eqz ha7.symm (iok_mul (k := 7) bn2 (iok_small (z := 1) (by decide)) (by decide)))
  have bn17 : IOk (ofZ a8) a8 7 := (iok_eqz ha8.symm (iok_mul (k := 7) bn3 (iok_small (z := 1) (by decide)) (by decide)))
  have bn18 : IOk (ofZ b0) b0 7 := (iok_eqz hb0.symm (iok_mul (k := 7) bn5 (iok_small (z := u0) (by omega)) (by decide)))
  have bn19 : IOk (ofZ b1) b1 7 := (iok_eqz hb1.symm (iok_mul (k := 7) bn6 (iok_small (z := u1) (by omega)) (by decide)))
  have bn20 : IOk (ofZ b2) b2 7 := (iok_eqz hb2.symm (iok_mul (k := 7) bn7 (iok_small (z := u2) (by omega)) (by decide)))
  have bn21 : IOk (ofZ b3) b3 7 := (iok_eqz hb3.symm (iok_mul (k := 7) bn5 (iok_small (z := v0) (by omega)) (by decide)))
  have bn22 : IOk (ofZ b4) b4 7 := (iok_eqz hb4.symm (iok_mul (k := 7) bn6 (iok_small (z := v1) (by omega)) (by decide)))
  have bn23 : IOk (ofZ b5) b5 7 := (iok_eqz hb5.symm (iok_mul (k := 7) bn7 (iok_small (z := v2) (by omega)) (by decide)))
  have bn24 : IOk (ofZ b6) b6 7 := (iok_eqz hb6.symm (iok_mul (k := 7) bn5 (iok_small (z := 1) (by decide)) (by decide)))
  have bn25 : IOk (ofZ b7) b7 7 := (iok_eqz hb7.symm (iok_mul (k := 7) bn6 (iok_small (z := 1) (by decide)) (by decide)))
  have bn26 : IOk (ofZ b8) b8 7 := (iok_eqz hb8.symm (iok_mul (k := 7) bn7 (iok_small (z := 1) (by decide)) (by decide)))
  have bn27 : ∀ c ∈ [c0, c1, c2, c3, c4, c5, c6, c7, c8], IOk (ofZ c) c 24 := red_iok (n := 24) (.cons (iok_add (k := 24) (iok_add (k := 23) (iok_mul (k := 22) bn18 (iok_sub (k := 15) (iok_mul (k := 14) bn13 bn17 (by decide)) (iok_mul (k := 14) bn14 bn16 (by decide)) (by decide)) (by decide)) (iok_mul (k := 22) bn19 (iok_sub (k := 15) (iok_mul (k := 14) bn14 bn15 (by decide)) (iok_mul (k := 14) bn12 bn17 (by decide)) (by decide)) (by decide)) (by decide)) (iok_mul (k := 22) bn20 (iok_sub (k := 15) (iok_mul (k := 14) bn12 bn16 (by decide)) (iok_mul (k := 14) bn13 bn15 (by decide)) (by decide)) (by decide)) (by decide)) (.cons (iok_add (k := 24) (iok_add (k := 23) (iok_mul (k := 22) bn18 (iok_sub (k := 15) (iok_mul (k := 14) bn16 bn11 (by decide)) (iok_mul (k := 14) bn17 bn10 (by decide)) (by decide)) (by decide)) (iok_mul (k := 22) bn19 (iok_sub (k := 15) (iok_mul (k := 14) bn17 bn9 (by decide)) (iok_mul (k := 14) bn15 bn11 (by decide)) (by decide)) (by decide)) (by decide)) (iok_mul (k := 22) bn20 (iok_sub (k := 15) (iok_mul (k := 14) bn15 bn10 (by decide)) (iok_mul (k := 14) bn16 bn9 (by decide)) (by decide)) (by decide)) (by decide)) (.cons (iok_add (k := 24) (iok_add (k := 23) (iok_mul (k := 22) bn18 (iok_sub (k := 15) (iok_mul (k := 14) bn10 bn14 (by decide)) (iok_mul (k := 14) bn11 bn13 (by decide)) (by decide)) (by decide)) (iok_mul (k := 22) bn19 (iok_sub (k := 15) (iok_mul (k := 14) bn11 bn12 (by decide)) (iok_mul (k := 14) bn9 bn14 (by decide)) (by decide)) (by decide)) (by decide)) (iok_mul (k := 22) bn20 (iok_sub (k := 15) (iok_mul (k := 14) bn9 bn13 (by decide)) (iok_mul (k := 14) bn10 bn12 (by decide)) (by decide)) (by decide)) (by decide)) (.cons (iok_add (k := 24) (iok_add (k := 23) (iok_mul (k := 22) bn21 (iok_sub (k := 15) (iok_mul (k := 14) bn13 bn17 (by decide)) (iok_mul (k := 14) bn14 bn16 (by decide)) (by decide)) (by decide)) (iok_mul (k := 22) bn22 (iok_sub (k := 15) (iok_mul (k := 14) bn14 bn15 (by decide)) (iok_mul (k := 14) bn12 bn17 (by decide)) (by decide)) (by decide)) (by decide)) (iok_mul (k := 22) bn23 (iok_sub (k := 15) (iok_mul (k := 14) bn12 bn16 (by decide)) (iok_mul (k := 14) bn13 bn15 (by decide)) (by decide)) (by decide)) (by decide)) (.cons (iok_add (k := 24) (iok_add (k := 23) (iok_mul (k := 22) bn21 (iok_sub (k := 15) (iok_mul (k := 14) bn16 bn11 (by decide)) (iok_mul (k := 14) bn17 bn10 (by decide)) (by decide)) (by decide)) (iok_mul (k := 22) bn22 (iok_sub (k := 15) (iok_mul (k := 14) bn17 bn9 (by decide)) (iok_mul (k := 14) bn15 bn11 (by decide)) (by decide)) (by decide)) (by decide)) (iok_mul (k := 22) bn23 (iok_sub (k := 15) (iok_mul (k := 14) bn15 bn10 (by decide)) (iok_mul (k := 14) bn16 bn9 (by decide)) (by decide)) (by decide)) (by decide)) (.cons (iok_add (k := 24) (iok_add (k := 23) (iok_mul (k := 22) bn21 (iok_sub (k := 15) (iok_mul (k := 14) bn10 bn14 (by decide)) (iok_mul (k := 14) bn11 bn13 (by decide)) (by decide)) (by decide)) (iok_mul (k := 22) bn22 (iok_sub (k := 15) (iok_mul (k := 14) bn11 bn12 (by decide)) (iok_mul (k := 14) bn9 bn14 (by decide)) (by decide)) (by decide)) (by decide)) (iok_mul (k := 22) bn23 (iok_sub (k := 15) (iok_mul (k := 14) bn9 bn13 (by decide)) (iok_mul (k := 14) bn10 bn12 (by decide)) (by decide)) (by decide)) (by decide)) (.cons (iok_add (k := 24) (iok_add (k := 23) (iok_mul (k := 22) bn24 (iok_sub (k := 15) (iok_mul (k := 14) bn13 bn17 (by decide)) (iok_mul (k := 14) bn14 bn16 (by decide)) (by decide)) (by decide)) (iok_mul (k := 22) bn25 (iok_sub (k := 15) (iok_mul (k := 14) bn14 bn15 (by decide)) (iok_mul (k := 14) bn12 bn17 (by decide)) (by decide)) (by decide)) (by decide)) (iok_mul (k := 22) bn26 (iok_sub (k := 15) (iok_mul (k := 14) bn12 bn16 (by decide)) (iok_mul (k := 14) bn13 bn15 (by decide)) (by decide)) (by decide)) (by decide)) (.cons (iok_add (k := 24) (iok_add (k := 23) (iok_mul (k := 22) bn24 (iok_sub (k := 15) (iok_mul (k := 14) bn16 bn11 (by decide)) (iok_mul (k := 14) bn17 bn10 (by decide)) (by decide)) (by decide)) (iok_mul (k := 22) bn25 (iok_sub (k := 15) (iok_mul (k := 14) bn17 bn9 (by decide)) (iok_mul (k := 14) bn15 bn11 (by decide)) (by decide)) (by decide)) (by decide)) (iok_mul (k := 22) bn26 (iok_sub (k := 15) (iok_mul (k := 14) bn15 bn10 (by decide)) (iok_mul (k := 14) bn16 bn9 (by decide)) (by decide)) (by decide)) (by decide)) (.cons (iok_add (k := 24) (iok_add (k := 23) (iok_mul (k := 22) bn24 (iok_sub (k := 15) (iok_mul (k := 14) bn10 bn14 (by decide)) (iok_mul (k := 14) bn11 bn13 (by decide)) (by decide)) (by decide)) (iok_mul (k := 22) bn25 (iok_sub (k := 15) (iok_mul (k := 14) bn11 bn12 (by decide)) (iok_mul (k := 14) bn9 bn14 (by decide)) (by decide)) (by decide)) (by decide)) (iok_mul (k := 22) bn26 (iok_sub (k := 15) (iok_mul (k := 14) bn9 bn13 (by decide)) (iok_mul (k := 14) bn10 bn12 (by decide)) (by decide)) (by decide)) (by decide)) .nil))))))))) hc
  refine kx [(3, (.ref 1 0)), (4, (vi 0))] [(1, some y6)] (zR (oLa sh26) <| zE (oCl (d_four x0 y0 u0 v0 x1 y1 u1 v1 x2 y2 u2 v2 x3 y3 u3 v3 (by omega) (by omega) (by omega) (by omega) (by omega) (by omega) (by omega) (by omega) (by omega) (by omega) (by omega) (by omega) (by omega) (by omega) (by omega) (by omega) k0 hk0 k1 hk1 k2 hk2 k3 hk3 m0 hm0 m1 hm1 m2 hm2 m3 hm3 a0 ha0 a1 ha1 a2 ha2 a3 ha3 a4 ha4 a5 ha5 a6 ha6 a7 ha7 a8 ha8 b0 hb0 b1 hb1 b2 hb2 b3 hb3 b4 hb4 b5 hb5 b6 hb6 b7 hb7 b8 hb8 c0 c1 c2 c3 c4 c5 c6 c7 c8 hc hk0_ hk1_ hk2_ hk3_ hm0_ hm1_ hm2_ hm3_ hnz)) <| zM <| zE oEx <| zE oEx <| zN (oAl 1 ze32 zo32) <| zT (oSt sh32) <| zM <| zZ) ?_
  refine pwp_seq <| kx [(5, (vin 0))] [] (zM <| zZ) ?_
  refine pwp_seq <| pwp_seq <| kx [(22, (.d y5)), (23, (vin 0))] [] (zR (oLa sh26) <| zM <| zZ) ?_
  refine pwp_block <| pwp_rounds 20 ?_
  refine pwp_round <| pwp_seq <| kx [(24, (vb true))] [] (zE (oBk true oLt) <| zZ) ?_
  refine pwp_seq <| pwp_cond (b := true) (by kernel_rfl) (fun _ => ?_) (fun h => by cases h)
  refine pwp_skip <| pwp_seq <| pwp_block <| pwp_seq <| kx [(7, (.ref 2 0))] [(2, some (bx (encPair (RPair.mk (RPix.mk x0 y0) (RPix.mk u0 v0)))))] (zE (oXa ar26 sh25 (fun h => by cases h) 0) <| zN (oAl 2 ze25 zo25) <| zT (oSt sh25) <| zZ) ?_
  refine pwp_seq <| kx [(38, (vl 3 1 enc_i64 [x0, y0, u0, v0])), (39, (vin 4)), (40, (vin 0))] [] (zE (oFr fo25_0) <| zE (oFr fo23_0) <| zR (oL1 sh3) <| zE (oFr fo25_0) <| zE (oFr fo23_1) <| zR (oL1 sh3) <| zE (oFr fo25_1) <| zE (oFr fo23_0) <| zR (oL1 sh3) <| zE (oFr fo25_1) <| zE (oFr fo23_1) <| zR (oL1 sh3) <| zE (oBs el36 ze3 zo3) <| zE (oLn el36 4) <| zM <| zZ) ?_
  refine pwp_block <| pwp_rounds 20 ?_
  refine pwp_round <| pwp_seq <| kx [(41, (vb true))] [] (zE (oBk true oLt) <| zZ) ?_
  refine pwp_seq <| pwp_cond (b := true) (by kernel_rfl) (fun _ => ?_) (fun h => by cases h)
  refine pwp_skip <| pwp_seq <| pwp_block <| pwp_seq <| kx [(9, (vi x0))] [] (zE (oXs el36 0) <| zE (oC1 sh3) <| zM <| zZ) ?_
  refine pwp_seq <| kx [(49, (vb false))] [] (zM <| zE (oBk false oLt (by exact decide_eq_false (by omega))) <| zM <| zM <| zE (oBk false oGt (by exact decide_eq_false (by omega))) <| zE oPf <| zZ) ?_
  refine pwp_cond (b := false) (by kernel_rfl) (fun h => by cases h) (fun _ => ?_)
  refine pwp_skip <| kx [(40, (vin 1))] [] (zE (oAd 1 (hr := by decide)) <| zM <| zZ) ?_
  refine pwp_again (SimImp.refl _) ?_
  refine pwp_seq <| kx [(41, (vb true))] [] (zE (oBk true oLt) <| zZ) ?_
  refine pwp_seq <| pwp_cond (b := true) (by kernel_rfl) (fun _ => ?_) (fun h => by cases h)
  refine pwp_skip <| pwp_seq <| pwp_block <| pwp_seq <| kx [(9, (vi y0))] [] (zE (oXs el36 1) <| zE (oC1 sh3) <| zM <| zZ) ?_
  refine pwp_seq <| pwp_sim (wk (l := [(1, (.ref 0 0)), (3, (.ref 1 0)), (4, (vi 0)), (5, (vin 0)), (9, (vi y0)), (22, (.d y5)), (23, (vin 0)), (38, (vl 3 1 enc_i64 [x0, y0, u0, v0])), (39, (vin 4)), (40, (vin 1))]) (b := [(0, some y4), (1, some y6)])) ?_
  refine kx [(49, (vb false))] [] (zM <| zE (oBk false oLt (by exact decide_eq_false (by omega))) <| zM <| zM <| zE (oBk false oGt (by exact decide_eq_false (by omega))) <| zE oPf <| zZ) ?_
  refine pwp_cond (b := false) (by kernel_rfl) (fun h => by cases h) (fun _ => ?_)
  refine pwp_skip <| kx [(40, (vin 2))] [] (zE (oAd 2 (hr := by decide)) <| zM <| zZ) ?_
  refine pwp_again (SimImp.refl _) ?_
  refine pwp_seq <| kx [(41, (vb true))] [] (zE (oBk true oLt) <| zZ) ?_
  refine pwp_seq <| pwp_cond (b := true) (by kernel_rfl) (fun _ => ?_) (fun h => by cases h)
  refine pwp_skip <| pwp_seq <| pwp_block <| pwp_seq <| kx [(9, (vi u0))] [] (zE (oXs el36 2) <| zE (oC1 sh3) <| zM <| zZ) ?_
  refine pwp_seq <| kx [(49, (vb false))] [] (zM <| zE (oBk false oLt (by exact decide_eq_false (by omega))) <| zM <| zM <| zE (oBk false oGt (by exact decide_eq_false (by omega))) <| zE oPf <| zZ) ?_
  refine pwp_cond (b := false) (by kernel_rfl) (fun h => by cases h) (fun _ => ?_)
  refine pwp_skip <| kx [(40, (vin 3))] [] (zE (oAd 3 (hr := by decide)) <| zM <| zZ) ?_
  refine pwp_again (SimImp.refl _) ?_
  refine pwp_seq <| kx [(41, (vb true))] [] (zE (oBk true oLt) <| zZ) ?_
  refine pwp_seq <| pwp_cond (b := true) (by kernel_rfl) (fun _ => ?_) (fun h => by cases h)
  refine pwp_skip <| pwp_seq <| pwp_block <| pwp_seq <| kx [(9, (vi v0))] [] (zE (oXs el36 3) <| zE (oC1 sh3) <| zM <| zZ) ?_
  refine pwp_seq <| kx [(49, (vb false))] [] (zM <| zE (oBk false oLt (by exact decide_eq_false (by omega))) <| zM <| zM <| zE (oBk false oGt (by exact decide_eq_false (by omega))) <| zE oPf <| zZ) ?_
  refine pwp_cond (b := false) (by kernel_rfl) (fun h => by cases h) (fun _ => ?_)
  refine pwp_skip <| kx [(40, (vin 4))] [] (zE (oAd 4 (hr := by decide)) <| zM <| zZ) ?_
  refine pwp_again (SimImp.refl _) ?_
  refine pwp_seq <| kx [(41, (vb false))] [] (zE (oBk false oLt) <| zZ) ?_
  refine pwp_seq <| pwp_cond (b := false) (by kernel_rfl) (fun h => by cases h) (fun _ => ?_)
  refine pwp_exit <| kx [(23, (vin 1))] [] (zE (oAd 1 (hr := by decide)) <| zM <| zZ) ?_
  refine pwp_again (SimImp.refl _) ?_
  refine pwp_seq <| kx [(24, (vb true))] [] (zE (oBk true oLt) <| zZ) ?_
  refine pwp_seq <| pwp_cond (b := true) (by kernel_rfl) (fun _ => ?_) (fun h => by cases h)
  refine pwp_skip <| pwp_seq <| pwp_block <| pwp_seq <| kx [(7, (.ref 3 0))] [(3, some (bx (encPair (RPair.mk (RPix.mk x1 y1) (RPix.mk u1 v1)))))] (zE (oXa ar26 sh25 (fun h => by cases h) 1) <| zN (oAl 3 ze25 zo25) <| zT (oSt sh25) <| zZ) ?_
  refine pwp_seq <| pwp_sim (wk (l := [(1, (.ref 0 0)), (3, (.ref 1 0)), (4, (vi 0)), (5, (vin 0)), (7, (.ref 3 0)), (22, (.d y5)), (23, (vin 1))]) (b := [(0, some y4), (1, some y6), (3, some (bx (encPair (RPair.mk (RPix.mk x1 y1) (RPix.mk u1 v1)))))])) ?_
  refine kx [(38, (vl 3 1 enc_i64 [x1, y1, u1, v1])), (39, (vin 4)), (40, (vin 0))] [] (zE (oFr fo25_0) <| zE (oFr fo23_0) <| zR (oL1 sh3) <| zE (oFr fo25_0) <| zE (oFr fo23_1) <| zR (oL1 sh3) <| zE (oFr fo25_1) <| zE (oFr fo23_0) <| zR (oL1 sh3) <| zE (oFr fo25_1) <| zE (oFr fo23_1) <| zR (oL1 sh3) <| zE (oBs el36 ze3 zo3) <| zE (oLn el36 4) <| zM <| zZ) ?_
  refine pwp_block <| pwp_rounds 20 ?_
  refine pwp_round <| pwp_seq <| kx [(41, (vb true))] [] (zE (oBk true oLt) <| zZ) ?_
  refine pwp_seq <| pwp_cond (b := true) (by kernel_rfl) (fun _ => ?_) (fun h => by cases h)
  refine pwp_skip <| pwp_seq <| pwp_block <| pwp_seq <| kx [(9, (vi x1))] [] (zE (oXs el36 0) <| zE (oC1 sh3) <| zM <| zZ) ?_
  refine pwp_seq <| kx [(49, (vb false))] [] (zM <| zE (oBk false oLt (by exact decide_eq_false (by omega))) <| zM <| zM <| zE (oBk false oGt (by exact decide_eq_false (by omega))) <| zE oPf <| zZ) ?_
  refine pwp_cond (b := false) (by kernel_rfl) (fun h => by cases h) (fun _ => ?_)
  refine pwp_skip <| kx [(40, (vin 1))] [] (zE (oAd 1 (hr := by decide)) <| zM <| zZ) ?_
  refine pwp_again (SimImp.refl _) ?_
  refine pwp_seq <| kx [(41, (vb true))] [] (zE (oBk true oLt) <| zZ) ?_
  refine pwp_seq <| pwp_cond (b := true) (by kernel_rfl) (fun _ => ?_) (fun h => by cases h)
  refine pwp_skip <| pwp_seq <| pwp_block <| pwp_seq <| kx [(9, (vi y1))] [] (zE (oXs el36 1) <| zE (oC1 sh3) <| zM <| zZ) ?_
  refine pwp_seq <| kx [(49, (vb false))] [] (zM <| zE (oBk false oLt (by exact decide_eq_false (by omega))) <| zM <| zM <| zE (oBk false oGt (by exact decide_eq_false (by omega))) <| zE oPf <| zZ) ?_
  refine pwp_cond (b := false) (by kernel_rfl) (fun h => by cases h) (fun _ => ?_)
  refine pwp_skip <| kx [(40, (vin 2))] [] (zE (oAd 2 (hr := by decide)) <| zM <| zZ) ?_
  refine pwp_again (SimImp.refl _) ?_
  refine pwp_seq <| kx [(41, (vb true))] [] (zE (oBk true oLt) <| zZ) ?_
  refine pwp_seq <| pwp_cond (b := true) (by kernel_rfl) (fun _ => ?_) (fun h => by cases h)
  refine pwp_skip <| pwp_seq <| pwp_block <| pwp_seq <| kx [(9, (vi u1))] [] (zE (oXs el36 2) <| zE (oC1 sh3) <| zM <| zZ) ?_
  refine pwp_seq <| kx [(49, (vb false))] [] (zM <| zE (oBk false oLt (by exact decide_eq_false (by omega))) <| zM <| zM <| zE (oBk false oGt (by exact decide_eq_false (by omega))) <| zE oPf <| zZ) ?_
  refine pwp_cond (b := false) (by kernel_rfl) (fun h => by cases h) (fun _ => ?_)
  refine pwp_skip <| kx [(40, (vin 3))] [] (zE (oAd 3 (hr := by decide)) <| zM <| zZ) ?_
  refine pwp_again (SimImp.refl _) ?_
  refine pwp_seq <| kx [(41, (vb true))] [] (zE (oBk true oLt) <| zZ) ?_
  refine pwp_seq <| pwp_cond (b := true) (by kernel_rfl) (fun _ => ?_) (fun h => by cases h)
  refine pwp_skip <| pwp_seq <| pwp_block <| pwp_seq <| pwp_sim (wk (l := [(1, (.ref 0 0)), (3, (.ref 1 0)), (4, (vi 0)), (5, (vin 0)), (22, (.d y5)), (23, (vin 1)), (38, (vl 3 1 enc_i64 [x1, y1, u1, v1])), (39, (vin 4)), (40, (vin 3)), (41, (vb true))]) (b := [(0, some y4), (1, some y6)])) ?_
  refine kx [(9, (vi v1))] [] (zE (oXs el36 3) <| zE (oC1 sh3) <| zM <| zZ) ?_
  refine pwp_seq <| kx [(49, (vb false))] [] (zM <| zE (oBk false oLt (by exact decide_eq_false (by omega))) <| zM <| zM <| zE (oBk false oGt (by exact decide_eq_false (by omega))) <| zE oPf <| zZ) ?_
  refine pwp_cond (b := false) (by kernel_rfl) (fun h => by cases h) (fun _ => ?_)
  refine pwp_skip <| kx [(40, (vin 4))] [] (zE (oAd 4 (hr := by decide)) <| zM <| zZ) ?_
  refine pwp_again (SimImp.refl _) ?_
  refine pwp_seq <| kx [(41, (vb false))] [] (zE (oBk false oLt) <| zZ) ?_
  refine pwp_seq <| pwp_cond (b := false) (by kernel_rfl) (fun h => by cases h) (fun _ => ?_)
  refine pwp_exit <| kx [(23, (vin 2))] [] (zE (oAd 2 (hr := by decide)) <| zM <| zZ) ?_
  refine pwp_again (SimImp.refl _) ?_
  refine pwp_seq <| kx [(24, (vb true))] [] (zE (oBk true oLt) <| zZ) ?_
  refine pwp_seq <| pwp_cond (b := true) (by kernel_rfl) (fun _ => ?_) (fun h => by cases h)
  refine pwp_skip <| pwp_seq <| pwp_block <| pwp_seq <| kx [(7, (.ref 4 0))] [(4, some (bx (encPair (RPair.mk (RPix.mk x2 y2) (RPix.mk u2 v2)))))] (zE (oXa ar26 sh25 (fun h => by cases h) 2) <| zN (oAl 4 ze25 zo25) <| zT (oSt sh25) <| zZ) ?_
  refine pwp_seq <| kx [(38, (vl 3 1 enc_i64 [x2, y2, u2, v2])), (39, (vin 4)), (40, (vin 0))] [] (zE (oFr fo25_0) <| zE (oFr fo23_0) <| zR (oL1 sh3) <| zE (oFr fo25_0) <| zE (oFr fo23_1) <| zR (oL1 sh3) <| zE (oFr fo25_1) <| zE (oFr fo23_0) <| zR (oL1 sh3) <| zE (oFr fo25_1) <| zE (oFr fo23_1) <| zR (oL1 sh3) <| zE (oBs el36 ze3 zo3) <| zE (oLn el36 4) <| zM <| zZ) ?_
  refine pwp_block <| pwp_rounds 20 ?_
  refine pwp_round <| pwp_seq <| kx [(41, (vb true))] [] (zE (oBk true oLt) <| zZ) ?_
  refine pwp_seq <| pwp_cond (b := true) (by kernel_rfl) (fun _ => ?_) (fun h => by cases h)
  refine pwp_skip <| pwp_seq <| pwp_block <| pwp_seq <| kx [(9, (vi x2))] [] (zE (oXs el36 0) <| zE (oC1 sh3) <| zM <| zZ) ?_
  refine pwp_seq <| kx [(49, (vb false))] [] (zM <| zE (oBk false oLt (by exact decide_eq_false (by omega))) <| zM <| zM <| zE (oBk false oGt (by exact decide_eq_false (by omega))) <| zE oPf <| zZ) ?_
  refine pwp_cond (b := false) (by kernel_rfl) (fun h => by cases h) (fun _ => ?_)
  refine pwp_skip <| kx [(40, (vin 1))] [] (zE (oAd 1 (hr := by decide)) <| zM <| zZ) ?_
  refine pwp_again (SimImp.refl _) ?_
  refine pwp_seq <| kx [(41, (vb true))] [] (zE (oBk true oLt) <| zZ) ?_
  refine pwp_seq <| pwp_cond (b := true) (by kernel_rfl) (fun _ => ?_) (fun h => by cases h)
  refine pwp_skip <| pwp_seq <| pwp_block <| pwp_seq <| kx [(9, (vi y2))] [] (zE (oXs el36 1) <| zE (oC1 sh3) <| zM <| zZ) ?_
  refine pwp_seq <| pwp_sim (wk (l := [(1, (.ref 0 0)), (3, (.ref 1 0)), (4, (vi 0)), (5, (vin 0)), (9, (vi y2)), (22, (.d y5)), (23, (vin 2)), (38, (vl 3 1 enc_i64 [x2, y2, u2, v2])), (39, (vin 4)), (40, (vin 1))]) (b := [(0, some y4), (1, some y6)])) ?_
  refine kx [(49, (vb false))] [] (zM <| zE (oBk false oLt (by exact decide_eq_false (by omega))) <| zM <| zM <| zE (oBk false oGt (by exact decide_eq_false (by omega))) <| zE oPf <| zZ) ?_
  refine pwp_cond (b := false) (by kernel_rfl) (fun h => by cases h) (fun _ => ?_)
  refine pwp_skip <| kx [(40, (vin 2))] [] (zE (oAd 2 (hr := by decide)) <| zM <| zZ) ?_
  refine pwp_again (SimImp.refl _) ?_
  refine pwp_seq <| kx [(41, (vb true))] [] (zE (oBk true oLt) <| zZ) ?_
  refine pwp_seq <| pwp_cond (b := true) (by kernel_rfl) (fun _ => ?_) (fun h => by cases h)
  refine pwp_skip <| pwp_seq <| pwp_block <| pwp_seq <| kx [(9, (vi u2))] [] (zE (oXs el36 2) <| zE (oC1 sh3) <| zM <| zZ) ?_
  refine pwp_seq <| kx [(49, (vb false))] [] (zM <| zE (oBk false oLt (by exact decide_eq_false (by omega))) <| zM <| zM <| zE (oBk false oGt (by exact decide_eq_false (by omega))) <| zE oPf <| zZ) ?_
  refine pwp_cond (b := false) (by kernel_rfl) (fun h => by cases h) (fun _ => ?_)
  refine pwp_skip <| kx [(40, (vin 3))] [] (zE (oAd 3 (hr := by decide)) <| zM <| zZ) ?_
  refine pwp_again (SimImp.refl _) ?_
  refine pwp_seq <| kx [(41, (vb true))] [] (zE (oBk true oLt) <| zZ) ?_
  refine pwp_seq <| pwp_cond (b := true) (by kernel_rfl) (fun _ => ?_) (fun h => by cases h)
  refine pwp_skip <| pwp_seq <| pwp_block <| pwp_seq <| kx [(9, (vi v2))] [] (zE (oXs el36 3) <| zE (oC1 sh3) <| zM <| zZ) ?_
  refine pwp_seq <| kx [(49, (vb false))] [] (zM <| zE (oBk false oLt (by exact decide_eq_false (by omega))) <| zM <| zM <| zE (oBk false oGt (by exact decide_eq_false (by omega))) <| zE oPf <| zZ) ?_
  refine pwp_cond (b := false) (by kernel_rfl) (fun h => by cases h) (fun _ => ?_)
  refine pwp_skip <| kx [(40, (vin 4))] [] (zE (oAd 4 (hr := by decide)) <| zM <| zZ) ?_
  refine pwp_again (SimImp.refl _) ?_
  refine pwp_seq <| kx [(41, (vb false))] [] (zE (oBk false oLt) <| zZ) ?_
  refine pwp_seq <| pwp_cond (b := false) (by kernel_rfl) (fun h => by cases h) (fun _ => ?_)
  refine pwp_exit <| kx [(23, (vin 3))] [] (zE (oAd 3 (hr := by decide)) <| zM <| zZ) ?_
  refine pwp_again (SimImp.refl _) ?_
  refine pwp_seq <| kx [(24, (vb true))] [] (zE (oBk true oLt) <| zZ) ?_
  refine pwp_seq <| pwp_cond (b := true) (by kernel_rfl) (fun _ => ?_) (fun h => by cases h)
  refine pwp_skip <| pwp_seq <| pwp_block <| pwp_seq <| kx [(7, (.ref 5 0))] [(5, some (bx (encPair (RPair.mk (RPix.mk x3 y3) (RPix.mk u3 v3)))))] (zE (oXa ar26 sh25 (fun h => by cases h) 3) <| zN (oAl 5 ze25 zo25) <| zT (oSt sh25) <| zZ) ?_
  refine pwp_seq <| pwp_sim (wk (l := [(1, (.ref 0 0)), (3, (.ref 1 0)), (4, (vi 0)), (5, (vin 0)), (7, (.ref 5 0)), (22, (.d y5)), (23, (vin 3))]) (b := [(0, some y4), (1, some y6), (5, some (bx (encPair (RPair.mk (RPix.mk x3 y3) (RPix.mk u3 v3)))))])) ?_
  refine kx [(38, (vl 3 1 enc_i64 [x3, y3, u3, v3])), (39, (vin 4)), (40, (vin 0))] [] (zE (oFr fo25_0) <| zE (oFr fo23_0) <| zR (oL1 sh3) <| zE (oFr fo25_0) <| zE (oFr fo23_1) <| zR (oL1 sh3) <| zE (oFr fo25_1) <| zE (oFr fo23_0) <| zR (oL1 sh3) <| zE (oFr fo25_1) <| zE (oFr fo23_1) <| zR (oL1 sh3) <| zE (oBs el36 ze3 zo3) <| zE (oLn el36 4) <| zM <| zZ) ?_
  refine pwp_block <| pwp_rounds 20 ?_
  refine pwp_round <| pwp_seq <| kx [(41, (vb true))] [] (zE (oBk true oLt) <| zZ) ?_
  refine pwp_seq <| pwp_cond (b := true) (by kernel_rfl) (fun _ => ?_) (fun h => by cases h)
  refine pwp_skip <| pwp_seq <| pwp_block <| pwp_seq <| kx [(9, (vi x3))] [] (zE (oXs el36 0) <| zE (oC1 sh3) <| zM <| zZ) ?_
  refine pwp_seq <| kx [(49, (vb false))] [] (zM <| zE (oBk false oLt (by exact decide_eq_false (by omega))) <| zM <| zM <| zE (oBk false oGt (by exact decide_eq_false (by omega))) <| zE oPf <| zZ) ?_
  refine pwp_cond (b := false) (by kernel_rfl) (fun h => by cases h) (fun _ => ?_)
  refine pwp_skip <| kx [(40, (vin 1))] [] (zE (oAd 1 (hr := by decide)) <| zM <| zZ) ?_
  refine pwp_again (SimImp.refl _) ?_
  refine pwp_seq <| kx [(41, (vb true))] [] (zE (oBk true oLt) <| zZ) ?_
  refine pwp_seq <| pwp_cond (b := true) (by kernel_rfl) (fun _ => ?_) (fun h => by cases h)
  refine pwp_skip <| pwp_seq <| pwp_block <| pwp_seq <| kx [(9, (vi y3))] [] (zE (oXs el36 1) <| zE (oC1 sh3) <| zM <| zZ) ?_
  refine pwp_seq <| kx [(49, (vb false))] [] (zM <| zE (oBk false oLt (by exact decide_eq_false (by omega))) <| zM <| zM <| zE (oBk false oGt (by exact decide_eq_false (by omega))) <| zE oPf <| zZ) ?_
  refine pwp_cond (b := false) (by kernel_rfl) (fun h => by cases h) (fun _ => ?_)
  refine pwp_skip <| kx [(40, (vin 2))] [] (zE (oAd 2 (hr := by decide)) <| zM <| zZ) ?_
  refine pwp_again (SimImp.refl _) ?_
  refine pwp_seq <| kx [(41, (vb true))] [] (zE (oBk true oLt) <| zZ) ?_
  refine pwp_seq <| pwp_cond (b := true) (by kernel_rfl) (fun _ => ?_) (fun h => by cases h)
  refine pwp_skip <| pwp_seq <| pwp_block <| pwp_seq <| kx [(9, (vi u3))] [] (zE (oXs el36 2) <| zE (oC1 sh3) <| zM <| zZ) ?_
  refine pwp_seq <| kx [(49, (vb false))] [] (zM <| zE (oBk false oLt (by exact decide_eq_false (by omega))) <| zM <| zM <| zE (oBk false oGt (by exact decide_eq_false (by omega))) <| zE oPf <| zZ) ?_
  refine pwp_cond (b := false) (by kernel_rfl) (fun h => by cases h) (fun _ => ?_)
  refine pwp_skip <| kx [(40, (vin 3))] [] (zE (oAd 3 (hr := by decide)) <| zM <| zZ) ?_
  refine pwp_again (SimImp.refl _) ?_
  refine pwp_seq <| kx [(41, (vb true))] [] (zE (oBk true oLt) <| zZ) ?_
  refine pwp_seq <| pwp_cond (b := true) (by kernel_rfl) (fun _ => ?_) (fun h => by cases h)
  refine pwp_skip <| pwp_seq <| pwp_block <| pwp_seq <| pwp_sim (wk (l := [(1, (.ref 0 0)), (3, (.ref 1 0)), (4, (vi 0)), (5, (vin 0)), (22, (.d y5)), (23, (vin 3)), (38, (vl 3 1 enc_i64 [x3, y3, u3, v3])), (39, (vin 4)), (40, (vin 3)), (41, (vb true))]) (b := [(0, some y4), (1, some y6)])) ?_
  refine kx [(9, (vi v3))] [] (zE (oXs el36 3) <| zE (oC1 sh3) <| zM <| zZ) ?_
  refine pwp_seq <| kx [(49, (vb false))] [] (zM <| zE (oBk false oLt (by exact decide_eq_false (by omega))) <| zM <| zM <| zE (oBk false oGt (by exact decide_eq_false (by omega))) <| zE oPf <| zZ) ?_
  refine pwp_cond (b := false) (by kernel_rfl) (fun h => by cases h) (fun _ => ?_)
  refine pwp_skip <| kx [(40, (vin 4))] [] (zE (oAd 4 (hr := by decide)) <| zM <| zZ) ?_
  refine pwp_again (SimImp.refl _) ?_
  refine pwp_seq <| kx [(41, (vb false))] [] (zE (oBk false oLt) <| zZ) ?_
  refine pwp_seq <| pwp_cond (b := false) (by kernel_rfl) (fun h => by cases h) (fun _ => ?_)
  refine pwp_exit <| kx [(23, (vin 4))] [] (zE (oAd 4 (hr := by decide)) <| zM <| zZ) ?_
  refine pwp_again (SimImp.refl _) ?_
  refine pwp_seq <| kx [(24, (vb false))] [] (zE (oBk false oLt) <| zZ) ?_
  refine pwp_seq <| pwp_cond (b := false) (by kernel_rfl) (fun h => by cases h) (fun _ => ?_)
  refine pwp_exit <| pwp_seq <| kx [(10, (.ref 6 0))] [(6, some (bx (encA31 (A9.mk (RInt.mk false []) (RInt.mk false []) (RInt.mk false []) (RInt.mk false []) (RInt.mk false []) (RInt.mk false []) (RInt.mk false []) (RInt.mk false []) (RInt.mk false [])))))] (zE (oBa ar32 ze32 zo32) <| zN (oAl 6 ze32 zo32) <| zT (oSt sh32) <| zZ) ?_
  refine pwp_seq <| pwp_seq <| kx [(54, (vb true))] [] (zM <| zE oEq <| zZ) ?_
  refine pwp_cond (b := true) (by kernel_rfl) (fun _ => ?_) (fun h => by cases h)
  refine pwp_seq ?_
  have bn28 : ∀ c ∈ [f0, f1, f2], IOk (ofZ c) c 1 := red_iok (n := 1) (.cons (iok_small (z := x0) (by omega)) (.cons (iok_small (z := y0) (by omega)) (.cons (iok_small (z := 1) (by decide)) .nil))) hf
  have bn29 : ∀ c ∈ [g0, g1, g2], IOk (ofZ c) c 1 := red_iok (n := 1) (.cons (iok_small (z := x1) (by omega)) (.cons (iok_small (z := y1) (by omega)) (.cons (iok_small (z := 1) (by decide)) .nil))) hg
  have bn30 : ∀ c ∈ [h0, h1, h2], IOk (ofZ c) c 1 := red_iok (n := 1) (.cons (iok_small (z := x2) (by omega)) (.cons (iok_small (z := y2) (by omega)) (.cons (iok_small (z := 1) (by decide)) .nil))) hh
  have bn31 : ∀ c ∈ [i0, i1, i2], IOk (ofZ c) c 1 := red_iok (n := 1) (.cons (iok_small (z := x3) (by omega)) (.cons (iok_small (z := y3) (by omega)) (.cons (iok_small (z := 1) (by decide)) .nil))) hi
  have bn32 : ∀ c ∈ [p0, p1, p2], IOk (ofZ c) c 1 := red_iok (n := 1) (.cons (iok_small (z := u0) (by omega)) (.cons (iok_small (z := v0) (by omega)) (.cons (iok_small (z := 1) (by decide)) .nil))) hp
  have bn33 : ∀ c ∈ [q0, q1, q2], IOk (ofZ c) c 1 := red_iok (n := 1) (.cons (iok_small (z := u1) (by omega)) (.cons (iok_small (z := v1) (by omega)) (.cons (iok_small (z := 1) (by decide)) .nil))) hq
  have bn34 : ∀ c ∈ [s0, s1, s2], IOk (ofZ c) c 1 := red_iok (n := 1) (.cons (iok_small (z := u2) (by omega)) (.cons (iok_small (z := v2) (by omega)) (.cons (iok_small (z := 1) (by decide)) .nil))) hs
  have bn35 : ∀ c ∈ [t0, t1, t2], IOk (ofZ c) c 1 := red_iok (n := 1) (.cons (iok_small (z := u3) (by omega)) (.cons (iok_small (z := v3) (by omega)) (.cons (iok_small (z := 1) (by decide)) .nil))) ht
  have bn36 : ∀ c ∈ [b_0, b_1, b_2, b_3, b_4, b_5, b_6, b_7, b_8], IOk (ofZ c) c 7 := red_iok (n := 7) (.cons (iok_mul (k := 7) (iok_det3 (n := 1) (k := 6) (bn35 t0 (by simp)) (bn35 t1 (by simp)) (bn35 t2 (by simp)) (bn33 q0 (by simp)) (bn33 q1 (by simp)) (bn33 q2 (by simp)) (bn34 s0 (by simp)) (bn34 s1 (by simp)) (bn34 s2 (by simp)) (by decide)) (bn32 p0 (by simp)) (by decide)) (.cons (iok_mul (k := 7) (iok_det3 (n := 1) (k := 6) (bn32 p0 (by simp)) (bn32 p1 (by simp)) (bn32 p2 (by simp)) (bn35 t0 (by simp)) (bn35 t1 (by simp)) (bn35 t2 (by simp)) (bn34 s0 (by simp)) (bn34 s1 (by simp)) (bn34 s2 (by simp)) (by decide)) (bn33 q0 (by simp)) (by decide)) (.cons (iok_mul (k := 7) (iok_det3 (n := 1) (k := 6) (bn32 p0 (by simp)) (bn32 p1 (by simp)) (bn32 p2 (by simp)) (bn33 q0 (by simp)) (bn33 q1 (by simp)) (bn33 q2 (by simp)) (bn35 t0 (by simp)) (bn35 t1 (by simp)) (bn35 t2 (by simp)) (by decide)) (bn34 s0 (by simp)) (by decide)) (.cons (iok_mul (k := 7) (iok_det3 (n := 1) (k := 6) (bn35 t0 (by simp)) (bn35 t1 (by simp)) (bn35 t2 (by simp)) (bn33 q0 (by simp)) (bn33 q1 (by simp)) (bn33 q2 (by simp)) (bn34 s0 (by simp)) (bn34 s1 (by simp)) (bn34 s2 (by simp)) (by decide)) (bn32 p1 (by simp)) (by decide)) (.cons (iok_mul (k := 7) (iok_det3 (n := 1) (k := 6) (bn32 p0 (by simp)) (bn32 p1 (by simp)) (bn32 p2 (by simp)) (bn35 t0 (by simp)) (bn35 t1 (by simp)) (bn35 t2 (by simp)) (bn34 s0 (by simp)) (bn34 s1 (by simp)) (bn34 s2 (by simp)) (by decide)) (bn33 q1 (by simp)) (by decide)) (.cons (iok_mul (k := 7) (iok_det3 (n := 1) (k := 6) (bn32 p0 (by simp)) (bn32 p1 (by simp)) (bn32 p2 (by simp)) (bn33 q0 (by simp)) (bn33 q1 (by simp)) (bn33 q2 (by simp)) (bn35 t0 (by simp)) (bn35 t1 (by simp)) (bn35 t2 (by simp)) (by decide)) (bn34 s1 (by simp)) (by decide)) (.cons (iok_mul (k := 7) (iok_det3 (n := 1) (k := 6) (bn35 t0 (by simp)) (bn35 t1 (by simp)) (bn35 t2 (by simp)) (bn33 q0 (by simp)) (bn33 q1 (by simp)) (bn33 q2 (by simp)) (bn34 s0 (by simp)) (bn34 s1 (by simp)) (bn34 s2 (by simp)) (by decide)) (bn32 p2 (by simp)) (by decide)) (.cons (iok_mul (k := 7) (iok_det3 (n := 1) (k := 6) (bn32 p0 (by simp)) (bn32 p1 (by simp)) (bn32 p2 (by simp)) (bn35 t0 (by simp)) (bn35 t1 (by simp)) (bn35 t2 (by simp)) (bn34 s0 (by simp)) (bn34 s1 (by simp)) (bn34 s2 (by simp)) (by decide)) (bn33 q2 (by simp)) (by decide)) (.cons (iok_mul (k := 7) (iok_det3 (n := 1) (k := 6) (bn32 p0 (by simp)) (bn32 p1 (by simp)) (bn32 p2 (by simp)) (bn33 q0 (by simp)) (bn33 q1 (by simp)) (bn33 q2 (by simp)) (bn35 t0 (by simp)) (bn35 t1 (by simp)) (bn35 t2 (by simp)) (by decide)) (bn34 s2 (by simp)) (by decide)) .nil))))))))) hb_
  have bn37 : ∀ c ∈ [a_0, a_1, a_2, a_3, a_4, a_5, a_6, a_7, a_8], IOk (ofZ c) c 7 := red_iok (n := 7) (.cons (iok_mul (k := 7) (iok_det3 (n := 1) (k := 6) (bn31 i0 (by simp)) (bn31 i1 (by simp)) (bn31 i2 (by simp)) (bn29 g0 (by simp)) (bn29 g1 (by simp)) (bn29 g2 (by simp)) (bn30 h0 (by simp)) (bn30 h1 (by simp)) (bn30 h2 (by simp)) (by decide)) (bn28 f0 (by simp)) (by decide)) (.cons (iok_mul (k := 7) (iok_det3 (n := 1) (k := 6) (bn28 f0 (by simp)) (bn28 f1 (by simp)) (bn28 f2 (by simp)) (bn31 i0 (by simp)) (bn31 i1 (by simp)) (bn31 i2 (by simp)) (bn30 h0 (by simp)) (bn30 h1 (by simp)) (bn30 h2 (by simp)) (by decide)) (bn29 g0 (by simp)) (by decide)) (.cons (iok_mul (k := 7) (iok_det3 (n := 1) (k := 6) (bn28 f0 (by simp)) (bn28 f1 (by simp)) (bn28 f2 (by simp)) (bn29 g0 (by simp)) (bn29 g1 (by simp)) (bn29 g2 (by simp)) (bn31 i0 (by simp)) (bn31 i1 (by simp)) (bn31 i2 (by simp)) (by decide)) (bn30 h0 (by simp)) (by decide)) (.cons (iok_mul (k := 7) (iok_det3 (n := 1) (k := 6) (bn31 i0 (by simp)) (bn31 i1 (by simp)) (bn31 i2 (by simp)) (bn29 g0 (by simp)) (bn29 g1 (by simp)) (bn29 g2 (by simp)) (bn30 h0 (by simp)) (bn30 h1 (by simp)) (bn30 h2 (by simp)) (by decide)) (bn28 f1 (by simp)) (by decide)) (.cons (iok_mul (k := 7) (iok_det3 (n := 1) (k := 6) (bn28 f0 (by simp)) (bn28 f1 (by simp)) (bn28 f2 (by simp)) (bn31 i0 (by simp)) (bn31 i1 (by simp)) (bn31 i2 (by simp)) (bn30 h0 (by simp)) (bn30 h1 (by simp)) (bn30 h2 (by simp)) (by decide)) (bn29 g1 (by simp)) (by decide)) (.cons (iok_mul (k := 7) (iok_det3 (n := 1) (k := 6) (bn28 f0 (by simp)) (bn28 f1 (by simp)) (bn28 f2 (by simp)) (bn29 g0 (by simp)) (bn29 g1 (by simp)) (bn29 g2 (by simp)) (bn31 i0 (by simp)) (bn31 i1 (by simp)) (bn31 i2 (by simp)) (by decide)) (bn30 h1 (by simp)) (by decide)) (.cons (iok_mul (k := 7) (iok_det3 (n := 1) (k := 6) (bn31 i0 (by simp)) (bn31 i1 (by simp)) (bn31 i2 (by simp)) (bn29 g0 (by simp)) (bn29 g1 (by simp)) (bn29 g2 (by simp)) (bn30 h0 (by simp)) (bn30 h1 (by simp)) (bn30 h2 (by simp)) (by decide)) (bn28 f2 (by simp)) (by decide)) (.cons (iok_mul (k := 7) (iok_det3 (n := 1) (k := 6) (bn28 f0 (by simp)) (bn28 f1 (by simp)) (bn28 f2 (by simp)) (bn31 i0 (by simp)) (bn31 i1 (by simp)) (bn31 i2 (by simp)) (bn30 h0 (by simp)) (bn30 h1 (by simp)) (bn30 h2 (by simp)) (by decide)) (bn29 g2 (by simp)) (by decide)) (.cons (iok_mul (k := 7) (iok_det3 (n := 1) (k := 6) (bn28 f0 (by simp)) (bn28 f1 (by simp)) (bn28 f2 (by simp)) (bn29 g0 (by simp)) (bn29 g1 (by simp)) (bn29 g2 (by simp)) (bn31 i0 (by simp)) (bn31 i1 (by simp)) (bn31 i2 (by simp)) (by decide)) (bn30 h2 (by simp)) (by decide)) .nil))))))))) ha_
  have bn38 : ∀ c ∈ [e0, e1, e2, e3, e4, e5, e6, e7, e8], IOk (ofZ c) c 15 := red_iok (n := 15) (.cons (iok_sub (k := 15) (iok_mul (k := 14) (bn37 a_4 (by simp)) (bn37 a_8 (by simp)) (by decide)) (iok_mul (k := 14) (bn37 a_5 (by simp)) (bn37 a_7 (by simp)) (by decide)) (by decide)) (.cons (iok_sub (k := 15) (iok_mul (k := 14) (bn37 a_7 (by simp)) (bn37 a_2 (by simp)) (by decide)) (iok_mul (k := 14) (bn37 a_8 (by simp)) (bn37 a_1 (by simp)) (by decide)) (by decide)) (.cons (iok_sub (k := 15) (iok_mul (k := 14) (bn37 a_1 (by simp)) (bn37 a_5 (by simp)) (by decide)) (iok_mul (k := 14) (bn37 a_2 (by simp)) (bn37 a_4 (by simp)) (by decide)) (by decide)) (.cons (iok_sub (k := 15) (iok_mul (k := 14) (bn37 a_5 (by simp)) (bn37 a_6 (by simp)) (by decide)) (iok_mul (k := 14) (bn37 a_3 (by simp)) (bn37 a_8 (by simp)) (by decide)) (by decide)) (.cons (iok_sub (k := 15) (iok_mul (k := 14) (bn37 a_8 (by simp)) (bn37 a_0 (by simp)) (by decide)) (iok_mul (k := 14) (bn37 a_6 (by simp)) (bn37 a_2 (by simp)) (by decide)) (by decide)) (.cons (iok_sub (k := 15) (iok_mul (k := 14) (bn37 a_2 (by simp)) (bn37 a_3 (by simp)) (by decide)) (iok_mul (k := 14) (bn37 a_0 (by simp)) (bn37 a_5 (by simp)) (by decide)) (by decide)) (.cons (iok_sub (k := 15) (iok_mul (k := 14) (bn37 a_3 (by simp)) (bn37 a_7 (by simp)) (by decide)) (iok_mul (k := 14) (bn37 a_4 (by simp)) (bn37 a_6 (by simp)) (by decide)) (by decide)) (.cons (iok_sub (k := 15) (iok_mul (k := 14) (bn37 a_6 (by simp)) (bn37 a_1 (by simp)) (by decide)) (iok_mul (k := 14) (bn37 a_7 (by simp)) (bn37 a_0 (by simp)) (by decide)) (by decide)) (.cons (iok_sub (k := 15) (iok_mul (k := 14) (bn37 a_0 (by simp)) (bn37 a_4 (by simp)) (by decide)) (iok_mul (k := 14) (bn37 a_1 (by simp)) (bn37 a_3 (by simp)) (by decide)) (by decide)) .nil))))))))) he
  refine kx [(11, (.ref 7 0)), (12, (vb true))] [(7, some y6)] (zR (oLa sh26) <| zE (oCl (l_four x0 y0 u0 v0 x1 y1 u1 v1 x2 y2 u2 v2 x3 y3 u3 v3 (by omega) (by omega) (by omega) (by omega) (by omega) (by omega) (by omega) (by omega) (by omega) (by omega) (by omega) (by omega) (by omega) (by omega) (by omega) (by omega) f0 f1 f2 hf g0 g1 g2 hg h0 h1 h2 hh i0 i1 i2 hi p0 p1 p2 hp q0 q1 q2 hq s0 s1 s2 hs t0 t1 t2 ht a_0 a_1 a_2 a_3 a_4 a_5 a_6 a_7 a_8 ha_ b_0 b_1 b_2 b_3 b_4 b_5 b_6 b_7 b_8 hb_ e0 e1 e2 e3 e4 e5 e6 e7 e8 he c0 c1 c2 c3 c4 c5 c6 c7 c8 hrc hfn0 hfn1 hfn2 hfn3 hfnz hfdz htn0 htn1 htn2 htn3 htnz htdz hnj hdj hnr hdr)) <| zM <| zE oEx <| zE oEx <| zN (oAl 7 ze32 zo32) <| zT (oSt sh32) <| zM <| zZ) ?_
  refine pwp_seq <| kx [] [(6, some y6)] (zR (oLa sh32) <| zT (oSt sh32) <| zZ) ?_
  refine pwp_seq <| kx [(62, (vb false))] [] (zM <| zE oNt <| zZ) ?_
  refine pwp_cond (b := false) (by kernel_rfl) (fun h => by cases h) (fun _ => ?_)
  refine pwp_skip <| pwp_seq <| pwp_seq <| kx [(64, (vb false))] [] (zM <| zE oNe <| zZ) ?_
  refine pwp_cond (b := false) (by kernel_rfl) (fun h => by cases h) (fun _ => ?_)
  refine pwp_skip <| pwp_seq <| pwp_seq <| kx [(79, (vb false))] [] (zM <| zE oNe <| zM <| zR (oLa sh32) <| zR (oLa sh32) <| zE (oCl (l_sameT9 y7 c0 c1 c2 c3 c4 c5 c6 c7 c8 (iok_up (bn27 c0 (by simp)) (by decide)) (iok_up (bn27 c1 (by simp)) (by decide)) (iok_up (bn27 c2 (by simp)) (by decide)) (iok_up (bn27 c3 (by simp)) (by decide)) (iok_up (bn27 c4 (by simp)) (by decide)) (iok_up (bn27 c5 (by simp)) (by decide)) (iok_up (bn27 c6 (by simp)) (by decide)) (iok_up (bn27 c7 (by simp)) (by decide)) (iok_up (bn27 c8 (by simp)) (by decide)) y7 c0 c1 c2 c3 c4 c5 c6 c7 c8 (iok_up (bn27 c0 (by simp)) (by decide)) (iok_up (bn27 c1 (by simp)) (by decide)) (iok_up (bn27 c2 (by simp)) (by decide)) (iok_up (bn27 c3 (by simp)) (by decide)) (iok_up (bn27 c4 (by simp)) (by decide)) (iok_up (bn27 c5 (by simp)) (by decide)) (iok_up (bn27 c6 (by simp)) (by decide)) (iok_up (bn27 c7 (by simp)) (by decide)) (iok_up (bn27 c8 (by simp)) (by decide)) (validI_ofZ _) (validI_ofZ _) (validI_ofZ _) (validI_ofZ _) (validI_ofZ _) (validI_ofZ _) (validI_ofZ _) (validI_ofZ _) (validI_ofZ _) (sameI_self _) (sameI_self _) (sameI_self _) (sameI_self _) (sameI_self _) (sameI_self _) (sameI_self _) (sameI_self _) (sameI_self _))) <| zE oNt <| zE oPf <| zZ) ?_
  refine pwp_cond (b := false) (by kernel_rfl) (fun h => by cases h) (fun _ => ?_)
  refine pwp_skip <| pwp_seq <| pwp_seq <| kx [(80, (.d y5)), (81, (vin 0))] [] (zR (oLa sh26) <| zM <| zZ) ?_
  refine pwp_block <| pwp_rounds 20 ?_
  refine pwp_round <| pwp_seq <| pwp_sim (wk (l := [(3, (.ref 1 0)), (80, (.d y5)), (81, (vin 0))]) (b := [(1, some y6)])) ?_
  refine kx [(82, (vb true))] [] (zE (oBk true oLt) <| zZ) ?_
  refine pwp_seq <| pwp_cond (b := true) (by kernel_rfl) (fun _ => ?_) (fun h => by cases h)
  refine pwp_skip <| pwp_seq <| pwp_block <| pwp_seq <| kx [(14, (.ref 8 0))] [(8, some (bx (encPair (RPair.mk (RPix.mk x0 y0) (RPix.mk u0 v0)))))] (zE (oXa ar26 sh25 (fun h => by cases h) 0) <| zN (oAl 8 ze25 zo25) <| zT (oSt sh25) <| zZ) ?_
  refine pwp_seq ?_
  have bn39 : ∀ c ∈ [p0, p1, p2], IOk (ofZ c) c 27 := red_iok (n := 27) (.cons (iok_add (k := 27) (iok_add (k := 26) (iok_mul (k := 25) (bn27 c0 (by simp)) (bn28 f0 (by simp)) (by decide)) (iok_mul (k := 25) (bn27 c1 (by simp)) (bn28 f1 (by simp)) (by decide)) (by decide)) (iok_mul (k := 25) (bn27 c2 (by simp)) (bn28 f2 (by simp)) (by decide)) (by decide)) (.cons (iok_add (k := 27) (iok_add (k := 26) (iok_mul (k := 25) (bn27 c3 (by simp)) (bn28 f0 (by simp)) (by decide)) (iok_mul (k := 25) (bn27 c4 (by simp)) (bn28 f1 (by simp)) (by decide)) (by decide)) (iok_mul (k := 25) (bn27 c5 (by simp)) (bn28 f2 (by simp)) (by decide)) (by decide)) (.cons (iok_add (k := 27) (iok_add (k := 26) (iok_mul (k := 25) (bn27 c6 (by simp)) (bn28 f0 (by simp)) (by decide)) (iok_mul (k := 25) (bn27 c7 (by simp)) (bn28 f1 (by simp)) (by decide)) (by decide)) (iok_mul (k := 25) (bn27 c8 (by simp)) (bn28 f2 (by simp)) (by decide)) (by decide)) .nil))) hap0
  refine kd [(93, (vb false))] [] mo (wR (oLa sh32) <| wE (oFr fo25_0) <| wR (oLa sh23) <| wE (oCl (l_pix x0 y0 (by omega) (by omega) f0 f1 f2 hf)) <| wE (oCl (l_apply y7 c0 c1 c2 c3 c4 c5 c6 c7 c8 (iok_up (bn27 c0 (by simp)) (by decide)) (iok_up (bn27 c1 (by simp)) (by decide)) (iok_up (bn27 c2 (by simp)) (by decide)) (iok_up (bn27 c3 (by simp)) (by decide)) (iok_up (bn27 c4 (by simp)) (by decide)) (iok_up (bn27 c5 (by simp)) (by decide)) (iok_up (bn27 c6 (by simp)) (by decide)) (iok_up (bn27 c7 (by simp)) (by decide)) (iok_up (bn27 c8 (by simp)) (by decide)) (A3.mk (ofZ f0) (ofZ f1) (ofZ f2)) f0 f1 f2 (iok_up (bn28 f0 (by simp)) (by decide)) (iok_up (bn28 f1 (by simp)) (by decide)) (iok_up (bn28 f2 (by simp)) (by decide)) p0 p1 p2 hap0 han0)) <| wE (oFr fo25_1) <| wR (oLa sh23) <| wE (oCl (l_pix u0 v0 (by omega) (by omega) p0 p1 p2 hp)) <| wE (oCl (l_sameT3 (A3.mk (ofZ p0) (ofZ p1) (ofZ p2)) p0 p1 p2 (iok_up (bn39 p0 (by simp)) (by decide)) (iok_up (bn39 p1 (by simp)) (by decide)) (iok_up (bn39 p2 (by simp)) (by decide)) (A3.mk (ofZ p0) (ofZ p1) (ofZ p2)) p0 p1 p2 (iok_up (bn32 p0 (by simp)) (by decide)) (iok_up (bn32 p1 (by simp)) (by decide)) (iok_up (bn32 p2 (by simp)) (by decide)) (validI_ofZ _) (validI_ofZ _) (validI_ofZ _) (sameI_self _) (sameI_self _) (sameI_self _))) <| wE oNt <| wZ) ?_
  refine pwp_cond (b := false) (by kernel_rfl) (fun h => by cases h) (fun _ => ?_)
  refine pwp_skip <| kx [(81, (vin 1))] [] (zE (oAd 1 (hr := by decide)) <| zM <| zZ) ?_
  refine pwp_again (SimImp.refl _) ?_
  refine pwp_seq <| kx [(82, (vb true))] [] (zE (oBk true oLt) <| zZ) ?_
  refine pwp_seq <| pwp_cond (b := true) (by kernel_rfl) (fun _ => ?_) (fun h => by cases h)
  refine pwp_skip <| pwp_seq <| pwp_block <| pwp_seq <| kx [(14, (.ref 9 0))] [(9, some (bx (encPair (RPair.mk (RPix.mk x1 y1) (RPix.mk u1 v1)))))] (zE (oXa ar26 sh25 (fun h => by cases h) 1) <| zN (oAl 9 ze25 zo25) <| zT (oSt sh25) <| zZ) ?_
  refine pwp_seq ?_
  have bn40 : ∀ c ∈ [q0, q1, q2], IOk (ofZ c) c 27 := red_iok (n := 27) (.cons (iok_add (k := 27) (iok_add (k := 26) (iok_mul (k := 25) (bn27 c0 (by simp)) (bn29 g0 (by simp)) (by decide)) (iok_mul (k := 25) (bn27 c1 (by simp)) (bn29 g1 (by simp)) (by decide)) (by decide)) (iok_mul (k := 25) (bn27 c2 (by simp)) (bn29 g2 (by simp)) (by decide)) (by decide)) (.cons (iok_add (k := 27) (iok_add (k := 26) (iok_mul (k := 25) (bn27 c3 (by simp)) (bn29 g0 (by simp)) (by decide)) (iok_mul (k := 25) (bn27 c4 (by simp)) (bn29 g1 (by simp)) (by decide)) (by decide)) (iok_mul (k := 25) (bn27 c5 (by simp)) (bn29 g2 (by simp)) (by decide)) (by decide)) (.cons (iok_add (k := 27) (iok_add (k := 26) (iok_mul (k := 25) (bn27 c6 (by simp)) (bn29 g0 (by simp)) (by decide)) (iok_mul (k := 25) (bn27 c7 (by simp)) (bn29 g1 (by simp)) (by decide)) (by decide)) (iok_mul (k := 25) (bn27 c8 (by simp)) (bn29 g2 (by simp)) (by decide)) (by decide)) .nil))) hap1
  refine kd [(93, (vb false))] [] mo (wR (oLa sh32) <| wE (oFr fo25_0) <| wR (oLa sh23) <| wE (oCl (l_pix x1 y1 (by omega) (by omega) g0 g1 g2 hg)) <| wE (oCl (l_apply y7 c0 c1 c2 c3 c4 c5 c6 c7 c8 (iok_up (bn27 c0 (by simp)) (by decide)) (iok_up (bn27 c1 (by simp)) (by decide)) (iok_up (bn27 c2 (by simp)) (by decide)) (iok_up (bn27 c3 (by simp)) (by decide)) (iok_up (bn27 c4 (by simp)) (by decide)) (iok_up (bn27 c5 (by simp)) (by decide)) (iok_up (bn27 c6 (by simp)) (by decide)) (iok_up (bn27 c7 (by simp)) (by decide)) (iok_up (bn27 c8 (by simp)) (by decide)) (A3.mk (ofZ g0) (ofZ g1) (ofZ g2)) g0 g1 g2 (iok_up (bn29 g0 (by simp)) (by decide)) (iok_up (bn29 g1 (by simp)) (by decide)) (iok_up (bn29 g2 (by simp)) (by decide)) q0 q1 q2 hap1 han1)) <| wE (oFr fo25_1) <| wR (oLa sh23) <| wE (oCl (l_pix u1 v1 (by omega) (by omega) q0 q1 q2 hq)) <| wE (oCl (l_sameT3 (A3.mk (ofZ q0) (ofZ q1) (ofZ q2)) q0 q1 q2 (iok_up (bn40 q0 (by simp)) (by decide)) (iok_up (bn40 q1 (by simp)) (by decide)) (iok_up (bn40 q2 (by simp)) (by decide)) (A3.mk (ofZ q0) (ofZ q1) (ofZ q2)) q0 q1 q2 (iok_up (bn33 q0 (by simp)) (by decide)) (iok_up (bn33 q1 (by simp)) (by decide)) (iok_up (bn33 q2 (by simp)) (by decide)) (validI_ofZ _) (validI_ofZ _) (validI_ofZ _) (sameI_self _) (sameI_self _) (sameI_self _))) <| wE oNt <| wZ) ?_
  refine pwp_cond (b := false) (by kernel_rfl) (fun h => by cases h) (fun _ => ?_)
  refine pwp_skip <| kx [(81, (vin 2))] [] (zE (oAd 2 (hr := by decide)) <| zM <| zZ) ?_
  refine pwp_again (SimImp.refl _) ?_
  refine pwp_seq <| kx [(82, (vb true))] [] (zE (oBk true oLt) <| zZ) ?_
  refine pwp_seq <| pwp_cond (b := true) (by kernel_rfl) (fun _ => ?_) (fun h => by cases h)
  refine pwp_skip <| pwp_seq <| pwp_block <| pwp_seq <| kx [(14, (.ref 10 0))] [(10, some (bx (encPair (RPair.mk (RPix.mk x2 y2) (RPix.mk u2 v2)))))] (zE (oXa ar26 sh25 (fun h => by cases h) 2) <| zN (oAl 10 ze25 zo25) <| zT (oSt sh25) <| zZ) ?_
  refine pwp_seq ?_
  have bn41 : ∀ c ∈ [s0, s1, s2], IOk (ofZ c) c 27 := red_iok (n := 27) (.cons (iok_add (k := 27) (iok_add (k := 26) (iok_mul (k := 25) (bn27 c0 (by simp)) (bn30 h0 (by simp)) (by decide)) (iok_mul (k := 25) (bn27 c1 (by simp)) (bn30 h1 (by simp)) (by decide)) (by decide)) (iok_mul (k := 25) (bn27 c2 (by simp)) (bn30 h2 (by simp)) (by decide)) (by decide)) (.cons (iok_add (k := 27) (iok_add (k := 26) (iok_mul (k := 25) (bn27 c3 (by simp)) (bn30 h0 (by simp)) (by decide)) (iok_mul (k := 25) (bn27 c4 (by simp)) (bn30 h1 (by simp)) (by decide)) (by decide)) (iok_mul (k := 25) (bn27 c5 (by simp)) (bn30 h2 (by simp)) (by decide)) (by decide)) (.cons (iok_add (k := 27) (iok_add (k := 26) (iok_mul (k := 25) (bn27 c6 (by simp)) (bn30 h0 (by simp)) (by decide)) (iok_mul (k := 25) (bn27 c7 (by simp)) (bn30 h1 (by simp)) (by decide)) (by decide)) (iok_mul (k := 25) (bn27 c8 (by simp)) (bn30 h2 (by simp)) (by decide)) (by decide)) .nil))) hap2
  refine kd [(93, (vb false))] [] mo (wR (oLa sh32) <| wE (oFr fo25_0) <| wR (oLa sh23) <| wE (oCl (l_pix x2 y2 (by omega) (by omega) h0 h1 h2 hh)) <| wE (oCl (l_apply y7 c0 c1 c2 c3 c4 c5 c6 c7 c8 (iok_up (bn27 c0 (by simp)) (by decide)) (iok_up (bn27 c1 (by simp)) (by decide)) (iok_up (bn27 c2 (by simp)) (by decide)) (iok_up (bn27 c3 (by simp)) (by decide)) (iok_up (bn27 c4 (by simp)) (by decide)) (iok_up (bn27 c5 (by simp)) (by decide)) (iok_up (bn27 c6 (by simp)) (by decide)) (iok_up (bn27 c7 (by simp)) (by decide)) (iok_up (bn27 c8 (by simp)) (by decide)) (A3.mk (ofZ h0) (ofZ h1) (ofZ h2)) h0 h1 h2 (iok_up (bn30 h0 (by simp)) (by decide)) (iok_up (bn30 h1 (by simp)) (by decide)) (iok_up (bn30 h2 (by simp)) (by decide)) s0 s1 s2 hap2 han2)) <| wE (oFr fo25_1) <| wR (oLa sh23) <| wE (oCl (l_pix u2 v2 (by omega) (by omega) s0 s1 s2 hs)) <| wE (oCl (l_sameT3 (A3.mk (ofZ s0) (ofZ s1) (ofZ s2)) s0 s1 s2 (iok_up (bn41 s0 (by simp)) (by decide)) (iok_up (bn41 s1 (by simp)) (by decide)) (iok_up (bn41 s2 (by simp)) (by decide)) (A3.mk (ofZ s0) (ofZ s1) (ofZ s2)) s0 s1 s2 (iok_up (bn34 s0 (by simp)) (by decide)) (iok_up (bn34 s1 (by simp)) (by decide)) (iok_up (bn34 s2 (by simp)) (by decide)) (validI_ofZ _) (validI_ofZ _) (validI_ofZ _) (sameI_self _) (sameI_self _) (sameI_self _))) <| wE oNt <| wZ) ?_
  refine pwp_cond (b := false) (by kernel_rfl) (fun h => by cases h) (fun _ => ?_)
  refine pwp_skip <| kx [(81, (vin 3))] [] (zE (oAd 3 (hr := by decide)) <| zM <| zZ) ?_
  refine pwp_again (SimImp.refl _) ?_
  refine pwp_seq <| kx [(82, (vb true))] [] (zE (oBk true oLt) <| zZ) ?_
  refine pwp_seq <| pwp_cond (b := true) (by kernel_rfl) (fun _ => ?_) (fun h => by cases h)
  refine pwp_skip <| pwp_seq <| pwp_block <| pwp_seq <| kx [(14, (.ref 11 0))] [(11, some (bx (encPair (RPair.mk (RPix.mk x3 y3) (RPix.mk u3 v3)))))] (zE (oXa ar26 sh25 (fun h => by cases h) 3) <| zN (oAl 11 ze25 zo25) <| zT (oSt sh25) <| zZ) ?_
  refine pwp_seq <| pwp_sim (wk (l := [(3, (.ref 1 0)), (14, (.ref 11 0)), (80, (.d y5)), (81, (vin 3))]) (b := [(1, some y6), (11, some (bx (encPair (RPair.mk (RPix.mk x3 y3) (RPix.mk u3 v3)))))])) ?_
  have bn42 : ∀ c ∈ [t0, t1, t2], IOk (ofZ c) c 27 := red_iok (n := 27) (.cons (iok_add (k := 27) (iok_add (k := 26) (iok_mul (k := 25) (bn27 c0 (by simp)) (bn31 i0 (by simp)) (by decide)) (iok_mul (k := 25) (bn27 c1 (by simp)) (bn31 i1 (by simp)) (by decide)) (by decide)) (iok_mul (k := 25) (bn27 c2 (by simp)) (bn31 i2 (by simp)) (by decide)) (by decide)) (.cons (iok_add (k := 27) (iok_add (k := 26) (iok_mul (k := 25) (bn27 c3 (by simp)) (bn31 i0 (by simp)) (by decide)) (iok_mul (k := 25) (bn27 c4 (by simp)) (bn31 i1 (by simp)) (by decide)) (by decide)) (iok_mul (k := 25) (bn27 c5 (by simp)) (bn31 i2 (by simp)) (by decide)) (by decide)) (.cons (iok_add (k := 27) (iok_add (k := 26) (iok_mul (k := 25) (bn27 c6 (by simp)) (bn31 i0 (by simp)) (by decide)) (iok_mul (k := 25) (bn27 c7 (by simp)) (bn31 i1 (by simp)) (by decide)) (by decide)) (iok_mul (k := 25) (bn27 c8 (by simp)) (bn31 i2 (by simp)) (by decide)) (by decide)) .nil))) hap3
  refine kd [(93, (vb false))] [] mo (wR (oLa sh32) <| wE (oFr fo25_0) <| wR (oLa sh23) <| wE (oCl (l_pix x3 y3 (by omega) (by omega) i0 i1 i2 hi)) <| wE (oCl (l_apply y7 c0 c1 c2 c3 c4 c5 c6 c7 c8 (iok_up (bn27 c0 (by simp)) (by decide)) (iok_up (bn27 c1 (by simp)) (by decide)) (iok_up (bn27 c2 (by simp)) (by decide)) (iok_up (bn27 c3 (by simp)) (by decide)) (iok_up (bn27 c4 (by simp)) (by decide)) (iok_up (bn27 c5 (by simp)) (by decide)) (iok_up (bn27 c6 (by simp)) (by decide)) (iok_up (bn27 c7 (by simp)) (by decide)) (iok_up (bn27 c8 (by simp)) (by decide)) (A3.mk (ofZ i0) (ofZ i1) (ofZ i2)) i0 i1 i2 (iok_up (bn31 i0 (by simp)) (by decide)) (iok_up (bn31 i1 (by simp)) (by decide)) (iok_up (bn31 i2 (by simp)) (by decide)) t0 t1 t2 hap3 han3)) <| wE (oFr fo25_1) <| wR (oLa sh23) <| wE (oCl (l_pix u3 v3 (by omega) (by omega) t0 t1 t2 ht)) <| wE (oCl (l_sameT3 (A3.mk (ofZ t0) (ofZ t1) (ofZ t2)) t0 t1 t2 (iok_up (bn42 t0 (by simp)) (by decide)) (iok_up (bn42 t1 (by simp)) (by decide)) (iok_up (bn42 t2 (by simp)) (by decide)) (A3.mk (ofZ t0) (ofZ t1) (ofZ t2)) t0 t1 t2 (iok_up (bn35 t0 (by simp)) (by decide)) (iok_up (bn35 t1 (by simp)) (by decide)) (iok_up (bn35 t2 (by simp)) (by decide)) (validI_ofZ _) (validI_ofZ _) (validI_ofZ _) (sameI_self _) (sameI_self _) (sameI_self _))) <| wE oNt <| wZ) ?_
  refine pwp_cond (b := false) (by kernel_rfl) (fun h => by cases h) (fun _ => ?_)
  refine pwp_skip <| kx [(81, (vin 4))] [] (zE (oAd 4 (hr := by decide)) <| zM <| zZ) ?_
  refine pwp_again (SimImp.refl _) ?_
  refine pwp_seq <| kx [(82, (vb false))] [] (zE (oBk false oLt) <| zZ) ?_
  refine pwp_seq <| pwp_cond (b := false) (by kernel_rfl) (fun h => by cases h) (fun _ => ?_)
  refine pwp_exit <| pwp_seq <| kx [(2, (vb true))] [] (zM <| zZ) ?_
  refine pwp_ret ⟨_, (.tmp (d := (.val (.bool (true)))) rfl .nil), ?_⟩
  rfl
end Go.Proofs.YtadkkhdnccljcaaGreat
