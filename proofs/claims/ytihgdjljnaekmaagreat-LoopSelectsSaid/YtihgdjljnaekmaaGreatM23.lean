/- Part 23 of a proof: rules, plain facts, and functions walked. -/
import Derived.Test.YtihgdjljnaekmaaGreatM22
import Derived.Test.YtihgdjljnaekmaaGreatM11
import Derived.Test.YtihgdjljnaekmaaGreatM12
import Derived.Test.YtihgdjljnaekmaaGreatM13
import Derived.Test.YtihgdjljnaekmaaGreatM10
import Derived.Test.YtihgdjljnaekmaaGreatM21
namespace Go.Proofs.YtihgdjljnaekmaaGreat
open Go.Fid
set_option maxRecDepth 4000
set_option linter.unusedVariables false
set_option linter.unusedSimpArgs false
theorem ar146 : arrB Tryz.prog 146 = some (4, 3, 1) := by kernel_rfl
theorem cb37 : callB Tryz.prog 37 = true := by kernel_rfl
theorem cb60 : callB Tryz.prog 60 = true := by kernel_rfl
theorem cb88 : callB Tryz.prog 88 = true := by kernel_rfl
theorem cb103 : callB Tryz.prog 103 = true := by kernel_rfl
theorem el60 : elemB Tryz.prog 60 = some (3, 1) := by kernel_rfl
theorem eqs28 : eqsB Tryz.prog 28 = some 4 := by kernel_rfl
theorem fo28_0 : fieldB Tryz.prog 28 0 = some 0 := by kernel_rfl
theorem fo28_1 : fieldB Tryz.prog 28 1 = some 1 := by kernel_rfl
theorem fo28_2 : fieldB Tryz.prog 28 2 = some 2 := by kernel_rfl
theorem fo28_3 : fieldB Tryz.prog 28 3 = some 3 := by kernel_rfl
theorem pl28 : placesB Tryz.prog 28 = some [(0, 1), (1, 1), (2, 1), (3, 1)] := by kernel_rfl
theorem sh28 : shapeB Tryz.prog 28 = some (true, 4) := by kernel_rfl
theorem sh146 : shapeB Tryz.prog 146 = some (true, 4) := by kernel_rfl
theorem ze28 : zeroB Tryz.prog 28 = some [.int .i64 0, .int .i64 0, .int .i64 0, .int .i64 0] := by kernel_rfl
theorem ze146 : zeroB Tryz.prog 146 = some [.int .i64 0, .int .i64 0, .int .i64 0, .int .i64 0] := by kernel_rfl
theorem zo28 : ZOk [.int .i64 0, .int .i64 0, .int .i64 0, .int .i64 0] [.val (.int .i64 0), .val (.int .i64 0), .val (.int .i64 0), .val (.int .i64 0)] := by simp [ZOk, Value.oneCell']
theorem zo146 : ZOk [.int .i64 0, .int .i64 0, .int .i64 0, .int .i64 0] [.val (.int .i64 0), .val (.int .i64 0), .val (.int .i64 0), .val (.int .i64 0)] := by simp [ZOk, Value.oneCell']
theorem q_parts (a b c d : Int) : Takes Tryz.prog 103 [(encQuat (RQuat.mk a b c d))] (encA146 (A4.mk a b c d)) := by
  refine fn_intro Tryz.func103 rfl cb103 rfl ?_
  show PWp _ _ _ _ ⟨[(0, (.d (encQuat (RQuat.mk a b c d))))], []⟩
  refine pwp_seq <| kx [(1, (.ref 0 0)), (2, (.ref 1 0))] [(0, some (bx (encQuat (RQuat.mk a b c d)))), (1, some (bx (encA146 (A4.mk 0 0 0 0))))] (zN (oBx 0) <| zN (oAl 1 ze146 zo146) <| zZ) ?_
  refine pwp_seq <| kx [] [(1, some (bx (encA146 (A4.mk a b c d))))] (zE (oFr fo28_0) <| zR (oL1 sh3) <| zE (oFr fo28_1) <| zR (oL1 sh3) <| zE (oFr fo28_2) <| zR (oL1 sh3) <| zE (oFr fo28_3) <| zR (oL1 sh3) <| zE (oBf ar146 ze146 zo146) <| zT (oSt sh146) <| zZ) ?_
  refine pwp_ret ⟨_, (res_a (cs := (bx (encA146 (A4.mk a b c d)))) (d := (encA146 (A4.mk a b c d))) rfl rfl sh146 rfl rfl .nil), ?_⟩
  rfl
theorem qs_list (a b c d : Int) : Takes Tryz.prog 88 [(encQuat (RQuat.mk a b c d))] (.sl 3 1 (List.map enc_i64 [a, b, c, d])) := by
  refine fn_intro Tryz.func88 rfl cb88 rfl ?_
  show PWp _ _ _ _ ⟨[(0, (.d (encQuat (RQuat.mk a b c d))))], []⟩
  refine pwp_seq <| kx [(1, (.ref 0 0))] [(0, some (bx (encQuat (RQuat.mk a b c d))))] (zN (oBx 0) <| zE (oNl 3 1) <| zZ) ?_
  refine pwp_seq <| kx [(2, (vl 3 1 enc_i64 [a, b, c, d]))] [] (zE (oFr fo28_0) <| zR (oL1 sh3) <| zE (oFr fo28_1) <| zR (oL1 sh3) <| zE (oFr fo28_2) <| zR (oL1 sh3) <| zE (oFr fo28_3) <| zR (oL1 sh3) <| zE (oBs el60 ze3 zo3) <| zM <| zZ) ?_
  refine pwp_ret ⟨_, (.tmp (d := (.sl 3 1 (List.map enc_i64 [a, b, c, d]))) rfl .nil), ?_⟩
  rfl
theorem q_chk (a b c d : Int) : Takes Tryz.prog 60 [(encQuat (RQuat.mk a b c d))] (.val (.int .i64 ((((rotC a b c d) : Nat) : Int)))) := by
  refine fn_intro Tryz.func60 rfl cb60 rfl ?_
  show PWp _ _ _ _ ⟨[(0, (.d (encQuat (RQuat.mk a b c d))))], []⟩
  refine pwp_seq <| kx [(1, (.ref 0 0))] [(0, some (bx (encQuat (RQuat.mk a b c d))))] (zN (oBx 0) <| zM <| zZ) ?_
  refine pwp_seq <| pwp_seq <| kx [(7, (vb (decide ([a, b, c, d] = [0, 0, 0, 0]))))] [] (zR (oLa sh28) <| zE (oBd pl28 ze28 zo28) <| zE (oEs eqs28 .i64 [a, b, c, d] [0, 0, 0, 0]) <| zZ) ?_
  refine pwp_cond (b := (decide ([a, b, c, d] = [0, 0, 0, 0]))) rfl (fun h1 => ?_) (fun h1 => ?_)
  · replace h1 := of_decide_eq_true h1
    refine pwp_seq <| kx [(2, (vin 1))] [] (zM <| zZ) ?_
    refine pwp_ret ⟨_, (.tmp (d := (.val (.int .i64 (((1 : Nat) : Int))))) rfl .nil), ?_⟩
    rw [rotC_z (by simp_all)]; rfl
  · replace h1 := of_decide_eq_false h1
    refine pwp_skip <| pwp_seq <| pwp_seq <| kx [(9, (.d (encA146 (A4.mk a b c d)))), (10, (vin 0))] [] (zR (oLa sh28) <| zE (oCl (q_parts a b c d)) <| zM <| zZ) ?_
    refine pwp_block <| pwp_rounds 20 ?_
    refine pwp_round <| pwp_seq <| kx [(11, (vb true))] [] (zE (oBk true oLt) <| zZ) ?_
    refine pwp_seq <| pwp_cond (b := true) (by kernel_rfl) (fun _ => ?_) (fun h => by cases h)
    refine pwp_skip <| pwp_seq <| pwp_block <| pwp_seq <| kx [(4, (vi a))] [] (zE (oXa ar146 sh3 (fun _ => rfl) 0) <| zM <| zZ) ?_
    refine pwp_seq <| kx [(18, (vb (decide (a < -1048576) || decide (((1048576 : Nat) : Int) < a))))] [] ?_ ?_
    · refine zM <| zE oLt <| zE (oV (vb (decide (a < -1048576))) (mv_ok (by kernel_rfl))) <| ?_
      rcases hb2 : (decide (a < -1048576)) with _ | _
      · replace hb2 := of_decide_eq_false hb2
        exact zM <| zE oGt <| zE oPo <| zZ
      · replace hb2 := of_decide_eq_true hb2
        exact zK <| zK <| zE oPt <| zZ
    refine pwp_cond rfl (fun h3 => ?_) (fun h3 => ?_)
    · refine pwp_seq <| kx [(2, (vin 3))] [] (zM <| zZ) ?_
      refine pwp_ret ⟨_, (.tmp (d := (.val (.int .i64 (((3 : Nat) : Int))))) rfl .nil), ?_⟩
      first | (rw [rotC_l (by simp_all) (by first | (simp_all; done) | (simp_all; omega))]; rfl) | (rw [rotC_0 (by simp_all) (by first | (simp_all; done) | (simp_all; omega))]; rfl)
    · refine pwp_skip <| kx [(10, (vin 1))] [] (zE (oAd 1 (hr := by decide)) <| zM <| zZ) ?_
      refine pwp_again (SimImp.refl _) ?_
      refine pwp_seq <| kx [(11, (vb true))] [] (zE (oBk true oLt) <| zZ) ?_
      refine pwp_seq <| pwp_cond (b := true) (by kernel_rfl) (fun _ => ?_) (fun h => by cases h)
      refine pwp_skip <| pwp_seq <| pwp_block <| pwp_seq <| kx [(4, (vi b))] [] (zE (oXa ar146 sh3 (fun _ => rfl) 1) <| zM <| zZ) ?_
      refine pwp_seq <| kx [(18, (vb (decide (b < -1048576) || decide (((1048576 : Nat) : Int) < b))))] [] ?_ ?_
      · refine zM <| zE oLt <| zE (oV (vb (decide (b < -1048576))) (mv_ok (by kernel_rfl))) <| ?_
        rcases hb4 : (decide (b < -1048576)) with _ | _
        · replace hb4 := of_decide_eq_false hb4
          exact zM <| zE oGt <| zE oPo <| zZ
        · replace hb4 := of_decide_eq_true hb4
          exact zK <| zK <| zE oPt <| zZ
      refine pwp_cond rfl (fun h5 => ?_) (fun h5 => ?_)
      · refine pwp_seq <| kx [(2, (vin 3))] [] (zM <| zZ) ?_
        refine pwp_ret ⟨_, (.tmp (d := (.val (.int .i64 (((3 : Nat) : Int))))) rfl .nil), ?_⟩
        first | (rw [rotC_l (by simp_all) (by first | (simp_all; done) | (simp_all; omega))]; rfl) | (rw [rotC_0 (by simp_all) (by first | (simp_all; done) | (simp_all; omega))]; rfl)
      · refine pwp_skip <| kx [(10, (vin 2))] [] (zE (oAd 2 (hr := by decide)) <| zM <| zZ) ?_
        refine pwp_again (SimImp.refl _) ?_
        refine pwp_seq <| kx [(11, (vb true))] [] (zE (oBk true oLt) <| zZ) ?_
        refine pwp_seq <| pwp_cond (b := true) (by kernel_rfl) (fun _ => ?_) (fun h => by cases h)
        refine pwp_skip <| pwp_seq <| pwp_block <| pwp_seq <| kx [(4, (vi c))] [] (zE (oXa ar146 sh3 (fun _ => rfl) 2) <| zM <| zZ) ?_
        refine pwp_seq <| kx [(18, (vb (decide (c < -1048576) || decide (((1048576 : Nat) : Int) < c))))] [] ?_ ?_
        · refine zM <| zE oLt <| zE (oV (vb (decide (c < -1048576))) (mv_ok (by kernel_rfl))) <| ?_
          rcases hb6 : (decide (c < -1048576)) with _ | _
          · replace hb6 := of_decide_eq_false hb6
            exact zM <| zE oGt <| zE oPo <| zZ
          · replace hb6 := of_decide_eq_true hb6
            exact zK <| zK <| zE oPt <| zZ
        refine pwp_cond rfl (fun h7 => ?_) (fun h7 => ?_)
        · refine pwp_seq <| pwp_sim (wk (l := [(9, (.d (encA146 (A4.mk a b c d)))), (10, (vin 2)), (18, (vb (decide (c < -1048576) || decide (((1048576 : Nat) : Int) < c))))]) (b := [])) ?_
          refine kx [(2, (vin 3))] [] (zM <| zZ) ?_
          refine pwp_ret ⟨_, (.tmp (d := (.val (.int .i64 (((3 : Nat) : Int))))) rfl .nil), ?_⟩
          first | (rw [rotC_l (by simp_all) (by first | (simp_all; done) | (simp_all; omega))]; rfl) | (rw [rotC_0 (by simp_all) (by first | (simp_all; done) | (simp_all; omega))]; rfl)
        · refine pwp_skip <| pwp_sim (wk (l := [(9, (.d (encA146 (A4.mk a b c d)))), (10, (vin 2)), (18, (vb (decide (c < -1048576) || decide (((1048576 : Nat) : Int) < c))))]) (b := [])) ?_
          refine kx [(10, (vin 3))] [] (zE (oAd 3 (hr := by decide)) <| zM <| zZ) ?_
          refine pwp_again (SimImp.refl _) ?_
          refine pwp_seq <| kx [(11, (vb true))] [] (zE (oBk true oLt) <| zZ) ?_
          refine pwp_seq <| pwp_cond (b := true) (by kernel_rfl) (fun _ => ?_) (fun h => by cases h)
          refine pwp_skip <| pwp_seq <| pwp_block <| pwp_seq <| kx [(4, (vi d))] [] (zE (oXa ar146 sh3 (fun _ => rfl) 3) <| zM <| zZ) ?_
          refine pwp_seq <| kx [(18, (vb (decide (d < -1048576) || decide (((1048576 : Nat) : Int) < d))))] [] ?_ ?_
          · refine zM <| zE oLt <| zE (oV (vb (decide (d < -1048576))) (mv_ok (by kernel_rfl))) <| ?_
            rcases hb8 : (decide (d < -1048576)) with _ | _
            · replace hb8 := of_decide_eq_false hb8
              exact zM <| zE oGt <| zE oPo <| zZ
            · replace hb8 := of_decide_eq_true hb8
              exact zK <| zK <| zE oPt <| zZ
          refine pwp_cond rfl (fun h9 => ?_) (fun h9 => ?_)
          · refine pwp_seq <| kx [(2, (vin 3))] [] (zM <| zZ) ?_
            refine pwp_ret ⟨_, (.tmp (d := (.val (.int .i64 (((3 : Nat) : Int))))) rfl .nil), ?_⟩
            first | (rw [rotC_l (by simp_all) (by first | (simp_all; done) | (simp_all; omega))]; rfl) | (rw [rotC_0 (by simp_all) (by first | (simp_all; done) | (simp_all; omega))]; rfl)
          · refine pwp_skip <| kx [(10, (vin 4))] [] (zE (oAd 4 (hr := by decide)) <| zM <| zZ) ?_
            refine pwp_again (SimImp.refl _) ?_
            refine pwp_seq <| kx [(11, (vb false))] [] (zE (oBk false oLt) <| zZ) ?_
            refine pwp_seq <| pwp_cond (b := false) (by kernel_rfl) (fun h => by cases h) (fun _ => ?_)
            refine pwp_exit <| pwp_seq <| kx [(2, (vin 0))] [] (zM <| zZ) ?_
            refine pwp_ret ⟨_, (.tmp (d := (.val (.int .i64 (((0 : Nat) : Int))))) rfl .nil), ?_⟩
            first | (rw [rotC_l (by simp_all) (by first | (simp_all; done) | (simp_all; omega))]; rfl) | (rw [rotC_0 (by simp_all) (by first | (simp_all; done) | (simp_all; omega))]; rfl)
theorem qs_chk (a b c d : Int) : Takes Tryz.prog 37 [(encQuat (RQuat.mk a b c d))] (.val (.int .i64 ((((rotC a b c d) : Nat) : Int)))) := by
  refine fn_intro Tryz.func37 rfl cb37 rfl ?_
  show PWp _ _ _ _ ⟨[(0, (.d (encQuat (RQuat.mk a b c d))))], []⟩
  refine pwp_seq <| kx [(1, (.ref 0 0))] [(0, some (bx (encQuat (RQuat.mk a b c d))))] (zN (oBx 0) <| zM <| zZ) ?_
  refine pwp_seq <| pwp_seq <| kx [(22, (vb ((((a == ((0 : Nat) : Int)) && (b == ((0 : Nat) : Int))) && (c == ((0 : Nat) : Int))) && (d == ((0 : Nat) : Int)))))] [] ?_ ?_
  · refine zE (oFr fo28_0) <| zR (oL1 sh3) <| zE oEq <| zE (oV (vb (a == ((0 : Nat) : Int))) (mv_ok (by kernel_rfl))) <| ?_
    rcases hb1 : (a == ((0 : Nat) : Int)) with _ | _
    · replace hb1 := ne_of_beq_false hb1
      exact zK <| zK <| zK <| zE oPf <| zM <| zK <| zK <| zK <| zE oPf <| zM <| zK <| zK <| zK <| zE oPf <| zZ
    · replace hb1 := eq_of_beq hb1
      refine zE (oFr fo28_1) <| zR (oL1 sh3) <| zE oEq <| zE oPa <| zE (oV (vb (true && (b == ((0 : Nat) : Int)))) (mv_ok (by kernel_rfl))) <| ?_
      rcases hb2 : (true && (b == ((0 : Nat) : Int))) with _ | _
      · exact zK <| zK <| zK <| zE oPf <| zM <| zK <| zK <| zK <| zE oPf <| zZ
      · refine zE (oFr fo28_2) <| zR (oL1 sh3) <| zE oEq <| zE oPa <| zE (oV (vb (true && (c == ((0 : Nat) : Int)))) (mv_ok (by kernel_rfl))) <| ?_
        rcases hb3 : (true && (c == ((0 : Nat) : Int))) with _ | _
        · exact zK <| zK <| zK <| zE oPf <| zZ
        · exact zE (oFr fo28_3) <| zR (oL1 sh3) <| zE oEq <| zE oPa <| zZ
  refine pwp_cond rfl (fun h4 => ?_) (fun h4 => ?_)
  · refine pwp_seq <| kx [(2, (vin 1))] [] (zM <| zZ) ?_
    refine pwp_ret ⟨_, (.tmp (d := (.val (.int .i64 (((1 : Nat) : Int))))) rfl .nil), ?_⟩
    rw [rotC_z (by simp_all)]; rfl
  · refine pwp_skip <| pwp_seq <| kx [(3, (vl 3 1 enc_i64 [a, b, c, d]))] [] (zR (oLa sh28) <| zE (oCl (qs_list a b c d)) <| zM <| zZ) ?_
    refine pwp_seq <| pwp_seq <| kx [(4, (vin 0))] [] (zM <| zZ) ?_
    refine pwp_block <| pwp_rounds 20 ?_
    refine pwp_round <| pwp_seq <| pwp_seq <| kx [(26, (vb true))] [] (zM <| zE (oBk true oLt) <| zZ) ?_
    refine pwp_cond (b := true) (by kernel_rfl) (fun _ => ?_) (fun h => by cases h)
    refine pwp_skip <| pwp_seq <| pwp_block <| pwp_seq <| kx [(40, (vb (decide (((1048576 : Nat) : Int) < a) || decide (a < -1048576))))] [] ?_ ?_
    · refine zM <| zM <| zE (oXs el60 0) <| zE (oC1 sh3) <| zE oGt <| zE (oV (vb (decide (((1048576 : Nat) : Int) < a))) (mv_ok (by kernel_rfl))) <| ?_
      rcases hb5 : (decide (((1048576 : Nat) : Int) < a)) with _ | _
      · replace hb5 := of_decide_eq_false hb5
        exact zM <| zM <| zE (oXs el60 0) <| zE (oC1 sh3) <| zE oLt <| zE oPo <| zZ
      · replace hb5 := of_decide_eq_true hb5
        exact zK <| zK <| zK <| zK <| zK <| zE oPt <| zZ
    refine pwp_cond rfl (fun h6 => ?_) (fun h6 => ?_)
    · refine pwp_seq <| kx [(2, (vin 3))] [] (zM <| zZ) ?_
      refine pwp_ret ⟨_, (.tmp (d := (.val (.int .i64 (((3 : Nat) : Int))))) rfl .nil), ?_⟩
      first | (rw [rotC_l (by simp_all) (by first | (simp_all; done) | (simp_all; omega))]; rfl) | (rw [rotC_0 (by simp_all) (by first | (simp_all; done) | (simp_all; omega))]; rfl)
    · refine pwp_skip <| kx [(4, (vin 1))] [] (zM <| zE (oAd 1 (hr := by decide)) <| zM <| zZ) ?_
      refine pwp_again (SimImp.refl _) ?_
      refine pwp_seq <| pwp_seq <| kx [(26, (vb true))] [] (zM <| zE (oBk true oLt) <| zZ) ?_
      refine pwp_cond (b := true) (by kernel_rfl) (fun _ => ?_) (fun h => by cases h)
      refine pwp_skip <| pwp_seq <| pwp_block <| pwp_seq <| kx [(40, (vb (decide (((1048576 : Nat) : Int) < b) || decide (b < -1048576))))] [] ?_ ?_
      · refine zM <| zM <| zE (oXs el60 1) <| zE (oC1 sh3) <| zE oGt <| zE (oV (vb (decide (((1048576 : Nat) : Int) < b))) (mv_ok (by kernel_rfl))) <| ?_
        rcases hb7 : (decide (((1048576 : Nat) : Int) < b)) with _ | _
        · replace hb7 := of_decide_eq_false hb7
          exact zM <| zM <| zE (oXs el60 1) <| zE (oC1 sh3) <| zE oLt <| zE oPo <| zZ
        · replace hb7 := of_decide_eq_true hb7
          exact zK <| zK <| zK <| zK <| zK <| zE oPt <| zZ
      refine pwp_cond rfl (fun h8 => ?_) (fun h8 => ?_)
      · refine pwp_seq <| kx [(2, (vin 3))] [] (zM <| zZ) ?_
        refine pwp_ret ⟨_, (.tmp (d := (.val (.int .i64 (((3 : Nat) : Int))))) rfl .nil), ?_⟩
        first | (rw [rotC_l (by simp_all) (by first | (simp_all; done) | (simp_all; omega))]; rfl) | (rw [rotC_0 (by simp_all) (by first | (simp_all; done) | (simp_all; omega))]; rfl)
      · refine pwp_skip <| kx [(4, (vin 2))] [] (zM <| zE (oAd 2 (hr := by decide)) <| zM <| zZ) ?_
        refine pwp_again (SimImp.refl _) ?_
        refine pwp_seq <| pwp_seq <| kx [(26, (vb true))] [] (zM <| zE (oBk true oLt) <| zZ) ?_
        refine pwp_cond (b := true) (by kernel_rfl) (fun _ => ?_) (fun h => by cases h)
        refine pwp_skip <| pwp_seq <| pwp_block <| pwp_seq <| kx [(40, (vb (decide (((1048576 : Nat) : Int) < c) || decide (c < -1048576))))] [] ?_ ?_
        · refine zM <| zM <| zE (oXs el60 2) <| zE (oC1 sh3) <| zE oGt <| zE (oV (vb (decide (((1048576 : Nat) : Int) < c))) (mv_ok (by kernel_rfl))) <| ?_
          rcases hb9 : (decide (((1048576 : Nat) : Int) < c)) with _ | _
          · replace hb9 := of_decide_eq_false hb9
            exact zM <| zM <| zE (oXs el60 2) <| zE (oC1 sh3) <| zE oLt <| zE oPo <| zZ
          · replace hb9 := of_decide_eq_true hb9
            exact zK <| zK <| zK <| zK <| zK <| zE oPt <| zZ
        refine pwp_cond rfl (fun h10 => ?_) (fun h10 => ?_)
        · refine pwp_seq <| kx [(2, (vin 3))] [] (zM <| zZ) ?_
          refine pwp_ret ⟨_, (.tmp (d := (.val (.int .i64 (((3 : Nat) : Int))))) rfl .nil), ?_⟩
          first | (rw [rotC_l (by simp_all) (by first | (simp_all; done) | (simp_all; omega))]; rfl) | (rw [rotC_0 (by simp_all) (by first | (simp_all; done) | (simp_all; omega))]; rfl)
        · refine pwp_skip <| kx [(4, (vin 3))] [] (zM <| zE (oAd 3 (hr := by decide)) <| zM <| zZ) ?_
          refine pwp_again (SimImp.refl _) ?_
          refine pwp_seq <| pwp_seq <| kx [(26, (vb true))] [] (zM <| zE (oBk true oLt) <| zZ) ?_
          refine pwp_cond (b := true) (by kernel_rfl) (fun _ => ?_) (fun h => by cases h)
          refine pwp_skip <| pwp_seq <| pwp_block <| pwp_seq <| pwp_sim (wk (l := [(3, (vl 3 1 enc_i64 [a, b, c, d])), (4, (vin 3)), (26, (vb true))]) (b := [])) ?_
          refine kx [(40, (vb (decide (((1048576 : Nat) : Int) < d) || decide (d < -1048576))))] [] ?_ ?_
          · refine zM <| zM <| zE (oXs el60 3) <| zE (oC1 sh3) <| zE oGt <| zE (oV (vb (decide (((1048576 : Nat) : Int) < d))) (mv_ok (by kernel_rfl))) <| ?_
            rcases hb11 : (decide (((1048576 : Nat) : Int) < d)) with _ | _
            · replace hb11 := of_decide_eq_false hb11
              exact zM <| zM <| zE (oXs el60 3) <| zE (oC1 sh3) <| zE oLt <| zE oPo <| zZ
            · replace hb11 := of_decide_eq_true hb11
              exact zK <| zK <| zK <| zK <| zK <| zE oPt <| zZ
          refine pwp_cond rfl (fun h12 => ?_) (fun h12 => ?_)
          · refine pwp_seq <| kx [(2, (vin 3))] [] (zM <| zZ) ?_
            refine pwp_ret ⟨_, (.tmp (d := (.val (.int .i64 (((3 : Nat) : Int))))) rfl .nil), ?_⟩
            first | (rw [rotC_l (by simp_all) (by first | (simp_all; done) | (simp_all; omega))]; rfl) | (rw [rotC_0 (by simp_all) (by first | (simp_all; done) | (simp_all; omega))]; rfl)
          · refine pwp_skip <| kx [(4, (vin 4))] [] (zM <| zE (oAd 4 (hr := by decide)) <| zM <| zZ) ?_
            refine pwp_again (SimImp.refl _) ?_
            refine pwp_seq <| pwp_seq <| kx [(26, (vb false))] [] (zM <| zE (oBk false oLt) <| zZ) ?_
            refine pwp_cond (b := false) (by kernel_rfl) (fun h => by cases h) (fun _ => ?_)
            refine pwp_exit <| pwp_seq <| kx [(2, (vin 0))] [] (zM <| zZ) ?_
            refine pwp_ret ⟨_, (.tmp (d := (.val (.int .i64 (((0 : Nat) : Int))))) rfl .nil), ?_⟩
            first | (rw [rotC_l (by simp_all) (by first | (simp_all; done) | (simp_all; omega))]; rfl) | (rw [rotC_0 (by simp_all) (by first | (simp_all; done) | (simp_all; omega))]; rfl)
end Go.Proofs.YtihgdjljnaekmaaGreat
namespace Go.Proofs.YtihgdjljnaekmaaGreat
open Go.Fid
set_option maxRecDepth 4000
set_option linter.unusedVariables false
set_option linter.unusedSimpArgs false
theorem cb107 : callB Tryz.prog 107 = true := by kernel_rfl
theorem cb135 : callB Tryz.prog 135 = true := by kernel_rfl
theorem qr_norm (a b c d : Int) (ha : -1048576 ≤ a ∧ a ≤ 1048576) (hb : -1048576 ≤ b ∧ b ≤ 1048576) (hc : -1048576 ≤ c ∧ c ≤ 1048576) (hd : -1048576 ≤ d ∧ d ≤ 1048576) : Takes Tryz.prog 107 [(encQuat (RQuat.mk a b c d))] (.val (.int .i64 ((nq a b c d)))) := by
  have saa := sq_b ha ha
  have sab := sq_b ha hb
  have sac := sq_b ha hc
  have sad := sq_b ha hd
  have sbb := sq_b hb hb
  have sbc := sq_b hb hc
  have sbd := sq_b hb hd
  have scc := sq_b hc hc
  have scd := sq_b hc hd
  have sdd := sq_b hd hd
  refine fn_intro Tryz.func107 rfl cb107 rfl ?_
  show PWp _ _ _ _ ⟨[(0, (.d (encQuat (RQuat.mk a b c d))))], []⟩
  refine pwp_seq <| kx [(1, (.ref 0 0))] [(0, some (bx (encQuat (RQuat.mk a b c d))))] (zN (oBx 0) <| zM <| zZ) ?_
  refine pwp_seq <| kx [(2, (vi ((((a * a) + (b * b)) + (c * c)) + (d * d))))] [] (zE (oFr fo28_0) <| zR (oL1 sh3) <| zE (oFr fo28_0) <| zR (oL1 sh3) <| zE (zMl (a * a) (hr := by exact (wAny rfl (by simp only [kLo]; omega) (by simp only [kHi]; omega)))) <| zE (oFr fo28_1) <| zR (oL1 sh3) <| zE (oFr fo28_1) <| zR (oL1 sh3) <| zE (zMl (b * b) (hr := by exact (wAny rfl (by simp only [kLo]; omega) (by simp only [kHi]; omega)))) <| zE (zAd ((a * a) + (b * b)) (hr := by exact (wAny rfl (by simp only [kLo]; omega) (by simp only [kHi]; omega)))) <| zE (oFr fo28_2) <| zR (oL1 sh3) <| zE (oFr fo28_2) <| zR (oL1 sh3) <| zE (zMl (c * c) (hr := by exact (wAny rfl (by simp only [kLo]; omega) (by simp only [kHi]; omega)))) <| zE (zAd (((a * a) + (b * b)) + (c * c)) (hr := by exact (wAny rfl (by simp only [kLo]; omega) (by simp only [kHi]; omega)))) <| zE (oFr fo28_3) <| zR (oL1 sh3) <| zE (oFr fo28_3) <| zR (oL1 sh3) <| zE (zMl (d * d) (hr := by exact (wAny rfl (by simp only [kLo]; omega) (by simp only [kHi]; omega)))) <| zE (zAd ((((a * a) + (b * b)) + (c * c)) + (d * d)) (hr := by exact (wAny rfl (by simp only [kLo]; omega) (by simp only [kHi]; omega)))) <| zM <| zZ) ?_
  refine pwp_ret ⟨_, (.tmp (d := (.val (.int .i64 (((((a * a) + (b * b)) + (c * c)) + (d * d)))))) rfl .nil), ?_⟩
  rfl
theorem q8_norm (a b c d : Int) (ha : -1048576 ≤ a ∧ a ≤ 1048576) (hb : -1048576 ≤ b ∧ b ≤ 1048576) (hc : -1048576 ≤ c ∧ c ≤ 1048576) (hd : -1048576 ≤ d ∧ d ≤ 1048576) : Takes Tryz.prog 135 [(encQuat (RQuat.mk a b c d))] (.val (.int .i64 ((nq a b c d)))) := by
  have saa := sq_b ha ha
  have sab := sq_b ha hb
  have sac := sq_b ha hc
  have sad := sq_b ha hd
  have sbb := sq_b hb hb
  have sbc := sq_b hb hc
  have sbd := sq_b hb hd
  have scc := sq_b hc hc
  have scd := sq_b hc hd
  have sdd := sq_b hd hd
  refine fn_intro Tryz.func135 rfl cb135 rfl ?_
  show PWp _ _ _ _ ⟨[(0, (.d (encQuat (RQuat.mk a b c d))))], []⟩
  refine pwp_seq <| kx [(1, (.ref 0 0))] [(0, some (bx (encQuat (RQuat.mk a b c d))))] (zN (oBx 0) <| zM <| zZ) ?_
  refine pwp_seq <| kx [(2, (vi ((((a * a) + (b * b)) + (c * c)) + (d * d))))] [] (zE (oFr fo28_0) <| zR (oL1 sh3) <| zE (oFr fo28_0) <| zR (oL1 sh3) <| zE (zMl (a * a) (hr := by exact (wAny rfl (by simp only [kLo]; omega) (by simp only [kHi]; omega)))) <| zE (oFr fo28_1) <| zR (oL1 sh3) <| zE (oFr fo28_1) <| zR (oL1 sh3) <| zE (zMl (b * b) (hr := by exact (wAny rfl (by simp only [kLo]; omega) (by simp only [kHi]; omega)))) <| zE (zAd ((a * a) + (b * b)) (hr := by exact (wAny rfl (by simp only [kLo]; omega) (by simp only [kHi]; omega)))) <| zE (oFr fo28_2) <| zR (oL1 sh3) <| zE (oFr fo28_2) <| zR (oL1 sh3) <| zE (zMl (c * c) (hr := by exact (wAny rfl (by simp only [kLo]; omega) (by simp only [kHi]; omega)))) <| zE (zAd (((a * a) + (b * b)) + (c * c)) (hr := by exact (wAny rfl (by simp only [kLo]; omega) (by simp only [kHi]; omega)))) <| zE (oFr fo28_3) <| zR (oL1 sh3) <| zE (oFr fo28_3) <| zR (oL1 sh3) <| zE (zMl (d * d) (hr := by exact (wAny rfl (by simp only [kLo]; omega) (by simp only [kHi]; omega)))) <| zE (zAd ((((a * a) + (b * b)) + (c * c)) + (d * d)) (hr := by exact (wAny rfl (by simp only [kLo]; omega) (by simp only [kHi]; omega)))) <| zM <| zZ) ?_
  refine pwp_ret ⟨_, (.tmp (d := (.val (.int .i64 (((((a * a) + (b * b)) + (c * c)) + (d * d)))))) rfl .nil), ?_⟩
  rfl
end Go.Proofs.YtihgdjljnaekmaaGreat
set_option linter.unusedVariables false
set_option linter.unusedSimpArgs false
namespace Go.Fid
variable {P : Program} {o : Oper} {S : Nat → SV}
end Go.Fid
set_option linter.unusedVariables false
set_option linter.unusedSimpArgs false
namespace Go.Fid
open Go.RowKit (Below)
section
variable {P : Program} {o : Oper} {st : PS}
end
section
variable {P : Program} {o : Oper} {S : Nat → SV}
end
end Go.Fid
set_option linter.unusedVariables false
set_option linter.unusedSimpArgs false
namespace Go.Fid
open Go.RowKit (Below)
section
variable {P : Program} {o : Oper} {S : SL}
end
end Go.Fid
set_option linter.unusedVariables false
set_option linter.unusedSimpArgs false
namespace Go.Fid
section
variable {P : Program} {n : Fr} {ops : Array Oper} {K : SL → BS → Prop} {S : SL} {B : BS} {l : List Oper} {o : Oper} {α : Type} {T E t' : TypeId} {x y : Operand} {k s m bytes : Nat} {zv : List Value}
variable {news : List Nat} {acc0 : List (List Nat × List Nat)}
end
end Go.Fid
set_option linter.unusedVariables false
set_option linter.unusedSimpArgs false
namespace Go.Fid
end Go.Fid
set_option linter.unusedVariables false
set_option linter.unusedSimpArgs false
namespace Go.Fid
open Go.RowKit (Below)
section
variable {P : Program}
end
section
variable {P : Program} {o : Oper} {S : Nat → SV}
end
section
variable {P : Program}
end
end Go.Fid
set_option linter.unusedVariables false
set_option linter.unusedSimpArgs false
namespace Go.Fid
open Go.RowKit (Below)
section
variable {P : Program} {o : Oper} {S : Nat → SV}
end
end Go.Fid
namespace Go.Proofs.YtihgdjljnaekmaaGreat
open Go.Fid
set_option maxRecDepth 4000
set_option linter.unusedVariables false
set_option linter.unusedSimpArgs false
theorem cb27 : callB Tryz.prog 27 = true := by kernel_rfl
theorem p_eq (l : List Int) (m : List Int) (hb : l.length ≤ 1000000) : Takes Tryz.prog 27 [(.sl 3 1 (List.map enc_i64 l)), (.sl 3 1 (List.map enc_i64 m))] (.val (.bool ((l == m)))) := by
  refine fn_intro Tryz.func27 rfl cb27 rfl ?_
  show PWp _ _ _ _ ⟨[(0, (vl 3 1 enc_i64 l)), (1, (vl 3 1 enc_i64 m))], []⟩
  refine pwp_seq <| kx [] [] (zM <| zZ) ?_
  refine pwp_seq <| pwp_seq <| kx [(10, (vb (((l.length : Nat) : Int) != ((m.length : Nat) : Int))))] [] (zM <| zE (oLm el60) <| zM <| zE (oLm el60) <| zE oNe <| zZ) ?_
  refine pwp_cond rfl (fun h1 => ?_) (fun h1 => ?_)
  · replace h1 := bne_iff_ne.1 h1
    refine pwp_seq <| kx [(4, (vb false))] [] (zM <| zZ) ?_
    refine pwp_ret ⟨_, (.tmp (d := (.val (.bool (false)))) rfl .nil), ?_⟩
    rw [py_eq_len h1]; rfl
  · replace h1 := bne_eq_false_iff_eq.1 h1
    have hlm : l.length = m.length := by omega
    refine pwp_skip <| pwp_seq <| pwp_seq <| kx [(12, (vin l.length)), (13, (vin 0))] [] (zM <| zE (oLm el60) <| zM <| zZ) ?_
    refine pwp_block <| pwp_loop (α := Nat) (fun k => ⟨[(0, (vl 3 1 enc_i64 l)), (1, (vl 3 1 enc_i64 m)), (12, (vin l.length)), (13, (vin k))], []⟩) (fun k => k ≤ l.length ∧ l.take k = m.take k) (fun k => l.length - k) 0 wk ⟨Nat.zero_le _, rfl⟩ ?_
    rintro k ⟨hk, hv⟩
    refine pwp_seq <| kx [(14, (vb (decide (((k : Nat) : Int) < ((l.length : Nat) : Int)))))] [] (zE oLt <| zZ) ?_
    refine pwp_seq <| pwp_cond rfl (fun h2 => ?_) (fun h2 => ?_)
    · replace h2 := of_decide_eq_true h2
      refine pwp_skip <| pwp_seq <| pwp_block <| pwp_seq <| kx [(5, (vin k))] [] (zM <| zM <| zZ) ?_
      refine pwp_seq <| kd [(24, (vb ((l.getD k 0) != (m.getD k 0))))] [] mo (wM <| wM <| wE (oXl el60 k (0 : Int)) <| wE (oC1 sh3) <| wM <| wM <| wE (oXl el60 k (0 : Int)) <| wE (oC1 sh3) <| wE oNe <| wZ) ?_
      refine pwp_cond (b := ((l.getD k 0) != (m.getD k 0))) rfl (fun h3 => ?_) (fun h3 => ?_)
      · replace h3 := bne_iff_ne.1 h3
        refine pwp_seq <| kx [(4, (vb false))] [] (zM <| zZ) ?_
        refine pwp_ret ⟨_, (.tmp (d := (.val (.bool (false)))) rfl .nil), ?_⟩
        rw [py_eq_at h3]; rfl
      · replace h3 := bne_eq_false_iff_eq.1 h3
        refine pwp_skip <| kx [(13, (vin (k + 1)))] [] (zE (oAd (k + 1)) <| zM <| zZ) ?_
        exact ⟨(k + 1), wk, ⟨by omega, py_eq_step hv (by omega) hlm h3⟩, (by omega)⟩
    · replace h2 := of_decide_eq_false h2
      refine pwp_exit <| pwp_seq <| kx [(4, (vb true))] [] (zM <| zZ) ?_
      refine pwp_ret ⟨_, (.tmp (d := (.val (.bool (true)))) rfl .nil), ?_⟩
      rw [py_eq_end hv (by omega) hlm]; rfl
end Go.Proofs.YtihgdjljnaekmaaGreat
set_option linter.unusedVariables false
set_option linter.unusedSimpArgs false
namespace Go.Fid
theorem ne_len {T : List (List Int)} (h : 0 < T.length) : T ≠ [] := fun e => by rw [e] at h; exact absurd h (by decide)
theorem rect_lo {w : Nat} {T : List (List Int)} (h : Rect w T) : Rect ((w + 1) / 2) (T.map loS) := fun r hr => by
  obtain ⟨q, hq, rfl⟩ := List.mem_map.1 hr; rw [loS_len, h q hq]
end Go.Fid
set_option linter.unusedVariables false
set_option linter.unusedSimpArgs false
namespace Go.Fid
end Go.Fid
set_option linter.unusedVariables false
set_option linter.unusedSimpArgs false
namespace Go.Fid
inductive R2 {α β : Type} (R : α → β → Prop) : List α → List β → Prop where
  | nil : R2 R [] []
  | cons {a : α} {b : β} {l : List α} {m : List β} : R a b → R2 R l m → R2 R (a :: l) (b :: m)
theorem R2.length {α β : Type} {R : α → β → Prop} {l : List α} {m : List β} (h : R2 R l m) : l.length = m.length := by
  induction h with
  | nil => rfl
  | cons _ _ ih => simp [ih]
theorem R2.get {α β : Type} {R : α → β → Prop} {l : List α} {m : List β} (h : R2 R l m) (d : α) (e : β) : ∀ i, i < l.length → R (l.getD i d) (m.getD i e) := by
  induction h with
  | nil => intro i hi; exact absurd hi (Nat.not_lt_zero _)
  | cons h1 _ ih =>
    intro i hi
    cases i with
    | zero => exact h1
    | succ i => simpa using ih i (by simpa using hi)
theorem R2.of {α β : Type} {R : α → β → Prop} (d : α) (e : β) : ∀ {l : List α} {m : List β}, l.length = m.length → (∀ i, i < l.length → R (l.getD i d) (m.getD i e)) → R2 R l m
  | [], [], _, _ => .nil
  | [], _ :: _, h, _ => by simp at h
  | _ :: _, [], h, _ => by simp at h
  | a :: l, b :: m, h, k => .cons (k 0 (by simp)) (R2.of d e (by simpa using h) fun i hi => by simpa using k (i + 1) (by simpa using hi))
theorem R2.map {α β γ δ : Type} {R : α → β → Prop} {S : γ → δ → Prop} {f : α → γ} {g : β → δ} {l : List α} {m : List β} (h : R2 R l m) (hf : ∀ a b, R a b → S (f a) (g b)) : R2 S (l.map f) (m.map g) := by
  induction h with
  | nil => exact .nil
  | cons h1 _ ih => exact .cons (hf _ _ h1) ih
theorem R2.same {α γ δ : Type} {S : γ → δ → Prop} {f : α → γ} {g : α → δ} (l : List α) (h : ∀ a ∈ l, S (f a) (g a)) : R2 S (l.map f) (l.map g) := by
  induction l with
  | nil => exact .nil
  | cons a l ih => exact .cons (h a (.head _)) (ih fun b hb => h b (.tail _ hb))
theorem R2.app {α β : Type} {R : α → β → Prop} {l l' : List α} {m m' : List β} (h : R2 R l m) (h' : R2 R l' m') : R2 R (l ++ l') (m ++ m') := by
  induction h with
  | nil => exact h'
  | cons h1 _ ih => exact .cons h1 ih
theorem R2.flat {α β : Type} {R : α → β → Prop} {T : List (List α)} {U : List (List β)} (h : R2 (R2 R) T U) : R2 R T.flatten U.flatten := by
  induction h with
  | nil => exact .nil
  | cons h1 _ ih => exact h1.app ih
theorem R2.take {α β : Type} {R : α → β → Prop} {l : List α} {m : List β} (h : R2 R l m) : ∀ n, R2 R (l.take n) (m.take n) := by
  induction h with
  | nil => intro n; simp; exact .nil
  | cons h1 _ ih =>
    intro n
    cases n with
    | zero => exact .nil
    | succ n => exact .cons h1 (ih n)
theorem R2.drop {α β : Type} {R : α → β → Prop} {l : List α} {m : List β} (h : R2 R l m) : ∀ n, R2 R (l.drop n) (m.drop n) := by
  induction h with
  | nil => intro n; simp; exact .nil
  | cons h1 h2 ih =>
    intro n
    cases n with
    | zero => exact .cons h1 h2
    | succ n => exact ih n
theorem R2.rows {R : Int → Int → Prop} {l m : List Int} (h : R2 R l m) (w n : Nat) : R2 (R2 R) (rowsOf w n l) (rowsOf w n m) := R2.same _ fun y _ => (h.drop _).take _
theorem R2.lo {R : Int → Int → Prop} (hR : ∀ a b c d, R a b → R c d → R ((a + c).fdiv 2) ((b + d).fdiv 2)) : ∀ {l m : List Int}, R2 R l m → R2 R (loS l) (loS m)
  | [], _, .nil => .nil
  | [_], _, .cons h1 .nil => .cons h1 .nil
  | _ :: _ :: _, _, .cons h1 (.cons h2 h3) => .cons (hR _ _ _ _ h1 h2) (R2.lo hR h3)
theorem R2.hi {R S : Int → Int → Prop} (hR : ∀ a b c d, R a b → R c d → S (a - c) (b - d)) : ∀ {l m : List Int}, R2 R l m → R2 S (hiS l) (hiS m)
  | [], _, .nil => .nil
  | [_], _, .cons h1 .nil => .nil
  | _ :: _ :: _, _, .cons h1 (.cons h2 h3) => .cons (hR _ _ _ _ h1 h2) (R2.hi hR h3)
theorem R2.col {R : Int → Int → Prop} {w j : Nat} (hj : j < w) : ∀ {T U : List (List Int)}, R2 (R2 R) T U → Rect w T → R2 R (T.map fun r => r.getD j 0) (U.map fun r => r.getD j 0)
  | _, _, .nil, _ => .nil
  | _, _, .cons h1 h2, hT => .cons (h1.get 0 0 j (by rw [hT _ (.head _)]; exact hj)) (R2.col hj h2 fun r hr => hT r (.tail _ hr))
theorem R2.tr {R : Int → Int → Prop} {w : Nat} {T U : List (List Int)} (h : R2 (R2 R) T U) (hT : Rect w T) : R2 (R2 R) (Go.Fid.tr w T) (Go.Fid.tr w U) := R2.same _ fun j hj => R2.col (List.mem_range.1 hj) h hT
theorem R2.rect {R : Int → Int → Prop} {w : Nat} : ∀ {T U : List (List Int)}, R2 (R2 R) T U → Rect w T → Rect w U
  | _, _, .nil, _ => fun r hr => by simp at hr
  | _, _, .cons h1 h2, hT => fun r hr => by
    rcases List.mem_cons.1 hr with e | e
    · rw [e, ← h1.length]; exact hT _ (.head _)
    · exact R2.rect h2 (fun r hr => hT r (.tail _ hr)) r e
theorem R2.trP {R : Int → Int → Prop} {w : Nat} {T U : List (List Int)} (h : R2 (R2 R) T U) (hT : Rect w T) : R2 (R2 R) (Go.Fid.trP T) (Go.Fid.trP U) := by
  by_cases h0 : 0 < T.length
  · rw [trP_eq hT (ne_len h0), trP_eq (h.rect hT) (ne_len (by rw [← h.length]; exact h0))]
    exact h.tr hT
  · have e1 := List.eq_nil_of_length_eq_zero (show T.length = 0 by omega)
    have e2 := List.eq_nil_of_length_eq_zero (show U.length = 0 by have := h.length; omega)
    rw [e1, e2]; exact .nil
theorem trP_rect {w : Nat} {T : List (List Int)} (hT : Rect w T) : Rect T.length (Go.Fid.trP T) := by
  by_cases h0 : 0 < T.length
  · rw [trP_eq hT (ne_len h0)]; exact tr_rect _ _
  · rw [List.eq_nil_of_length_eq_zero (show T.length = 0 by omega)]
    intro r hr; simp [Go.Fid.trP, Go.Fid.tr] at hr
theorem R2.low {R : Int → Int → Prop} (hR : ∀ a b c d, R a b → R c d → R ((a + c).fdiv 2) ((b + d).fdiv 2)) {w h : Nat} {px qx : List Int} (hl : px.length = w * h) (hpq : R2 R px qx) : R2 R (bLow w h px) (bLow w h qx) := by
  have r0 := rowsOf_rect hl
  have t0 := hpq.rows w h
  have t1 := t0.map (S := R2 R) (f := loS) (g := loS) fun a b q => q.lo hR
  have r1 := rect_lo r0
  have t2 := t1.trP r1
  have r2 := trP_rect r1
  have t3 := t2.map (S := R2 R) (f := loS) (g := loS) fun a b q => q.lo hR
  have r3 := rect_lo r2
  exact (t3.trP r3).flat
end Go.Fid
set_option linter.unusedVariables false
set_option linter.unusedSimpArgs false
namespace Go.Fid
open Go.RowKit (Below)
section
variable {P : Program} {n : Fr} {ops : Array Oper} {K : SL → BS → Prop} {S S0 S1 : SL} {B B0 B1 : BS} {l : List Oper} {o : Oper} {D : SL}
theorem zOh (k E s : Nat) (r : SK P n ops K ((dO o, .own k E s 0) :: S) ((k, some []) :: B) l) (h : nilK o = true := by kernel_rfl) (g : goK n ops S o = true := by kernel_rfl) (h1 : (S.all fun p => !p.2.names k) = true := by kernel_rfl)
    (h2 : FrB k B := by repeat first | exact frb_nil _ | refine frb_map rfl ?_ | refine frb_d rfl ?_ | refine frb_cs rfl rfl ?_ | refine frb_none rfl ?_) : SK P n ops K S B (o :: l) := zO k E s r h g (freshB_of h1 h2)
end
end Go.Fid
set_option linter.unusedVariables false
set_option linter.unusedSimpArgs false
namespace Go.Fid
section
variable {P : Program} {S : SL} {B : BS} {o : Oper} {x y : Operand} {k : Nat} {T : TypeId}
end
section
variable {P : Program} {o : Oper}
theorem oQd {S : Nat → SV} {z : SV} (d d2 : Dat) (h : EOk P o S [] z) (e : d = d2) (e0 : z = .d d := by kernel_rfl) : EOk P o S [] (.d d2) := e ▸ e0 ▸ h
end
end Go.Fid
set_option linter.unusedVariables false
set_option linter.unusedSimpArgs false
namespace Go.Fid
theorem den_pos (u : Rat) : ((u.den : Nat) : Int) ≠ 0 := by have := u.den_pos; omega
end Go.Fid
namespace Go.Proofs.YtihgdjljnaekmaaGreat
open Go.Fid
set_option maxRecDepth 4000
set_option linter.unusedVariables false
set_option linter.unusedSimpArgs false
theorem cb105 : callB Tryz.prog 105 = true := by kernel_rfl
theorem cb148 : callB Tryz.prog 148 = true := by kernel_rfl
theorem f_counted (x : RInt) (a : Int) (hx : IOk x a 68719476736) : Takes Tryz.prog 148 [(encI x)] (encI (ofZ a)) := by
  refine fn_intro Tryz.func148 rfl cb148 rfl ?_
  show PWp _ _ _ _ ⟨[(0, (.d (encI x)))], []⟩
  refine pwp_seq <| kx [(1, (.ref 0 0)), (2, (.ref 1 0))] [(0, some (bx (encI x))), (1, some (bx (encI (RInt.mk false []))))] (zN (oBx 0) <| zN (oAl 1 ze49 zo49) <| zZ) ?_
  refine pwp_seq <| pwp_seq <| kx [(4, (vb (validI x)))] [] (zR (oLa sh49) <| zE (oCl (t_valid x (Nat.le_trans hx.l (by decide)))) <| zZ) ?_
  refine pwp_cond (b := (validI x)) rfl (fun h1 => ?_) (fun h1 => ?_)
  · refine pwp_seq <| kx [] [(1, some (bx (encI x)))] (zR (oLa sh49) <| zT (oSt sh49) <| zZ) ?_
    refine pwp_ret ⟨_, (res_a (cs := (bx (encI x))) (d := (encI x)) rfl rfl sh49 rfl rfl .nil), ?_⟩
    rw [← hx.v, ofZ_toZ h1]; rfl
  · refine pwp_skip <| pwp_seq <| kx [] [(1, some (bx (encI (ofZ 0))))] (zE (oCl (t_of 0 (by decide) (by decide))) <| zT (oSt sh49) <| zZ) ?_
    refine pwp_ret ⟨_, (res_a (cs := (bx (encI (ofZ 0)))) (d := (encI (ofZ 0))) rfl rfl sh49 rfl rfl .nil), ?_⟩
    rw [← hx.v, toZ_bad h1, ofZ_zero]; rfl
theorem f_newO (num : RInt) (a : Int) (hnum : IOk num a 68719476736) (den : RInt) (b : Int) (hden : IOk den b 68719476736) (hb : b ≠ 0) : Takes Tryz.prog 105 [(encI num), (encI den)] (.tup [(encR (ofQ (Rat.divInt a b))), (.val (.int .i64 (0)))]) := by
  refine fn_intro Tryz.func105 rfl cb105 rfl ?_
  show PWp _ _ _ _ ⟨[(0, (.d (encI num))), (1, (.d (encI den)))], []⟩
  refine pwp_seq <| kx [(2, (.ref 0 0)), (3, (.ref 1 0)), (4, (.ref 2 0))] [(0, some (bx (encI num))), (1, some (bx (encI den))), (2, some (bx (encR (RRat.mk (RInt.mk false []) (RInt.mk false [])))))] (zN (oBx 0) <| zN (oBx 1) <| zN (oAl 2 ze51 zo51) <| zM <| zZ) ?_
  refine pwp_seq <| kd [] [(0, some (bx (encI (ofZ a)))), (1, some (bx (encI (ofZ b))))] mo (wR (oLa sh49) <| wE (oCl (f_counted num a hnum)) <| wR (oLa sh49) <| wE (oCl (f_counted den b hden)) <| wT (oSt sh49) <| wT (oSt sh49) <| wZ) ?_
  refine pwp_seq <| pwp_seq <| kx [(12, (vb false))] [] (zR (oLa sh49) <| zE (oCl (s_sign (iok_of (IOk.ln hden)) (by decide))) <| zE (oBk false oEq (by exact beq_eq_false_iff_ne.2 (signI_ne hb))) <| zZ) ?_
  refine pwp_cond (b := false) (by kernel_rfl) (fun h => by cases h) (fun _ => ?_)
  refine pwp_skip <| pwp_seq <| kx [(5, (vin 0))] [(2, some (bx (encR (ofQ (Rat.divInt a b)))))] (zR (oLa sh49) <| zR (oLa sh49) <| zE (oCl (f_reduced (ofZ a) (ofZ b) a b (iok_of (IOk.ln hnum)) (iok_of (IOk.ln hden)) (by assumption))) <| zT (oSt sh51) <| zM <| zZ) ?_
  refine pwp_ret ⟨_, (res_a (cs := (bx (encR (ofQ (Rat.divInt a b))))) (d := (encR (ofQ (Rat.divInt a b)))) rfl rfl sh51 rfl rfl (.tmp (d := (.val (.int .i64 (0)))) rfl .nil)), ?_⟩
  rfl
theorem g_newO (num : RInt) (a : Int) (hnum : IOk num a 68719476736) (den : RInt) (b : Int) (hden : IOk den b 68719476736) (hb : b ≠ 0) : Takes Tryz.prog 122 [(encI num), (encI den)] (.tup [(encR (ofQ (Rat.divInt a b))), (.val (.int .i64 (0)))]) := by
  refine fn_intro Tryz.func122 rfl cb122 rfl ?_
  show PWp _ _ _ _ ⟨[(0, (.d (encI num))), (1, (.d (encI den)))], []⟩
  refine pwp_seq <| kx [(2, (.ref 0 0)), (3, (.ref 1 0)), (4, (.ref 2 0))] [(0, some (bx (encI num))), (1, some (bx (encI den))), (2, some (bx (encR (RRat.mk (RInt.mk false []) (RInt.mk false [])))))] (zN (oBx 0) <| zN (oBx 1) <| zN (oAl 2 ze51 zo51) <| zM <| zZ) ?_
  refine pwp_seq <| pwp_seq <| kx [(8, (vb false))] [] (zR (oLa sh49) <| zE (oCl (rs_sign hden (by decide))) <| zE (oBk false oEq (by exact beq_eq_false_iff_ne.2 (signI_ne hb))) <| zZ) ?_
  refine pwp_cond (b := false) (by kernel_rfl) (fun h => by cases h) (fun _ => ?_)
  refine pwp_skip <| pwp_seq <| kx [(5, (vin 0))] [(2, some (bx (encR (ofQ (Rat.divInt a b)))))] (zR (oLa sh49) <| zR (oLa sh49) <| zE (oCl (g_reduced num den a b hnum hden (by assumption))) <| zT (oSt sh51) <| zM <| zZ) ?_
  refine pwp_ret ⟨_, (res_a (cs := (bx (encR (ofQ (Rat.divInt a b))))) (d := (encR (ofQ (Rat.divInt a b)))) rfl rfl sh51 rfl rfl (.tmp (d := (.val (.int .i64 (0)))) rfl .nil)), ?_⟩
  rfl
end Go.Proofs.YtihgdjljnaekmaaGreat
namespace Go.Fid
end Go.Fid
namespace Go.Proofs.YtihgdjljnaekmaaGreat
open Go.Fid
set_option maxRecDepth 4000
set_option linter.unusedVariables false
set_option linter.unusedSimpArgs false
theorem cb70 : callB Tryz.prog 70 = true := by kernel_rfl
end Go.Proofs.YtihgdjljnaekmaaGreat
namespace Go.Proofs.YtihgdjljnaekmaaGreat
open Go.Fid
set_option maxRecDepth 4000
set_option linter.unusedVariables false
set_option linter.unusedSimpArgs false
theorem qs_of (n : Int) (hnl : -9223372036854775808 ≤ n) (hnh : n ≤ 9223372036854775807) (d : Int) (hdl : -9223372036854775808 ≤ d) (hdh : d ≤ 9223372036854775807) (hd : d ≠ 0) : Takes Tryz.prog 70 [(.val (.int .i64 (n))), (.val (.int .i64 (d)))] (.tup [(encR (ofQ (Rat.divInt n d))), (.val (.int .i64 (0)))]) := by
  refine fn_intro Tryz.func70 rfl cb70 rfl ?_
  show PWp _ _ _ _ ⟨[(0, (vi n)), (1, (vi d))], []⟩
  refine pwp_seq <| kx [(4, (.ref 0 0))] [(0, some (bx (encR (RRat.mk (RInt.mk false []) (RInt.mk false [])))))] (zN (oAl 0 ze51 zo51) <| zM <| zZ) ?_
  refine pwp_seq <| kx [(5, (vi 0))] [(0, some (bx (encR (ofQ (Rat.divInt n d)))))] (zM <| zE (oCl (g_whole1 n (by omega) (by omega))) <| zM <| zE (oCl (g_whole1 d (by omega) (by omega))) <| zE (oCl (g_newO (ofZ n) n (iok_up (iok_int (z := n) (by omega) (by omega)) (by decide)) (ofZ d) d (iok_up (iok_int (z := d) (by omega) (by omega)) (by decide)) hd)) <| zE oEx <| zE oEx <| zT (oSt sh51) <| zM <| zZ) ?_
  refine pwp_ret ⟨_, (res_a (cs := (bx (encR (ofQ (Rat.divInt n d))))) (d := (encR (ofQ (Rat.divInt n d)))) rfl rfl sh51 rfl rfl (.tmp (d := (.val (.int .i64 (0)))) rfl .nil)), ?_⟩
  rfl
end Go.Proofs.YtihgdjljnaekmaaGreat
namespace Go.Proofs.YtihgdjljnaekmaaGreat
open Go.Fid
set_option maxRecDepth 4000
set_option linter.unusedVariables false
set_option linter.unusedSimpArgs false
theorem cb40 : callB Tryz.prog 40 = true := by kernel_rfl
theorem p_rint (n : Int) (hnl : -9223372036854775808 ≤ n) (hnh : n ≤ 9223372036854775807) : Takes Tryz.prog 40 [(.val (.int .i64 (n)))] (encR (ofQ ((n : Int) : Rat))) := by
  refine fn_intro Tryz.func40 rfl cb40 rfl ?_
  show PWp _ _ _ _ ⟨[(0, (vi n))], []⟩
  refine pwp_seq <| kx [(2, (.ref 0 0))] [(0, some (bx (encR (RRat.mk (RInt.mk false []) (RInt.mk false [])))))] (zN (oAl 0 ze51 zo51) <| zZ) ?_
  refine pwp_seq <| kx [] [(0, some (bx (encR (ofQ ((n : Int) : Rat)))))] (zM <| zE (oCl (g_whole n (by omega) (by omega))) <| zT (oSt sh51) <| zZ) ?_
  refine pwp_ret ⟨_, (res_a (cs := (bx (encR (ofQ ((n : Int) : Rat))))) (d := (encR (ofQ ((n : Int) : Rat)))) rfl rfl sh51 rfl rfl .nil), ?_⟩
  rfl
end Go.Proofs.YtihgdjljnaekmaaGreat
