/- Part 32 of a proof: rules, plain facts, and functions walked. -/
import Derived.Test.YtihgdjljnaekmaaGreatM30
import Derived.Test.YtihgdjljnaekmaaGreatM31
namespace Go.Proofs.YtihgdjljnaekmaaGreat
open Go.Fid
set_option maxRecDepth 4000
set_option linter.unusedVariables false
set_option linter.unusedSimpArgs false
theorem ar70 : arrB Tryz.prog 70 = some (3, 3, 1) := by kernel_rfl
theorem ar109 : arrB Tryz.prog 109 = some (2, 3, 1) := by kernel_rfl
theorem cb73 : callB Tryz.prog 73 = true := by kernel_rfl
theorem cb124 : callB Tryz.prog 124 = true := by kernel_rfl
theorem cb125 : callB Tryz.prog 125 = true := by kernel_rfl
theorem cb126 : callB Tryz.prog 126 = true := by kernel_rfl
theorem cb127 : callB Tryz.prog 127 = true := by kernel_rfl
theorem el171 : elemB Tryz.prog 171 = some (109, 2) := by kernel_rfl
theorem sh109 : shapeB Tryz.prog 109 = some (true, 2) := by kernel_rfl
theorem ze109 : zeroB Tryz.prog 109 = some [.int .i64 0, .int .i64 0] := by kernel_rfl
theorem zo109 : ZOk [.int .i64 0, .int .i64 0] [.val (.int .i64 0), .val (.int .i64 0)] := by simp [ZOk, Value.oneCell']
def t3 (t : T3) : A3 (Int) := A3.mk ((t.1 : Nat) : Int) ((t.2.1 : Nat) : Int) ((t.2.2 : Nat) : Int)
def w3 (es : List REdge) (t : T3) : A3 (Int) := A3.mk ((t.1 : Nat) : Int) (wkP es t.1 t.2.1 t.2.2).1 (wkP es t.1 t.2.1 t.2.2).2
theorem l_joins (x : REdge) (a : Int) (b : Int) : Takes Tryz.prog 124 [(encEdge x), (.val (.int .i64 (a))), (.val (.int .i64 (b)))] (.val (.bool ((jnB x.fr x.to_ a b)))) := by
  refine fn_intro Tryz.func124 rfl cb124 rfl ?_
  show PWp _ _ _ _ ⟨[(0, (.d (encEdge x))), (1, (vi a)), (2, (vi b))], []⟩
  refine pwp_seq <| kx [(3, (.ref 0 0))] [(0, some (bx (encEdge x)))] (zN (oBx 0) <| zM <| zZ) ?_
  refine pwp_seq <| kx [(6, (vb (((x.fr == a) && (x.to_ == b)) || ((x.fr == b) && (x.to_ == a)))))] [] ?_ ?_
  · refine zE (oFr fo56_0) <| zR (oL1 sh3) <| zM <| zE oEq <| zE (oV (vb (x.fr == a)) (mv_ok (by kernel_rfl))) <| ?_
    rcases hb1 : (x.fr == a) with _ | _
    · replace hb1 := ne_of_beq_false hb1
      refine zK <| zK <| zK <| zK <| zE oPf <| zM <| zE (oFr fo56_0) <| zR (oL1 sh3) <| zM <| zE oEq <| zE (oV (vb (x.fr == b)) (mv_ok (by kernel_rfl))) <| ?_
      rcases hb2 : (x.fr == b) with _ | _
      · replace hb2 := ne_of_beq_false hb2
        exact zK <| zK <| zK <| zK <| zE oPf <| zE oPf <| zM <| zZ
      · replace hb2 := eq_of_beq hb2
        exact zE (oFr fo56_1) <| zR (oL1 sh3) <| zM <| zE oEq <| zE oPa <| zE oPo <| zM <| zZ
    · replace hb1 := eq_of_beq hb1
      refine zE (oFr fo56_1) <| zR (oL1 sh3) <| zM <| zE oEq <| zE oPa <| zE (oV (vb (true && (x.to_ == b))) (mv_ok (by kernel_rfl))) <| ?_
      rcases hb3 : (true && (x.to_ == b)) with _ | _
      · refine zE (oFr fo56_0) <| zR (oL1 sh3) <| zM <| zE oEq <| zE (oV (vb (x.fr == b)) (mv_ok (by kernel_rfl))) <| ?_
        rcases hb4 : (x.fr == b) with _ | _
        · replace hb4 := ne_of_beq_false hb4
          exact zK <| zK <| zK <| zK <| zE oPf <| zE oPf <| zM <| zZ
        · replace hb4 := eq_of_beq hb4
          exact zE (oFr fo56_1) <| zR (oL1 sh3) <| zM <| zE oEq <| zE oPa <| zE oPo <| zM <| zZ
      · exact zK <| zK <| zK <| zK <| zK <| zK <| zK <| zK <| zK <| zK <| zE oPt <| zM <| zZ
  refine pwp_ret ⟨_, (.tmp (d := (.val (.bool ((((x.fr == a) && (x.to_ == b)) || ((x.fr == b) && (x.to_ == a))))))) rfl .nil), ?_⟩
  rfl
theorem l_has (x : REdge) (a : Int) : Takes Tryz.prog 125 [(encEdge x), (.val (.int .i64 (a)))] (.val (.bool ((hsB x.fr x.to_ a)))) := by
  refine fn_intro Tryz.func125 rfl cb125 rfl ?_
  show PWp _ _ _ _ ⟨[(0, (.d (encEdge x))), (1, (vi a))], []⟩
  refine pwp_seq <| kx [(2, (.ref 0 0))] [(0, some (bx (encEdge x)))] (zN (oBx 0) <| zM <| zZ) ?_
  refine pwp_seq <| kx [(4, (vb ((x.fr == a) || (x.to_ == a))))] [] ?_ ?_
  · refine zE (oFr fo56_0) <| zR (oL1 sh3) <| zM <| zE oEq <| zE (oV (vb (x.fr == a)) (mv_ok (by kernel_rfl))) <| ?_
    rcases hb1 : (x.fr == a) with _ | _
    · replace hb1 := ne_of_beq_false hb1
      exact zE (oFr fo56_1) <| zR (oL1 sh3) <| zM <| zE oEq <| zE oPo <| zM <| zZ
    · replace hb1 := eq_of_beq hb1
      exact zK <| zK <| zK <| zK <| zE oPt <| zM <| zZ
  refine pwp_ret ⟨_, (.tmp (d := (.val (.bool (((x.fr == a) || (x.to_ == a)))))) rfl .nil), ?_⟩
  rfl
theorem l_other (x : REdge) (a : Int) (h1 : -1000 ≤ x.fr ∧ x.fr ≤ 1000) (h2 : -1000 ≤ x.to_ ∧ x.to_ ≤ 1000) (h3 : -1000 ≤ a ∧ a ≤ 1000) : Takes Tryz.prog 126 [(encEdge x), (.val (.int .i64 (a)))] (.val (.int .i64 ((x.fr + x.to_ - a)))) := by
  refine fn_intro Tryz.func126 rfl cb126 rfl ?_
  show PWp _ _ _ _ ⟨[(0, (.d (encEdge x))), (1, (vi a))], []⟩
  refine pwp_seq <| kx [(2, (.ref 0 0))] [(0, some (bx (encEdge x)))] (zN (oBx 0) <| zM <| zZ) ?_
  refine pwp_seq <| kx [(4, (vi ((x.fr + x.to_) - a)))] [] (zE (oFr fo56_0) <| zR (oL1 sh3) <| zE (oFr fo56_1) <| zR (oL1 sh3) <| zE (zAd (x.fr + x.to_) (hr := by exact (wAny rfl (by simp only [kLo]; omega) (by simp only [kHi]; omega)))) <| zM <| zE (zSb ((x.fr + x.to_) - a) (hr := by exact (wAny rfl (by simp only [kLo]; omega) (by simp only [kHi]; omega)))) <| zM <| zZ) ?_
  refine pwp_ret ⟨_, (.tmp (d := (.val (.int .i64 (((x.fr + x.to_) - a))))) rfl .nil), ?_⟩
  rfl
theorem l_along (es : List REdge) (k : Nat) (a : Int) (hk : k < es.length) (hb : es.length ≤ 1000000) : Takes Tryz.prog 127 [(.sl 56 6 (List.map encEdge es)), (.val (.int .i64 (((k : Nat) : Int)))), (.val (.int .i64 (a)))] (.val (.int .i64 ((alI (es.getD k (REdge.mk 0 0 (RQuat.mk 0 0 0 0))).fr a ((k : Nat) : Int))))) := by
  refine fn_intro Tryz.func127 rfl cb127 rfl ?_
  show PWp _ _ _ _ ⟨[(0, (vl 56 6 encEdge es)), (1, (vin k)), (2, (vi a))], []⟩
  refine pwp_seq <| kx [] [] (zM <| zZ) ?_
  refine pwp_seq <| pwp_seq <| kx [(13, (vb ((es.getD k (REdge.mk 0 0 (RQuat.mk 0 0 0 0))).fr == a)))] [] (zM <| zM <| zE (oXl el39 k (REdge.mk 0 0 (RQuat.mk 0 0 0 0))) <| zE (oFc fo56_0) <| zE (oC1 sh3) <| zM <| zE oEq <| zZ) ?_
  refine pwp_cond rfl (fun h1 => ?_) (fun h1 => ?_)
  · replace h1 := eq_of_beq h1
    refine pwp_seq <| kx [(6, (vin k))] [] (zM <| zM <| zZ) ?_
    refine pwp_ret ⟨_, (.tmp (d := (.val (.int .i64 (((k : Nat) : Int))))) rfl .nil), ?_⟩
    unfold alI; rw [if_pos h1]; rfl
  · replace h1 := ne_of_beq_false h1
    refine pwp_skip <| pwp_seq <| kx [(6, (vi (-1 - ((k : Nat) : Int))))] [] (zM <| zE (zSb (-1 - ((k : Nat) : Int)) (hr := by exact (wAny (by first | omega | rfl | (dsimp only; omega)) (by simp only [kLo]; omega) (by simp only [kHi]; omega)))) <| zM <| zZ) ?_
    refine pwp_ret ⟨_, (.tmp (d := (.val (.int .i64 ((-1 - ((k : Nat) : Int)))))) rfl .nil), ?_⟩
    unfold alI; rw [if_neg h1]; rfl
theorem l8_wkof (es : List REdge) (i j k : Nat) (n : Nat) (heo : EsOk n es) (hl2 : es.length ≤ 256) (hi : i < es.length) (hj : j < es.length) (hk : k < es.length) : Takes Tryz.prog 73 [(.sl 56 6 (List.map encEdge es)), (encA70 (A3.mk ((i : Nat) : Int) ((j : Nat) : Int) ((k : Nat) : Int)))] (.tup [(.sl 3 1 (List.map enc_i64 (wkL es i j k))), (.val (.bool ((trB es i j k))))]) := by
  have hei := eget heo hi
  have hej := eget heo hj
  have hek := eget heo hk
  let y6 := (bx (encA109 (A2.mk ((k : Nat) : Int) ((j : Nat) : Int))))
  let y5 := (bx (encA109 (A2.mk ((j : Nat) : Int) ((k : Nat) : Int))))
  let y4 := (bx (encEdge (es.getD k (REdge.mk 0 0 (RQuat.mk 0 0 0 0)))))
  let y3 := (bx (encEdge (es.getD j (REdge.mk 0 0 (RQuat.mk 0 0 0 0)))))
  let y2 := (bx (encA70 (A3.mk ((i : Nat) : Int) ((j : Nat) : Int) ((k : Nat) : Int))))
  let y1 := [(A2.mk ((j : Nat) : Int) ((k : Nat) : Int)), (A2.mk ((k : Nat) : Int) ((j : Nat) : Int))]
  refine fn_intro Tryz.func73 rfl cb73 rfl ?_
  show PWp _ _ _ _ ⟨[(0, (vl 56 6 encEdge es)), (1, (.d (encA70 (A3.mk ((i : Nat) : Int) ((j : Nat) : Int) ((k : Nat) : Int)))))], []⟩
  refine pwp_seq <| kx [(3, (.ref 0 0))] [(0, some y2)] (zN (oBx 0) <| zE (oNl 3 1) <| zM <| zZ) ?_
  refine pwp_seq <| kd [(6, (vi ((es.getD i (REdge.mk 0 0 (RQuat.mk 0 0 0 0))).fr))), (7, (vi ((es.getD i (REdge.mk 0 0 (RQuat.mk 0 0 0 0))).to_)))] [] mo (wM <| wE (oXr ar70 0) <| wR (oL1 sh3) <| wE (oXl el39 i (REdge.mk 0 0 (RQuat.mk 0 0 0 0)) (hj := by first | omega | rfl | (dsimp only; omega)) (h1 := by first | omega | rfl | (dsimp only; omega))) <| wE (oFc fo56_0) <| wE (oC1 sh3) <| wM <| wE (oXr ar70 0) <| wR (oL1 sh3) <| wE (oXl el39 i (REdge.mk 0 0 (RQuat.mk 0 0 0 0)) (hj := by first | omega | rfl | (dsimp only; omega)) (h1 := by first | omega | rfl | (dsimp only; omega))) <| wE (oFc fo56_1) <| wE (oC1 sh3) <| wM <| wM <| wZ) ?_
  refine pwp_seq <| pwp_seq <| kx [(38, (vl 109 2 encA109 y1)), (39, (vin 2)), (40, (vin 0))] [] (zE (oXr ar70 1) <| zR (oL1 sh3) <| zE (oXr ar70 2) <| zR (oL1 sh3) <| zE (oBf ar109 ze109 zo109) <| zE (oXr ar70 2) <| zR (oL1 sh3) <| zE (oXr ar70 1) <| zR (oL1 sh3) <| zE (oBf ar109 ze109 zo109) <| zE (oBs el171 ze109 zo109) <| zE (oLn el171 2) <| zM <| zZ) ?_
  refine pwp_block <| pwp_rounds 20 ?_
  refine pwp_round <| pwp_seq <| kx [(41, (vb true))] [] (zE (oBk true oLt) <| zZ) ?_
  refine pwp_seq <| pwp_cond (b := true) (by kernel_rfl) (fun _ => ?_) (fun h => by cases h)
  refine pwp_skip <| pwp_seq <| pwp_block <| pwp_seq <| kx [(9, (.ref 1 0))] [(1, some y5)] (zE (oXs el171 0) <| zE (oCa sh109) <| zN (oAl 1 ze109 zo109) <| zT (oSt sh109) <| zZ) ?_
  refine pwp_seq <| kd [(10, (.ref 2 0)), (11, (.ref 3 0))] [(2, some y3), (3, some y4)] mo (wM <| wE (oXr ar109 0) <| wR (oL1 sh3) <| wE (oXl el39 j (REdge.mk 0 0 (RQuat.mk 0 0 0 0)) (hj := by first | omega | rfl | (dsimp only; omega)) (h1 := by first | omega | rfl | (dsimp only; omega))) <| wE (oCa sh56) <| wM <| wE (oXr ar109 1) <| wR (oL1 sh3) <| wE (oXl el39 k (REdge.mk 0 0 (RQuat.mk 0 0 0 0)) (hj := by first | omega | rfl | (dsimp only; omega)) (h1 := by first | omega | rfl | (dsimp only; omega))) <| wE (oCa sh56) <| wN (oAl 2 ze56 zo56) <| wN (oAl 3 ze56 zo56) <| wT (oSt sh56) <| wT (oSt sh56) <| wZ) ?_
  refine pwp_seq <| kx [(59, (vl 3 1 enc_i64 [((j : Nat) : Int), (-1 - ((j : Nat) : Int))])), (60, (vin 2)), (61, (vin 0))] [] (zE (oXr ar109 0) <| zR (oL1 sh3) <| zE (oXr ar109 0) <| zR (oL1 sh3) <| zE (zSb (-1 - ((j : Nat) : Int)) (hr := by exact (wAny (by first | omega | rfl | (dsimp only; omega)) (by simp only [kLo]; omega) (by simp only [kHi]; omega)))) <| zE (oBs el60 ze3 zo3) <| zE (oLn el60 2) <| zM <| zZ) ?_
  refine pwp_block <| pwp_rounds 20 ?_
  refine pwp_round <| pwp_seq <| kx [(62, (vb true))] [] (zE (oBk true oLt) <| zZ) ?_
  refine pwp_seq <| pwp_cond (b := true) (by kernel_rfl) (fun _ => ?_) (fun h => by cases h)
  refine pwp_skip <| pwp_seqjoin (α := Unit) (fun _ => ⟨[(0, (vl 56 6 encEdge es)), (3, (.ref 0 0)), (6, (vi ((es.getD i (REdge.mk 0 0 (RQuat.mk 0 0 0 0))).fr))), (7, (vi ((es.getD i (REdge.mk 0 0 (RQuat.mk 0 0 0 0))).to_))), (9, (.ref 1 0)), (10, (.ref 2 0)), (11, (.ref 3 0)), (38, (vl 109 2 encA109 y1)), (39, (vin 2)), (40, (vin 0)), (59, (vl 3 1 enc_i64 [((j : Nat) : Int), (-1 - ((j : Nat) : Int))])), (60, (vin 2)), (61, (vin 0))], [(0, some y2), (1, some y5), (2, some y3), (3, some y4)]⟩) (fun _ => wS1 (es.getD i e0).fr (es.getD i e0).to_ (es.getD j e0).fr (es.getD j e0).to_ (es.getD k e0).fr (es.getD k e0).to_ ((j : Nat) : Int) ((k : Nat) : Int) = none) ?_ ?_
  · refine pwp_seq <| kx [(13, (vin j))] [] (zE (oXs el60 0) <| zE (oC1 sh3) <| zM <| zZ) ?_
    refine pwp_seq <| kd [(14, (vi ((es.getD j (REdge.mk 0 0 (RQuat.mk 0 0 0 0))).fr))), (15, (vi ((es.getD j (REdge.mk 0 0 (RQuat.mk 0 0 0 0))).to_)))] [] mo (wE (oFr fo56_0) <| wR (oL1 sh3) <| wE (oFr fo56_1) <| wR (oL1 sh3) <| wM <| wM <| wZ) ?_
    refine pwp_seq <| pwp_seq <| kx [(70, (vb false))] [] (zM <| zE (oBk false oLt (by exact decide_eq_false (by omega))) <| zZ) ?_
    refine pwp_cond (b := false) (by kernel_rfl) (fun h => by cases h) (fun _ => ?_)
    refine pwp_skip <| pwp_seq <| pwp_seq <| kx [(80, (vb (((es.getD j (REdge.mk 0 0 (RQuat.mk 0 0 0 0))).fr != (es.getD i (REdge.mk 0 0 (RQuat.mk 0 0 0 0))).to_) || ((es.getD j (REdge.mk 0 0 (RQuat.mk 0 0 0 0))).to_ == (es.getD i (REdge.mk 0 0 (RQuat.mk 0 0 0 0))).fr))))] [] ?_ ?_
    · refine zM <| zM <| zE oNe <| zE (oV (vb ((es.getD j (REdge.mk 0 0 (RQuat.mk 0 0 0 0))).fr != (es.getD i (REdge.mk 0 0 (RQuat.mk 0 0 0 0))).to_)) (mv_ok (by kernel_rfl))) <| ?_
      rcases hb1 : ((es.getD j (REdge.mk 0 0 (RQuat.mk 0 0 0 0))).fr != (es.getD i (REdge.mk 0 0 (RQuat.mk 0 0 0 0))).to_) with _ | _
      · replace hb1 := bne_eq_false_iff_eq.1 hb1
        exact zM <| zM <| zE oEq <| zE oPo <| zZ
      · replace hb1 := bne_iff_ne.1 hb1
        exact zK <| zK <| zK <| zE oPt <| zZ
    refine pwp_cond rfl (fun h2 => ?_) (fun h2 => ?_)
    · refine pwp_exit ?_
      refine pjoin_exit (id := 3) (α := Unit) (Q := fun _ _ => True) (St := fun _ => ⟨[(0, (vl 56 6 encEdge es)), (3, (.ref 0 0)), (6, (vi ((es.getD i (REdge.mk 0 0 (RQuat.mk 0 0 0 0))).fr))), (7, (vi ((es.getD i (REdge.mk 0 0 (RQuat.mk 0 0 0 0))).to_))), (9, (.ref 1 0)), (10, (.ref 2 0)), (11, (.ref 3 0)), (38, (vl 109 2 encA109 [(A2.mk ((j : Nat) : Int) ((k : Nat) : Int)), (A2.mk ((k : Nat) : Int) ((j : Nat) : Int))])), (39, (vin 2)), (40, (vin 0)), (59, (vl 3 1 enc_i64 [((j : Nat) : Int), (-1 - ((j : Nat) : Int))])), (60, (vin 2)), (61, (vin 0))], [(0, some (bx (encA70 (A3.mk ((i : Nat) : Int) ((j : Nat) : Int) ((k : Nat) : Int))))), (1, some (bx (encA109 (A2.mk ((j : Nat) : Int) ((k : Nat) : Int))))), (2, some (bx (encEdge (es.getD j (REdge.mk 0 0 (RQuat.mk 0 0 0 0)))))), (3, some (bx (encEdge (es.getD k (REdge.mk 0 0 (RQuat.mk 0 0 0 0))))))]⟩) (I := fun _ => wS1 (es.getD i e0).fr (es.getD i e0).to_ (es.getD j e0).fr (es.getD j e0).to_ (es.getD k e0).fr (es.getD k e0).to_ ((j : Nat) : Int) ((k : Nat) : Int) = none) ?_
      exact ⟨(), wk, (by unfold wS1; grind)⟩
    · refine pwp_skip <| pwp_seq <| pwp_seq <| kx [(90, (vb (((es.getD k (REdge.mk 0 0 (RQuat.mk 0 0 0 0))).fr == (es.getD j (REdge.mk 0 0 (RQuat.mk 0 0 0 0))).to_) && ((es.getD k (REdge.mk 0 0 (RQuat.mk 0 0 0 0))).to_ == (es.getD i (REdge.mk 0 0 (RQuat.mk 0 0 0 0))).fr))))] [] ?_ ?_
      · refine zE (oFr fo56_0) <| zR (oL1 sh3) <| zM <| zE oEq <| zE (oV (vb ((es.getD k (REdge.mk 0 0 (RQuat.mk 0 0 0 0))).fr == (es.getD j (REdge.mk 0 0 (RQuat.mk 0 0 0 0))).to_)) (mv_ok (by kernel_rfl))) <| ?_
        rcases hb3 : ((es.getD k (REdge.mk 0 0 (RQuat.mk 0 0 0 0))).fr == (es.getD j (REdge.mk 0 0 (RQuat.mk 0 0 0 0))).to_) with _ | _
        · replace hb3 := ne_of_beq_false hb3
          exact zK <| zK <| zK <| zK <| zE oPf <| zZ
        · replace hb3 := eq_of_beq hb3
          exact zE (oFr fo56_1) <| zR (oL1 sh3) <| zM <| zE oEq <| zE oPa <| zZ
      refine pwp_cond rfl (fun h4 => ?_) (fun h4 => ?_)
      · refine pwp_seq <| kx [(4, (vl 3 1 enc_i64 [((i : Nat) : Int), ((j : Nat) : Int), ((k : Nat) : Int)])), (5, (vb true))] [] (zE (oXr ar70 0) <| zR (oL1 sh3) <| zM <| zE (oXr ar109 1) <| zR (oL1 sh3) <| zE (oBs el60 ze3 zo3) <| zM <| zM <| zZ) ?_
        refine pwp_ret ⟨_, (.tmp (d := (.sl 3 1 (List.map enc_i64 [((i : Nat) : Int), ((j : Nat) : Int), ((k : Nat) : Int)]))) rfl (.tmp (d := (.val (.bool (true)))) rfl .nil)), ?_⟩
        have hs : wS1 (es.getD i e0).fr (es.getD i e0).to_ (es.getD j e0).fr (es.getD j e0).to_ (es.getD k e0).fr (es.getD k e0).to_ ((j : Nat) : Int) ((k : Nat) : Int) = some (((j : Nat) : Int), ((k : Nat) : Int)) := by unfold wS1; grind
        obtain ⟨q1, q2⟩ := wk_s hei hej hek (show woE es i j k = some (((j : Nat) : Int), ((k : Nat) : Int)) by unfold woE wOf; rw [hs])
        rw [q1, q2]; rfl
      · refine pwp_skip <| pwp_seq <| kx [(106, (vb (((es.getD k (REdge.mk 0 0 (RQuat.mk 0 0 0 0))).to_ == (es.getD j (REdge.mk 0 0 (RQuat.mk 0 0 0 0))).to_) && ((es.getD k (REdge.mk 0 0 (RQuat.mk 0 0 0 0))).fr == (es.getD i (REdge.mk 0 0 (RQuat.mk 0 0 0 0))).fr))))] [] ?_ ?_
        · refine zE (oFr fo56_1) <| zR (oL1 sh3) <| zM <| zE oEq <| zE (oV (vb ((es.getD k (REdge.mk 0 0 (RQuat.mk 0 0 0 0))).to_ == (es.getD j (REdge.mk 0 0 (RQuat.mk 0 0 0 0))).to_)) (mv_ok (by kernel_rfl))) <| ?_
          rcases hb5 : ((es.getD k (REdge.mk 0 0 (RQuat.mk 0 0 0 0))).to_ == (es.getD j (REdge.mk 0 0 (RQuat.mk 0 0 0 0))).to_) with _ | _
          · replace hb5 := ne_of_beq_false hb5
            exact zK <| zK <| zK <| zK <| zE oPf <| zZ
          · replace hb5 := eq_of_beq hb5
            exact zE (oFr fo56_0) <| zR (oL1 sh3) <| zM <| zE oEq <| zE oPa <| zZ
        refine pwp_cond rfl (fun h6 => ?_) (fun h6 => ?_)
        · refine pwp_seq <| pwp_sim (wk (l := [(0, (vl 56 6 encEdge es)), (3, (.ref 0 0)), (6, (vi ((es.getD i (REdge.mk 0 0 (RQuat.mk 0 0 0 0))).fr))), (7, (vi ((es.getD i (REdge.mk 0 0 (RQuat.mk 0 0 0 0))).to_))), (9, (.ref 1 0)), (10, (.ref 2 0)), (11, (.ref 3 0)), (13, (vin j)), (38, (vl 109 2 encA109 y1)), (39, (vin 2)), (40, (vin 0)), (59, (vl 3 1 enc_i64 [((j : Nat) : Int), (-1 - ((j : Nat) : Int))])), (60, (vin 2)), (61, (vin 0)), (106, (vb (((es.getD k (REdge.mk 0 0 (RQuat.mk 0 0 0 0))).to_ == (es.getD j (REdge.mk 0 0 (RQuat.mk 0 0 0 0))).to_) && ((es.getD k (REdge.mk 0 0 (RQuat.mk 0 0 0 0))).fr == (es.getD i (REdge.mk 0 0 (RQuat.mk 0 0 0 0))).fr))))]) (b := [(0, some y2), (1, some y5), (2, some y3), (3, some y4)])) ?_
          refine kx [(4, (vl 3 1 enc_i64 [((i : Nat) : Int), ((j : Nat) : Int), (-1 - ((k : Nat) : Int))])), (5, (vb true))] [] (zE (oXr ar70 0) <| zR (oL1 sh3) <| zM <| zE (oXr ar109 1) <| zR (oL1 sh3) <| zE (zSb (-1 - ((k : Nat) : Int)) (hr := by exact (wAny (by first | omega | rfl | (dsimp only; omega)) (by simp only [kLo]; omega) (by simp only [kHi]; omega)))) <| zE (oBs el60 ze3 zo3) <| zM <| zM <| zZ) ?_
          refine pwp_ret ⟨_, (.tmp (d := (.sl 3 1 (List.map enc_i64 [((i : Nat) : Int), ((j : Nat) : Int), (-1 - ((k : Nat) : Int))]))) rfl (.tmp (d := (.val (.bool (true)))) rfl .nil)), ?_⟩
          have hs : wS1 (es.getD i e0).fr (es.getD i e0).to_ (es.getD j e0).fr (es.getD j e0).to_ (es.getD k e0).fr (es.getD k e0).to_ ((j : Nat) : Int) ((k : Nat) : Int) = some (((j : Nat) : Int), (-1 - ((k : Nat) : Int))) := by unfold wS1; grind
          obtain ⟨q1, q2⟩ := wk_s hei hej hek (show woE es i j k = some (((j : Nat) : Int), (-1 - ((k : Nat) : Int))) by unfold woE wOf; rw [hs])
          rw [q1, q2]; rfl
        · refine pwp_skip ?_
          exact ⟨(), wk, (by unfold wS1; grind)⟩
  · rintro - hn0
    refine kx [(61, (vin 1))] [] (zE (oAd 1 (hr := by decide)) <| zM <| zZ) ?_
    refine pwp_again (SimImp.refl _) ?_
    refine pwp_seq <| kx [(62, (vb true))] [] (zE (oBk true oLt) <| zZ) ?_
    refine pwp_seq <| pwp_cond (b := true) (by kernel_rfl) (fun _ => ?_) (fun h => by cases h)
    refine pwp_skip <| pwp_seqjoin (α := Unit) (fun _ => ⟨[(0, (vl 56 6 encEdge es)), (3, (.ref 0 0)), (6, (vi ((es.getD i (REdge.mk 0 0 (RQuat.mk 0 0 0 0))).fr))), (7, (vi ((es.getD i (REdge.mk 0 0 (RQuat.mk 0 0 0 0))).to_))), (9, (.ref 1 0)), (10, (.ref 2 0)), (11, (.ref 3 0)), (38, (vl 109 2 encA109 y1)), (39, (vin 2)), (40, (vin 0)), (59, (vl 3 1 enc_i64 [((j : Nat) : Int), (-1 - ((j : Nat) : Int))])), (60, (vin 2)), (61, (vin 1))], [(0, some y2), (1, some y5), (2, some y3), (3, some y4)]⟩) (fun _ => wS1 (es.getD i e0).fr (es.getD i e0).to_ (es.getD j e0).to_ (es.getD j e0).fr (es.getD k e0).fr (es.getD k e0).to_ (-1 - ((j : Nat) : Int)) ((k : Nat) : Int) = none) ?_ ?_
    · refine pwp_seq <| kx [(13, (vi (-1 - ((j : Nat) : Int))))] [] (zE (oXs el60 1) <| zE (oC1 sh3) <| zM <| zZ) ?_
      refine pwp_seq <| kd [(14, (vi ((es.getD j (REdge.mk 0 0 (RQuat.mk 0 0 0 0))).fr))), (15, (vi ((es.getD j (REdge.mk 0 0 (RQuat.mk 0 0 0 0))).to_)))] [] mo (wE (oFr fo56_0) <| wR (oL1 sh3) <| wE (oFr fo56_1) <| wR (oL1 sh3) <| wM <| wM <| wZ) ?_
      refine pwp_seq <| pwp_seq <| kx [(70, (vb true))] [] (zM <| zE (oBk true oLt (by exact decide_eq_true (by omega))) <| zZ) ?_
      refine pwp_cond (b := true) (by kernel_rfl) (fun _ => ?_) (fun h => by cases h)
      refine kx [(14, (vi ((es.getD j (REdge.mk 0 0 (RQuat.mk 0 0 0 0))).to_))), (15, (vi ((es.getD j (REdge.mk 0 0 (RQuat.mk 0 0 0 0))).fr)))] [] (zM <| zM <| zM <| zM <| zZ) ?_
      refine pwp_seq <| pwp_seq <| kx [(80, (vb (((es.getD j (REdge.mk 0 0 (RQuat.mk 0 0 0 0))).to_ != (es.getD i (REdge.mk 0 0 (RQuat.mk 0 0 0 0))).to_) || ((es.getD j (REdge.mk 0 0 (RQuat.mk 0 0 0 0))).fr == (es.getD i (REdge.mk 0 0 (RQuat.mk 0 0 0 0))).fr))))] [] ?_ ?_
      · refine zM <| zM <| zE oNe <| zE (oV (vb ((es.getD j (REdge.mk 0 0 (RQuat.mk 0 0 0 0))).to_ != (es.getD i (REdge.mk 0 0 (RQuat.mk 0 0 0 0))).to_)) (mv_ok (by kernel_rfl))) <| ?_
        rcases hb7 : ((es.getD j (REdge.mk 0 0 (RQuat.mk 0 0 0 0))).to_ != (es.getD i (REdge.mk 0 0 (RQuat.mk 0 0 0 0))).to_) with _ | _
        · replace hb7 := bne_eq_false_iff_eq.1 hb7
          exact zM <| zM <| zE oEq <| zE oPo <| zZ
        · replace hb7 := bne_iff_ne.1 hb7
          exact zK <| zK <| zK <| zE oPt <| zZ
      refine pwp_cond rfl (fun h8 => ?_) (fun h8 => ?_)
      · refine pwp_exit ?_
        refine pjoin_exit (id := 3) (α := Unit) (Q := fun _ _ => True) (St := fun _ => ⟨[(0, (vl 56 6 encEdge es)), (3, (.ref 0 0)), (6, (vi ((es.getD i (REdge.mk 0 0 (RQuat.mk 0 0 0 0))).fr))), (7, (vi ((es.getD i (REdge.mk 0 0 (RQuat.mk 0 0 0 0))).to_))), (9, (.ref 1 0)), (10, (.ref 2 0)), (11, (.ref 3 0)), (38, (vl 109 2 encA109 [(A2.mk ((j : Nat) : Int) ((k : Nat) : Int)), (A2.mk ((k : Nat) : Int) ((j : Nat) : Int))])), (39, (vin 2)), (40, (vin 0)), (59, (vl 3 1 enc_i64 [((j : Nat) : Int), (-1 - ((j : Nat) : Int))])), (60, (vin 2)), (61, (vin 1))], [(0, some (bx (encA70 (A3.mk ((i : Nat) : Int) ((j : Nat) : Int) ((k : Nat) : Int))))), (1, some (bx (encA109 (A2.mk ((j : Nat) : Int) ((k : Nat) : Int))))), (2, some (bx (encEdge (es.getD j (REdge.mk 0 0 (RQuat.mk 0 0 0 0)))))), (3, some (bx (encEdge (es.getD k (REdge.mk 0 0 (RQuat.mk 0 0 0 0))))))]⟩) (I := fun _ => wS1 (es.getD i e0).fr (es.getD i e0).to_ (es.getD j e0).to_ (es.getD j e0).fr (es.getD k e0).fr (es.getD k e0).to_ (-1 - ((j : Nat) : Int)) ((k : Nat) : Int) = none) ?_
        exact ⟨(), wk, (by unfold wS1; grind)⟩
      · refine pwp_skip <| pwp_seq <| pwp_seq <| kx [(90, (vb (((es.getD k (REdge.mk 0 0 (RQuat.mk 0 0 0 0))).fr == (es.getD j (REdge.mk 0 0 (RQuat.mk 0 0 0 0))).fr) && ((es.getD k (REdge.mk 0 0 (RQuat.mk 0 0 0 0))).to_ == (es.getD i (REdge.mk 0 0 (RQuat.mk 0 0 0 0))).fr))))] [] ?_ ?_
        · refine zE (oFr fo56_0) <| zR (oL1 sh3) <| zM <| zE oEq <| zE (oV (vb ((es.getD k (REdge.mk 0 0 (RQuat.mk 0 0 0 0))).fr == (es.getD j (REdge.mk 0 0 (RQuat.mk 0 0 0 0))).fr)) (mv_ok (by kernel_rfl))) <| ?_
          rcases hb9 : ((es.getD k (REdge.mk 0 0 (RQuat.mk 0 0 0 0))).fr == (es.getD j (REdge.mk 0 0 (RQuat.mk 0 0 0 0))).fr) with _ | _
          · replace hb9 := ne_of_beq_false hb9
            exact zK <| zK <| zK <| zK <| zE oPf <| zZ
          · replace hb9 := eq_of_beq hb9
            exact zE (oFr fo56_1) <| zR (oL1 sh3) <| zM <| zE oEq <| zE oPa <| zZ
        refine pwp_cond rfl (fun h10 => ?_) (fun h10 => ?_)
        · refine pwp_seq <| kx [(4, (vl 3 1 enc_i64 [((i : Nat) : Int), (-1 - ((j : Nat) : Int)), ((k : Nat) : Int)])), (5, (vb true))] [] (zE (oXr ar70 0) <| zR (oL1 sh3) <| zM <| zE (oXr ar109 1) <| zR (oL1 sh3) <| zE (oBs el60 ze3 zo3) <| zM <| zM <| zZ) ?_
          refine pwp_ret ⟨_, (.tmp (d := (.sl 3 1 (List.map enc_i64 [((i : Nat) : Int), (-1 - ((j : Nat) : Int)), ((k : Nat) : Int)]))) rfl (.tmp (d := (.val (.bool (true)))) rfl .nil)), ?_⟩
          have hs : wS1 (es.getD i e0).fr (es.getD i e0).to_ (es.getD j e0).to_ (es.getD j e0).fr (es.getD k e0).fr (es.getD k e0).to_ (-1 - ((j : Nat) : Int)) ((k : Nat) : Int) = some ((-1 - ((j : Nat) : Int)), ((k : Nat) : Int)) := by unfold wS1; grind
          obtain ⟨q1, q2⟩ := wk_s hei hej hek (show woE es i j k = some ((-1 - ((j : Nat) : Int)), ((k : Nat) : Int)) by unfold woE wOf; rw [hn0, hs])
          rw [q1, q2]; rfl
        · refine pwp_skip <| pwp_seq <| kx [(106, (vb (((es.getD k (REdge.mk 0 0 (RQuat.mk 0 0 0 0))).to_ == (es.getD j (REdge.mk 0 0 (RQuat.mk 0 0 0 0))).fr) && ((es.getD k (REdge.mk 0 0 (RQuat.mk 0 0 0 0))).fr == (es.getD i (REdge.mk 0 0 (RQuat.mk 0 0 0 0))).fr))))] [] ?_ ?_
          · refine zE (oFr fo56_1) <| zR (oL1 sh3) <| zM <| zE oEq <| zE (oV (vb ((es.getD k (REdge.mk 0 0 (RQuat.mk 0 0 0 0))).to_ == (es.getD j (REdge.mk 0 0 (RQuat.mk 0 0 0 0))).fr)) (mv_ok (by kernel_rfl))) <| ?_
            rcases hb11 : ((es.getD k (REdge.mk 0 0 (RQuat.mk 0 0 0 0))).to_ == (es.getD j (REdge.mk 0 0 (RQuat.mk 0 0 0 0))).fr) with _ | _
            · replace hb11 := ne_of_beq_false hb11
              exact zK <| zK <| zK <| zK <| zE oPf <| zZ
            · replace hb11 := eq_of_beq hb11
              exact zE (oFr fo56_0) <| zR (oL1 sh3) <| zM <| zE oEq <| zE oPa <| zZ
          refine pwp_cond rfl (fun h12 => ?_) (fun h12 => ?_)
          · refine pwp_seq <| kx [(4, (vl 3 1 enc_i64 [((i : Nat) : Int), (-1 - ((j : Nat) : Int)), (-1 - ((k : Nat) : Int))])), (5, (vb true))] [] (zE (oXr ar70 0) <| zR (oL1 sh3) <| zM <| zE (oXr ar109 1) <| zR (oL1 sh3) <| zE (zSb (-1 - ((k : Nat) : Int)) (hr := by exact (wAny (by first | omega | rfl | (dsimp only; omega)) (by simp only [kLo]; omega) (by simp only [kHi]; omega)))) <| zE (oBs el60 ze3 zo3) <| zM <| zM <| zZ) ?_
            refine pwp_ret ⟨_, (.tmp (d := (.sl 3 1 (List.map enc_i64 [((i : Nat) : Int), (-1 - ((j : Nat) : Int)), (-1 - ((k : Nat) : Int))]))) rfl (.tmp (d := (.val (.bool (true)))) rfl .nil)), ?_⟩
            have hs : wS1 (es.getD i e0).fr (es.getD i e0).to_ (es.getD j e0).to_ (es.getD j e0).fr (es.getD k e0).fr (es.getD k e0).to_ (-1 - ((j : Nat) : Int)) ((k : Nat) : Int) = some ((-1 - ((j : Nat) : Int)), (-1 - ((k : Nat) : Int))) := by unfold wS1; grind
            obtain ⟨q1, q2⟩ := wk_s hei hej hek (show woE es i j k = some ((-1 - ((j : Nat) : Int)), (-1 - ((k : Nat) : Int))) by unfold woE wOf; rw [hn0, hs])
            rw [q1, q2]; rfl
          · refine pwp_skip ?_
            exact ⟨(), wk, (by unfold wS1; grind)⟩
    · rintro - hn1
      refine kx [(61, (vin 2))] [] (zE (oAd 2 (hr := by decide)) <| zM <| zZ) ?_
      refine pwp_again (SimImp.refl _) ?_
      refine pwp_seq <| kx [(62, (vb false))] [] (zE (oBk false oLt) <| zZ) ?_
      refine pwp_seq <| pwp_cond (b := false) (by kernel_rfl) (fun h => by cases h) (fun _ => ?_)
      refine pwp_exit <| kx [(40, (vin 1))] [] (zE (oAd 1 (hr := by decide)) <| zM <| zZ) ?_
      refine pwp_again (SimImp.refl _) ?_
      refine pwp_seq <| kx [(41, (vb true))] [] (zE (oBk true oLt) <| zZ) ?_
      refine pwp_seq <| pwp_cond (b := true) (by kernel_rfl) (fun _ => ?_) (fun h => by cases h)
      refine pwp_skip <| pwp_seq <| pwp_block <| pwp_seq <| kx [(9, (.ref 4 0))] [(4, some y6)] (zE (oXs el171 1) <| zE (oCa sh109) <| zN (oAl 4 ze109 zo109) <| zT (oSt sh109) <| zZ) ?_
      refine pwp_seq <| kd [(10, (.ref 5 0)), (11, (.ref 6 0))] [(5, some y4), (6, some y3)] mo (wM <| wE (oXr ar109 0) <| wR (oL1 sh3) <| wE (oXl el39 k (REdge.mk 0 0 (RQuat.mk 0 0 0 0)) (hj := by first | omega | rfl | (dsimp only; omega)) (h1 := by first | omega | rfl | (dsimp only; omega))) <| wE (oCa sh56) <| wM <| wE (oXr ar109 1) <| wR (oL1 sh3) <| wE (oXl el39 j (REdge.mk 0 0 (RQuat.mk 0 0 0 0)) (hj := by first | omega | rfl | (dsimp only; omega)) (h1 := by first | omega | rfl | (dsimp only; omega))) <| wE (oCa sh56) <| wN (oAl 5 ze56 zo56) <| wN (oAl 6 ze56 zo56) <| wT (oSt sh56) <| wT (oSt sh56) <| wZ) ?_
      refine pwp_seq <| kx [(59, (vl 3 1 enc_i64 [((k : Nat) : Int), (-1 - ((k : Nat) : Int))])), (60, (vin 2)), (61, (vin 0))] [] (zE (oXr ar109 0) <| zR (oL1 sh3) <| zE (oXr ar109 0) <| zR (oL1 sh3) <| zE (zSb (-1 - ((k : Nat) : Int)) (hr := by exact (wAny (by first | omega | rfl | (dsimp only; omega)) (by simp only [kLo]; omega) (by simp only [kHi]; omega)))) <| zE (oBs el60 ze3 zo3) <| zE (oLn el60 2) <| zM <| zZ) ?_
      refine pwp_block <| pwp_rounds 20 ?_
      refine pwp_round <| pwp_seq <| kx [(62, (vb true))] [] (zE (oBk true oLt) <| zZ) ?_
      refine pwp_seq <| pwp_cond (b := true) (by kernel_rfl) (fun _ => ?_) (fun h => by cases h)
      refine pwp_skip <| pwp_seqjoin (α := Unit) (fun _ => ⟨[(0, (vl 56 6 encEdge es)), (3, (.ref 0 0)), (6, (vi ((es.getD i (REdge.mk 0 0 (RQuat.mk 0 0 0 0))).fr))), (7, (vi ((es.getD i (REdge.mk 0 0 (RQuat.mk 0 0 0 0))).to_))), (9, (.ref 4 0)), (10, (.ref 5 0)), (11, (.ref 6 0)), (38, (vl 109 2 encA109 y1)), (39, (vin 2)), (40, (vin 1)), (59, (vl 3 1 enc_i64 [((k : Nat) : Int), (-1 - ((k : Nat) : Int))])), (60, (vin 2)), (61, (vin 0))], [(0, some y2), (4, some y6), (5, some y4), (6, some y3)]⟩) (fun _ => wS1 (es.getD i e0).fr (es.getD i e0).to_ (es.getD k e0).fr (es.getD k e0).to_ (es.getD j e0).fr (es.getD j e0).to_ ((k : Nat) : Int) ((j : Nat) : Int) = none) ?_ ?_
      · refine pwp_seq <| kx [(13, (vin k))] [] (zE (oXs el60 0) <| zE (oC1 sh3) <| zM <| zZ) ?_
        refine pwp_seq <| kd [(14, (vi ((es.getD k (REdge.mk 0 0 (RQuat.mk 0 0 0 0))).fr))), (15, (vi ((es.getD k (REdge.mk 0 0 (RQuat.mk 0 0 0 0))).to_)))] [] mo (wE (oFr fo56_0) <| wR (oL1 sh3) <| wE (oFr fo56_1) <| wR (oL1 sh3) <| wM <| wM <| wZ) ?_
        refine pwp_seq <| pwp_seq <| kx [(70, (vb false))] [] (zM <| zE (oBk false oLt (by exact decide_eq_false (by omega))) <| zZ) ?_
        refine pwp_cond (b := false) (by kernel_rfl) (fun h => by cases h) (fun _ => ?_)
        refine pwp_skip <| pwp_seq <| pwp_seq <| kx [(80, (vb (((es.getD k (REdge.mk 0 0 (RQuat.mk 0 0 0 0))).fr != (es.getD i (REdge.mk 0 0 (RQuat.mk 0 0 0 0))).to_) || ((es.getD k (REdge.mk 0 0 (RQuat.mk 0 0 0 0))).to_ == (es.getD i (REdge.mk 0 0 (RQuat.mk 0 0 0 0))).fr))))] [] ?_ ?_
        · refine zM <| zM <| zE oNe <| zE (oV (vb ((es.getD k (REdge.mk 0 0 (RQuat.mk 0 0 0 0))).fr != (es.getD i (REdge.mk 0 0 (RQuat.mk 0 0 0 0))).to_)) (mv_ok (by kernel_rfl))) <| ?_
          rcases hb13 : ((es.getD k (REdge.mk 0 0 (RQuat.mk 0 0 0 0))).fr != (es.getD i (REdge.mk 0 0 (RQuat.mk 0 0 0 0))).to_) with _ | _
          · replace hb13 := bne_eq_false_iff_eq.1 hb13
            exact zM <| zM <| zE oEq <| zE oPo <| zZ
          · replace hb13 := bne_iff_ne.1 hb13
            exact zK <| zK <| zK <| zE oPt <| zZ
        refine pwp_cond rfl (fun h14 => ?_) (fun h14 => ?_)
        · refine pwp_exit ?_
          refine pjoin_exit (id := 3) (α := Unit) (Q := fun _ _ => True) (St := fun _ => ⟨[(0, (vl 56 6 encEdge es)), (3, (.ref 0 0)), (6, (vi ((es.getD i (REdge.mk 0 0 (RQuat.mk 0 0 0 0))).fr))), (7, (vi ((es.getD i (REdge.mk 0 0 (RQuat.mk 0 0 0 0))).to_))), (9, (.ref 4 0)), (10, (.ref 5 0)), (11, (.ref 6 0)), (38, (vl 109 2 encA109 [(A2.mk ((j : Nat) : Int) ((k : Nat) : Int)), (A2.mk ((k : Nat) : Int) ((j : Nat) : Int))])), (39, (vin 2)), (40, (vin 1)), (59, (vl 3 1 enc_i64 [((k : Nat) : Int), (-1 - ((k : Nat) : Int))])), (60, (vin 2)), (61, (vin 0))], [(0, some (bx (encA70 (A3.mk ((i : Nat) : Int) ((j : Nat) : Int) ((k : Nat) : Int))))), (4, some (bx (encA109 (A2.mk ((k : Nat) : Int) ((j : Nat) : Int))))), (5, some (bx (encEdge (es.getD k (REdge.mk 0 0 (RQuat.mk 0 0 0 0)))))), (6, some (bx (encEdge (es.getD j (REdge.mk 0 0 (RQuat.mk 0 0 0 0))))))]⟩) (I := fun _ => wS1 (es.getD i e0).fr (es.getD i e0).to_ (es.getD k e0).fr (es.getD k e0).to_ (es.getD j e0).fr (es.getD j e0).to_ ((k : Nat) : Int) ((j : Nat) : Int) = none) ?_
          exact ⟨(), wk, (by unfold wS1; grind)⟩
        · refine pwp_skip <| pwp_seq <| pwp_seq <| kx [(90, (vb (((es.getD j (REdge.mk 0 0 (RQuat.mk 0 0 0 0))).fr == (es.getD k (REdge.mk 0 0 (RQuat.mk 0 0 0 0))).to_) && ((es.getD j (REdge.mk 0 0 (RQuat.mk 0 0 0 0))).to_ == (es.getD i (REdge.mk 0 0 (RQuat.mk 0 0 0 0))).fr))))] [] ?_ ?_
          · refine zE (oFr fo56_0) <| zR (oL1 sh3) <| zM <| zE oEq <| zE (oV (vb ((es.getD j (REdge.mk 0 0 (RQuat.mk 0 0 0 0))).fr == (es.getD k (REdge.mk 0 0 (RQuat.mk 0 0 0 0))).to_)) (mv_ok (by kernel_rfl))) <| ?_
            rcases hb15 : ((es.getD j (REdge.mk 0 0 (RQuat.mk 0 0 0 0))).fr == (es.getD k (REdge.mk 0 0 (RQuat.mk 0 0 0 0))).to_) with _ | _
            · replace hb15 := ne_of_beq_false hb15
              exact zK <| zK <| zK <| zK <| zE oPf <| zZ
            · replace hb15 := eq_of_beq hb15
              exact zE (oFr fo56_1) <| zR (oL1 sh3) <| zM <| zE oEq <| zE oPa <| zZ
          refine pwp_cond rfl (fun h16 => ?_) (fun h16 => ?_)
          · refine pwp_seq <| kx [(4, (vl 3 1 enc_i64 [((i : Nat) : Int), ((k : Nat) : Int), ((j : Nat) : Int)])), (5, (vb true))] [] (zE (oXr ar70 0) <| zR (oL1 sh3) <| zM <| zE (oXr ar109 1) <| zR (oL1 sh3) <| zE (oBs el60 ze3 zo3) <| zM <| zM <| zZ) ?_
            refine pwp_ret ⟨_, (.tmp (d := (.sl 3 1 (List.map enc_i64 [((i : Nat) : Int), ((k : Nat) : Int), ((j : Nat) : Int)]))) rfl (.tmp (d := (.val (.bool (true)))) rfl .nil)), ?_⟩
            have hs : wS1 (es.getD i e0).fr (es.getD i e0).to_ (es.getD k e0).fr (es.getD k e0).to_ (es.getD j e0).fr (es.getD j e0).to_ ((k : Nat) : Int) ((j : Nat) : Int) = some (((k : Nat) : Int), ((j : Nat) : Int)) := by unfold wS1; grind
            obtain ⟨q1, q2⟩ := wk_s hei hej hek (show woE es i j k = some (((k : Nat) : Int), ((j : Nat) : Int)) by unfold woE wOf; rw [hn0, hn1, hs])
            rw [q1, q2]; rfl
          · refine pwp_skip <| pwp_seq <| kx [(106, (vb (((es.getD j (REdge.mk 0 0 (RQuat.mk 0 0 0 0))).to_ == (es.getD k (REdge.mk 0 0 (RQuat.mk 0 0 0 0))).to_) && ((es.getD j (REdge.mk 0 0 (RQuat.mk 0 0 0 0))).fr == (es.getD i (REdge.mk 0 0 (RQuat.mk 0 0 0 0))).fr))))] [] ?_ ?_
            · refine zE (oFr fo56_1) <| zR (oL1 sh3) <| zM <| zE oEq <| zE (oV (vb ((es.getD j (REdge.mk 0 0 (RQuat.mk 0 0 0 0))).to_ == (es.getD k (REdge.mk 0 0 (RQuat.mk 0 0 0 0))).to_)) (mv_ok (by kernel_rfl))) <| ?_
              rcases hb17 : ((es.getD j (REdge.mk 0 0 (RQuat.mk 0 0 0 0))).to_ == (es.getD k (REdge.mk 0 0 (RQuat.mk 0 0 0 0))).to_) with _ | _
              · replace hb17 := ne_of_beq_false hb17
                exact zK <| zK <| zK <| zK <| zE oPf <| zZ
              · replace hb17 := eq_of_beq hb17
                exact zE (oFr fo56_0) <| zR (oL1 sh3) <| zM <| zE oEq <| zE oPa <| zZ
            refine pwp_cond rfl (fun h18 => ?_) (fun h18 => ?_)
            · refine pwp_seq <| pwp_sim (wk (l := [(0, (vl 56 6 encEdge es)), (3, (.ref 0 0)), (6, (vi ((es.getD i (REdge.mk 0 0 (RQuat.mk 0 0 0 0))).fr))), (7, (vi ((es.getD i (REdge.mk 0 0 (RQuat.mk 0 0 0 0))).to_))), (9, (.ref 4 0)), (10, (.ref 5 0)), (11, (.ref 6 0)), (13, (vin k)), (38, (vl 109 2 encA109 y1)), (39, (vin 2)), (40, (vin 1)), (59, (vl 3 1 enc_i64 [((k : Nat) : Int), (-1 - ((k : Nat) : Int))])), (60, (vin 2)), (61, (vin 0)), (106, (vb (((es.getD j (REdge.mk 0 0 (RQuat.mk 0 0 0 0))).to_ == (es.getD k (REdge.mk 0 0 (RQuat.mk 0 0 0 0))).to_) && ((es.getD j (REdge.mk 0 0 (RQuat.mk 0 0 0 0))).fr == (es.getD i (REdge.mk 0 0 (RQuat.mk 0 0 0 0))).fr))))]) (b := [(0, some y2), (4, some y6), (5, some y4), (6, some y3)])) ?_
              refine kx [(4, (vl 3 1 enc_i64 [((i : Nat) : Int), ((k : Nat) : Int), (-1 - ((j : Nat) : Int))])), (5, (vb true))] [] (zE (oXr ar70 0) <| zR (oL1 sh3) <| zM <| zE (oXr ar109 1) <| zR (oL1 sh3) <| zE (zSb (-1 - ((j : Nat) : Int)) (hr := by exact (wAny (by first | omega | rfl | (dsimp only; omega)) (by simp only [kLo]; omega) (by simp only [kHi]; omega)))) <| zE (oBs el60 ze3 zo3) <| zM <| zM <| zZ) ?_
              refine pwp_ret ⟨_, (.tmp (d := (.sl 3 1 (List.map enc_i64 [((i : Nat) : Int), ((k : Nat) : Int), (-1 - ((j : Nat) : Int))]))) rfl (.tmp (d := (.val (.bool (true)))) rfl .nil)), ?_⟩
              have hs : wS1 (es.getD i e0).fr (es.getD i e0).to_ (es.getD k e0).fr (es.getD k e0).to_ (es.getD j e0).fr (es.getD j e0).to_ ((k : Nat) : Int) ((j : Nat) : Int) = some (((k : Nat) : Int), (-1 - ((j : Nat) : Int))) := by unfold wS1; grind
              obtain ⟨q1, q2⟩ := wk_s hei hej hek (show woE es i j k = some (((k : Nat) : Int), (-1 - ((j : Nat) : Int))) by unfold woE wOf; rw [hn0, hn1, hs])
              rw [q1, q2]; rfl
            · refine pwp_skip ?_
              exact ⟨(), wk, (by unfold wS1; grind)⟩
      · rintro - hn2
        refine kx [(61, (vin 1))] [] (zE (oAd 1 (hr := by decide)) <| zM <| zZ) ?_
        refine pwp_again (SimImp.refl _) ?_
        refine pwp_seq <| kx [(62, (vb true))] [] (zE (oBk true oLt) <| zZ) ?_
        refine pwp_seq <| pwp_cond (b := true) (by kernel_rfl) (fun _ => ?_) (fun h => by cases h)
        refine pwp_skip <| pwp_seqjoin (α := Unit) (fun _ => ⟨[(0, (vl 56 6 encEdge es)), (3, (.ref 0 0)), (6, (vi ((es.getD i (REdge.mk 0 0 (RQuat.mk 0 0 0 0))).fr))), (7, (vi ((es.getD i (REdge.mk 0 0 (RQuat.mk 0 0 0 0))).to_))), (9, (.ref 4 0)), (10, (.ref 5 0)), (11, (.ref 6 0)), (38, (vl 109 2 encA109 y1)), (39, (vin 2)), (40, (vin 1)), (59, (vl 3 1 enc_i64 [((k : Nat) : Int), (-1 - ((k : Nat) : Int))])), (60, (vin 2)), (61, (vin 1))], [(0, some y2), (4, some y6), (5, some y4), (6, some y3)]⟩) (fun _ => wS1 (es.getD i e0).fr (es.getD i e0).to_ (es.getD k e0).to_ (es.getD k e0).fr (es.getD j e0).fr (es.getD j e0).to_ (-1 - ((k : Nat) : Int)) ((j : Nat) : Int) = none) ?_ ?_
        · refine pwp_seq <| kx [(13, (vi (-1 - ((k : Nat) : Int))))] [] (zE (oXs el60 1) <| zE (oC1 sh3) <| zM <| zZ) ?_
          refine pwp_seq <| kd [(14, (vi ((es.getD k (REdge.mk 0 0 (RQuat.mk 0 0 0 0))).fr))), (15, (vi ((es.getD k (REdge.mk 0 0 (RQuat.mk 0 0 0 0))).to_)))] [] mo (wE (oFr fo56_0) <| wR (oL1 sh3) <| wE (oFr fo56_1) <| wR (oL1 sh3) <| wM <| wM <| wZ) ?_
          refine pwp_seq <| pwp_seq <| kx [(70, (vb true))] [] (zM <| zE (oBk true oLt (by exact decide_eq_true (by omega))) <| zZ) ?_
          refine pwp_cond (b := true) (by kernel_rfl) (fun _ => ?_) (fun h => by cases h)
          refine kx [(14, (vi ((es.getD k (REdge.mk 0 0 (RQuat.mk 0 0 0 0))).to_))), (15, (vi ((es.getD k (REdge.mk 0 0 (RQuat.mk 0 0 0 0))).fr)))] [] (zM <| zM <| zM <| zM <| zZ) ?_
          refine pwp_seq <| pwp_seq <| kx [(80, (vb (((es.getD k (REdge.mk 0 0 (RQuat.mk 0 0 0 0))).to_ != (es.getD i (REdge.mk 0 0 (RQuat.mk 0 0 0 0))).to_) || ((es.getD k (REdge.mk 0 0 (RQuat.mk 0 0 0 0))).fr == (es.getD i (REdge.mk 0 0 (RQuat.mk 0 0 0 0))).fr))))] [] ?_ ?_
          · refine zM <| zM <| zE oNe <| zE (oV (vb ((es.getD k (REdge.mk 0 0 (RQuat.mk 0 0 0 0))).to_ != (es.getD i (REdge.mk 0 0 (RQuat.mk 0 0 0 0))).to_)) (mv_ok (by kernel_rfl))) <| ?_
            rcases hb19 : ((es.getD k (REdge.mk 0 0 (RQuat.mk 0 0 0 0))).to_ != (es.getD i (REdge.mk 0 0 (RQuat.mk 0 0 0 0))).to_) with _ | _
            · replace hb19 := bne_eq_false_iff_eq.1 hb19
              exact zM <| zM <| zE oEq <| zE oPo <| zZ
            · replace hb19 := bne_iff_ne.1 hb19
              exact zK <| zK <| zK <| zE oPt <| zZ
          refine pwp_cond rfl (fun h20 => ?_) (fun h20 => ?_)
          · refine pwp_exit ?_
            refine pjoin_exit (id := 3) (α := Unit) (Q := fun _ _ => True) (St := fun _ => ⟨[(0, (vl 56 6 encEdge es)), (3, (.ref 0 0)), (6, (vi ((es.getD i (REdge.mk 0 0 (RQuat.mk 0 0 0 0))).fr))), (7, (vi ((es.getD i (REdge.mk 0 0 (RQuat.mk 0 0 0 0))).to_))), (9, (.ref 4 0)), (10, (.ref 5 0)), (11, (.ref 6 0)), (38, (vl 109 2 encA109 [(A2.mk ((j : Nat) : Int) ((k : Nat) : Int)), (A2.mk ((k : Nat) : Int) ((j : Nat) : Int))])), (39, (vin 2)), (40, (vin 1)), (59, (vl 3 1 enc_i64 [((k : Nat) : Int), (-1 - ((k : Nat) : Int))])), (60, (vin 2)), (61, (vin 1))], [(0, some (bx (encA70 (A3.mk ((i : Nat) : Int) ((j : Nat) : Int) ((k : Nat) : Int))))), (4, some (bx (encA109 (A2.mk ((k : Nat) : Int) ((j : Nat) : Int))))), (5, some (bx (encEdge (es.getD k (REdge.mk 0 0 (RQuat.mk 0 0 0 0)))))), (6, some (bx (encEdge (es.getD j (REdge.mk 0 0 (RQuat.mk 0 0 0 0))))))]⟩) (I := fun _ => wS1 (es.getD i e0).fr (es.getD i e0).to_ (es.getD k e0).to_ (es.getD k e0).fr (es.getD j e0).fr (es.getD j e0).to_ (-1 - ((k : Nat) : Int)) ((j : Nat) : Int) = none) ?_
            exact ⟨(), wk, (by unfold wS1; grind)⟩
          · refine pwp_skip <| pwp_seq <| pwp_seq <| kx [(90, (vb (((es.getD j (REdge.mk 0 0 (RQuat.mk 0 0 0 0))).fr == (es.getD k (REdge.mk 0 0 (RQuat.mk 0 0 0 0))).fr) && ((es.getD j (REdge.mk 0 0 (RQuat.mk 0 0 0 0))).to_ == (es.getD i (REdge.mk 0 0 (RQuat.mk 0 0 0 0))).fr))))] [] ?_ ?_
            · refine zE (oFr fo56_0) <| zR (oL1 sh3) <| zM <| zE oEq <| zE (oV (vb ((es.getD j (REdge.mk 0 0 (RQuat.mk 0 0 0 0))).fr == (es.getD k (REdge.mk 0 0 (RQuat.mk 0 0 0 0))).fr)) (mv_ok (by kernel_rfl))) <| ?_
              rcases hb21 : ((es.getD j (REdge.mk 0 0 (RQuat.mk 0 0 0 0))).fr == (es.getD k (REdge.mk 0 0 (RQuat.mk 0 0 0 0))).fr) with _ | _
              · replace hb21 := ne_of_beq_false hb21
                exact zK <| zK <| zK <| zK <| zE oPf <| zZ
              · replace hb21 := eq_of_beq hb21
                exact zE (oFr fo56_1) <| zR (oL1 sh3) <| zM <| zE oEq <| zE oPa <| zZ
            refine pwp_cond rfl (fun h22 => ?_) (fun h22 => ?_)
            · refine pwp_seq <| kx [(4, (vl 3 1 enc_i64 [((i : Nat) : Int), (-1 - ((k : Nat) : Int)), ((j : Nat) : Int)])), (5, (vb true))] [] (zE (oXr ar70 0) <| zR (oL1 sh3) <| zM <| zE (oXr ar109 1) <| zR (oL1 sh3) <| zE (oBs el60 ze3 zo3) <| zM <| zM <| zZ) ?_
              refine pwp_ret ⟨_, (.tmp (d := (.sl 3 1 (List.map enc_i64 [((i : Nat) : Int), (-1 - ((k : Nat) : Int)), ((j : Nat) : Int)]))) rfl (.tmp (d := (.val (.bool (true)))) rfl .nil)), ?_⟩
              have hs : wS1 (es.getD i e0).fr (es.getD i e0).to_ (es.getD k e0).to_ (es.getD k e0).fr (es.getD j e0).fr (es.getD j e0).to_ (-1 - ((k : Nat) : Int)) ((j : Nat) : Int) = some ((-1 - ((k : Nat) : Int)), ((j : Nat) : Int)) := by unfold wS1; grind
              obtain ⟨q1, q2⟩ := wk_s hei hej hek (show woE es i j k = some ((-1 - ((k : Nat) : Int)), ((j : Nat) : Int)) by unfold woE wOf; rw [hn0, hn1, hn2, hs])
              rw [q1, q2]; rfl
            · refine pwp_skip <| pwp_seq <| kx [(106, (vb (((es.getD j (REdge.mk 0 0 (RQuat.mk 0 0 0 0))).to_ == (es.getD k (REdge.mk 0 0 (RQuat.mk 0 0 0 0))).fr) && ((es.getD j (REdge.mk 0 0 (RQuat.mk 0 0 0 0))).fr == (es.getD i (REdge.mk 0 0 (RQuat.mk 0 0 0 0))).fr))))] [] ?_ ?_
              · refine zE (oFr fo56_1) <| zR (oL1 sh3) <| zM <| zE oEq <| zE (oV (vb ((es.getD j (REdge.mk 0 0 (RQuat.mk 0 0 0 0))).to_ == (es.getD k (REdge.mk 0 0 (RQuat.mk 0 0 0 0))).fr)) (mv_ok (by kernel_rfl))) <| ?_
                rcases hb23 : ((es.getD j (REdge.mk 0 0 (RQuat.mk 0 0 0 0))).to_ == (es.getD k (REdge.mk 0 0 (RQuat.mk 0 0 0 0))).fr) with _ | _
                · replace hb23 := ne_of_beq_false hb23
                  exact zK <| zK <| zK <| zK <| zE oPf <| zZ
                · replace hb23 := eq_of_beq hb23
                  exact zE (oFr fo56_0) <| zR (oL1 sh3) <| zM <| zE oEq <| zE oPa <| zZ
              refine pwp_cond rfl (fun h24 => ?_) (fun h24 => ?_)
              · refine pwp_seq <| kx [(4, (vl 3 1 enc_i64 [((i : Nat) : Int), (-1 - ((k : Nat) : Int)), (-1 - ((j : Nat) : Int))])), (5, (vb true))] [] (zE (oXr ar70 0) <| zR (oL1 sh3) <| zM <| zE (oXr ar109 1) <| zR (oL1 sh3) <| zE (zSb (-1 - ((j : Nat) : Int)) (hr := by exact (wAny (by first | omega | rfl | (dsimp only; omega)) (by simp only [kLo]; omega) (by simp only [kHi]; omega)))) <| zE (oBs el60 ze3 zo3) <| zM <| zM <| zZ) ?_
                refine pwp_ret ⟨_, (.tmp (d := (.sl 3 1 (List.map enc_i64 [((i : Nat) : Int), (-1 - ((k : Nat) : Int)), (-1 - ((j : Nat) : Int))]))) rfl (.tmp (d := (.val (.bool (true)))) rfl .nil)), ?_⟩
                have hs : wS1 (es.getD i e0).fr (es.getD i e0).to_ (es.getD k e0).to_ (es.getD k e0).fr (es.getD j e0).fr (es.getD j e0).to_ (-1 - ((k : Nat) : Int)) ((j : Nat) : Int) = some ((-1 - ((k : Nat) : Int)), (-1 - ((j : Nat) : Int))) := by unfold wS1; grind
                obtain ⟨q1, q2⟩ := wk_s hei hej hek (show woE es i j k = some ((-1 - ((k : Nat) : Int)), (-1 - ((j : Nat) : Int))) by unfold woE wOf; rw [hn0, hn1, hn2, hs])
                rw [q1, q2]; rfl
              · refine pwp_skip ?_
                exact ⟨(), wk, (by unfold wS1; grind)⟩
        · rintro - hn3
          refine kx [(61, (vin 2))] [] (zE (oAd 2 (hr := by decide)) <| zM <| zZ) ?_
          refine pwp_again (SimImp.refl _) ?_
          refine pwp_seq <| kx [(62, (vb false))] [] (zE (oBk false oLt) <| zZ) ?_
          refine pwp_seq <| pwp_cond (b := false) (by kernel_rfl) (fun h => by cases h) (fun _ => ?_)
          refine pwp_exit <| kx [(40, (vin 2))] [] (zE (oAd 2 (hr := by decide)) <| zM <| zZ) ?_
          refine pwp_again (SimImp.refl _) ?_
          refine pwp_seq <| kx [(41, (vb false))] [] (zE (oBk false oLt) <| zZ) ?_
          refine pwp_seq <| pwp_cond (b := false) (by kernel_rfl) (fun h => by cases h) (fun _ => ?_)
          refine pwp_exit <| pwp_seq <| kx [(4, (vl 3 1 enc_i64 [])), (5, (vb false))] [] (zE (oNl 3 1) <| zM <| zZ) ?_
          refine pwp_ret ⟨_, (.tmp (d := (.sl 3 1 (List.map enc_i64 []))) rfl (.tmp (d := (.val (.bool (false)))) rfl .nil)), ?_⟩
          obtain ⟨q1, q2⟩ := wk_n hei hej hek (show woE es i j k = none by unfold woE wOf; rw [hn0, hn1, hn2, hn3])
          rw [q1, q2]; rfl
end Go.Proofs.YtihgdjljnaekmaaGreat
