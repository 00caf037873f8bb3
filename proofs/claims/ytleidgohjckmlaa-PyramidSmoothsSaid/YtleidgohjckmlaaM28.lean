/- Part 28 of a proof: rules, plain facts, and functions walked. -/
import Derived.Test.YtleidgohjckmlaaM20
import Derived.Test.YtleidgohjckmlaaM21
import Derived.Test.YtleidgohjckmlaaM27
import Derived.Test.YtleidgohjckmlaaM17
namespace Go.Proofs.Ytleidgohjckmlaa
open Go.Fid
set_option maxRecDepth 4000
set_option linter.unusedVariables false
set_option linter.unusedSimpArgs false
theorem ar55 : arrB Try.prog 55 = some (3, 3, 1) := by kernel_rfl
theorem cb8 : callB Try.prog 8 = true := by kernel_rfl
theorem cb10 : callB Try.prog 10 = true := by kernel_rfl
theorem cb16 : callB Try.prog 16 = true := by kernel_rfl
theorem cb25 : callB Try.prog 25 = true := by kernel_rfl
theorem sh55 : shapeB Try.prog 55 = some (true, 3) := by kernel_rfl
theorem ze55 : zeroB Try.prog 55 = some [.int .i64 0, .int .i64 0, .int .i64 0] := by kernel_rfl
theorem zo55 : ZOk [.int .i64 0, .int .i64 0, .int .i64 0] [.val (.int .i64 0), .val (.int .i64 0), .val (.int .i64 0)] := by simp [ZOk, Value.oneCell']
theorem p_smo (w h : Nat) (mx : Int) (px : List Int) (hv : RstOk w h px) (hb : px.length ≤ 1000000) (hc : chkC ((w : Nat) : Int) ((h : Nat) : Int) mx px = 0) : Takes Try.prog 8 [(encRst (RRst.mk ((w : Nat) : Int) ((h : Nat) : Int) mx px))] (.tup [(encRst (RRst.mk ((w : Nat) : Int) ((h : Nat) : Int) mx (smV w h px))), (.val (.int .i64 (0)))]) := by
  have hv0 := hv
  obtain ⟨w1, w2, w3, w4, w5, w6⟩ := hv
  let y4 := (encRst (RRst.mk ((w : Nat) : Int) ((h : Nat) : Int) mx px))
  let y3 := (bx y4)
  let y2 := (encA55 (A3.mk ((1 : Nat) : Int) ((2 : Nat) : Int) ((1 : Nat) : Int)))
  let y1 := (bx y2)
  refine fn_intro Try.func8 rfl cb8 rfl ?_
  show PWp _ _ _ _ ⟨[(0, (.d y4))], []⟩
  refine pwp_seq <| kx [(1, (.ref 0 0)), (2, (.ref 1 0))] [(0, some y3), (1, some (bx (encRst (RRst.mk 0 0 0 []))))] (zN (oBx 0) <| zN (oAl 1 ze24 zo24) <| zM <| zZ) ?_
  refine pwp_seq <| pwp_seq <| kx [(4, (vi (chkC ((w : Nat) : Int) ((h : Nat) : Int) mx px)))] [] (zR (oLa sh24) <| zE (oCl (p_chk ((w : Nat) : Int) ((h : Nat) : Int) mx px hb)) <| zM <| zZ) ?_
  refine pwp_seq <| kx [(18, (vb false))] [] (zM <| zE (oBk false oNe (by exact bne_eq_false_iff_eq.2 hc)) <| zZ) ?_
  refine pwp_cond (b := false) (by kernel_rfl) (fun h => by cases h) (fun _ => ?_)
  refine pwp_skip <| pwp_seq <| kx [(5, (.ref 2 0))] [(2, some (bx (.agg [(.val (.int .i64 (((w : Nat) : Int)))), (.val (.int .i64 (((h : Nat) : Int)))), (.val (.int .i64 (mx))), (.val (.slice none 0 0))])))] (zE (oFr fo24_0) <| zR (oL1 sh3) <| zE (oFr fo24_1) <| zR (oL1 sh3) <| zE (oFr fo24_2) <| zR (oL1 sh3) <| zE (oBd pl24 ze24 zn24) <| zN (oAl 2 ze24 zo24) <| zT (oSt sh24) <| zZ) ?_
  refine pwp_seq <| kx [(6, (.clo 27 [0]))] [] (zE (oMf [0]) <| zM <| zZ) ?_
  refine pwp_seq <| kx [(7, (.ref 3 0))] [(3, some y1)] (zE (oBf ar55 ze55 zo55) <| zN (oAl 3 ze55 zo55) <| zT (oSt sh55) <| zZ) ?_
  refine pwp_seq <| pwp_seq <| pwp_own 2 3 4 3 1 (cs := (bx (.agg [(.val (.int .i64 (((w : Nat) : Int)))), (.val (.int .i64 (((h : Nat) : Int)))), (.val (.int .i64 (mx))), (.val (.slice none 0 0))]))) (h := ?_)
  refine pwp_sim (wk (l := [(1, (.ref 0 0)), (2, (.ref 1 0)), (5, (.ref 2 0)), (6, (.clo 27 [0])), (7, (.ref 3 0))]) (b := [(0, some y3), (1, some (bx (encRst (RRst.mk 0 0 0 [])))), (2, some [(vin w), (vin h), (vi mx), (.own 4 3 1 0)]), (3, some y1), (4, some (bm enc_i64 []))])) ?_
  refine kx [(31, (vin h)), (32, (vin 0))] [] (zE (oFr fo24_1) <| zR (oL1 sh3) <| zM <| zZ) ?_
  refine pwp_block <| pwp_loop (α := Nat × List Int) (fun (y, out) => ⟨[(1, (.ref 0 0)), (2, (.ref 1 0)), (5, (.ref 2 0)), (6, (.clo 27 [0])), (7, (.ref 3 0)), (31, (vin h)), (32, (vin y))], [(0, some y3), (1, some (bx (encRst (RRst.mk 0 0 0 [])))), (2, some [(vin w), (vin h), (vi mx), (.own 4 3 1 out.length)]), (3, some y1), (4, some (bm enc_i64 out))]⟩) (fun (y, out) => y ≤ h ∧ out = (List.range (y * w + 0)).map (smP w h px)) (fun (y, out) => h - y) (0, []) wk ⟨Nat.zero_le _, by rw [Nat.zero_mul]; rfl⟩ ?_
  rintro ⟨y, out⟩ ⟨hy, ho⟩
  refine pwp_seq <| kx [(33, (vb (decide (((y : Nat) : Int) < ((h : Nat) : Int)))))] [] (zE oLt <| zZ) ?_
  refine pwp_seq <| pwp_cond rfl (fun h1 => ?_) (fun h1 => ?_)
  · replace h1 := of_decide_eq_true h1
    refine pwp_skip <| pwp_seq <| pwp_block <| pwp_seq <| kx [(8, (vin y))] [] (zM <| zM <| zZ) ?_
    refine pwp_seq <| kx [(36, (vin w)), (37, (vin 0))] [] (zE (oFr fo24_0) <| zR (oL1 sh3) <| zM <| zZ) ?_
    refine pwp_block <| pwp_loop (α := Nat × List Int) (fun (x, ou2) => ⟨[(1, (.ref 0 0)), (2, (.ref 1 0)), (5, (.ref 2 0)), (6, (.clo 27 [0])), (7, (.ref 3 0)), (8, (vin y)), (31, (vin h)), (32, (vin y)), (36, (vin w)), (37, (vin x))], [(0, some y3), (1, some (bx (encRst (RRst.mk 0 0 0 [])))), (2, some [(vin w), (vin h), (vi mx), (.own 4 3 1 ou2.length)]), (3, some y1), (4, some (bm enc_i64 ou2))]⟩) (fun (x, ou2) => x ≤ w ∧ ou2 = (List.range (y * w + x)).map (smP w h px)) (fun (x, ou2) => w - x) (0, out) wk ⟨Nat.zero_le _, ho⟩ ?_
    rintro ⟨x, ou2⟩ ⟨hx, ho2⟩
    have hol : ou2.length ≤ 1000000 := by rw [ho2, List.length_map, List.length_range]; exact lin_le w2 w4 hy hx
    have hp00 := pix_bd hv0 (((x : Nat) : Int) - 1) (((y : Nat) : Int) - 1)
    have hp10 := pix_bd hv0 ((x : Nat) : Int) (((y : Nat) : Int) - 1)
    have hp20 := pix_bd hv0 (((x : Nat) : Int) + 1) (((y : Nat) : Int) - 1)
    have hp01 := pix_bd hv0 (((x : Nat) : Int) - 1) ((y : Nat) : Int)
    have hp11 := pix_bd hv0 ((x : Nat) : Int) ((y : Nat) : Int)
    have hp21 := pix_bd hv0 (((x : Nat) : Int) + 1) ((y : Nat) : Int)
    have hp02 := pix_bd hv0 (((x : Nat) : Int) - 1) (((y : Nat) : Int) + 1)
    have hp12 := pix_bd hv0 ((x : Nat) : Int) (((y : Nat) : Int) + 1)
    have hp22 := pix_bd hv0 (((x : Nat) : Int) + 1) (((y : Nat) : Int) + 1)
    have hsm := smS_le (a := -65535) (b := 65535) hv0 hv0.2.2.2.2.2 ((x : Nat) : Int) ((y : Nat) : Int)
    refine pwp_seq <| kx [(38, (vb (decide (((x : Nat) : Int) < ((w : Nat) : Int)))))] [] (zE oLt <| zZ) ?_
    refine pwp_seq <| pwp_cond rfl (fun h2 => ?_) (fun h2 => ?_)
    · replace h2 := of_decide_eq_true h2
      refine pwp_skip <| pwp_seq <| pwp_block <| pwp_seq <| kx [(9, (vin x))] [] (zM <| zM <| zZ) ?_
      refine pwp_seq <| kx [(10, (vin 8))] [] (zM <| zZ) ?_
      refine pwp_seq <| pwp_seq <| kx [(40, (.d y2)), (41, (vin 0))] [] (zR (oLa sh55) <| zM <| zZ) ?_
      refine pwp_block <| pwp_rounds 4 ?_
      refine pwp_round <| pwp_seq <| kx [(42, (vb true))] [] (zE (oBk true oLt) <| zZ) ?_
      refine pwp_seq <| pwp_cond (b := true) (by kernel_rfl) (fun _ => ?_) (fun h => by cases h)
      refine pwp_skip <| pwp_seq <| pwp_block <| pwp_seq <| kx [(11, (vin 0)), (12, (vin 1))] [] (zM <| zE (oXa ar55 sh3 (fun _ => rfl) 0) <| zM <| zM <| zZ) ?_
      refine pwp_seq <| kx [(45, (.d y2)), (46, (vin 0))] [] (zR (oLa sh55) <| zM <| zZ) ?_
      refine pwp_block <| pwp_rounds 4 ?_
      refine pwp_round <| pwp_seq <| kx [(47, (vb true))] [] (zE (oBk true oLt) <| zZ) ?_
      refine pwp_seq <| pwp_cond (b := true) (by kernel_rfl) (fun _ => ?_) (fun h => by cases h)
      refine pwp_skip <| pwp_seq <| pwp_block <| pwp_seq <| kx [(13, (vin 0)), (14, (vin 1))] [] (zM <| zE (oXa ar55 sh3 (fun _ => rfl) 0) <| zM <| zM <| zZ) ?_
      refine kx [(10, (vi (((8 : Nat) : Int) + (((1 : Nat) : Int) * (pixA w h px (((x : Nat) : Int) - 1) (((y : Nat) : Int) - 1))))))] [] (zM <| zM <| zM <| zE (oMl 1 (hr := by decide)) <| zM <| zM <| zM <| zE (oAd (x + 0)) <| zE (zSb (((x : Nat) : Int) - 1)) <| zM <| zM <| zE (oAd (y + 0)) <| zE (zSb (((y : Nat) : Int) - 1)) <| zC (oCc (ds := [(.val (.int .i64 ((((x : Nat) : Int) - 1)))), (.val (.int .i64 ((((y : Nat) : Int) - 1))))]) [0] [(Dat.cells y4)] (p_pix (((x : Nat) : Int) - 1) (((y : Nat) : Int) - 1) w h mx px hv0 (by omega) (by omega) (by omega) (by omega)) (.val _)) <| zE (zMl (((1 : Nat) : Int) * (pixA w h px (((x : Nat) : Int) - 1) (((y : Nat) : Int) - 1)))) <| zE (zAd (((8 : Nat) : Int) + (((1 : Nat) : Int) * (pixA w h px (((x : Nat) : Int) - 1) (((y : Nat) : Int) - 1))))) <| zM <| zZ) ?_
      refine kx [(46, (vin 1))] [] (zE (oAd 1 (hr := by decide)) <| zM <| zZ) ?_
      refine pwp_again (SimImp.refl _) ?_
      refine pwp_seq <| kx [(47, (vb true))] [] (zE (oBk true oLt) <| zZ) ?_
      refine pwp_seq <| pwp_cond (b := true) (by kernel_rfl) (fun _ => ?_) (fun h => by cases h)
      refine pwp_skip <| pwp_seq <| pwp_block <| pwp_seq <| kx [(13, (vin 1)), (14, (vin 2))] [] (zM <| zE (oXa ar55 sh3 (fun _ => rfl) 1) <| zM <| zM <| zZ) ?_
      refine kx [(10, (vi ((((8 : Nat) : Int) + (((1 : Nat) : Int) * (pixA w h px (((x : Nat) : Int) - 1) (((y : Nat) : Int) - 1)))) + (((2 : Nat) : Int) * (pixA w h px ((x : Nat) : Int) (((y : Nat) : Int) - 1))))))] [] (zM <| zM <| zM <| zE (oMl 2 (hr := by decide)) <| zM <| zM <| zM <| zE (oAd (x + 1)) <| zE (zSb ((x : Nat) : Int)) <| zM <| zM <| zE (oAd (y + 0)) <| zE (zSb (((y : Nat) : Int) - 1)) <| zC (oCc (ds := [(.val (.int .i64 (((x : Nat) : Int)))), (.val (.int .i64 ((((y : Nat) : Int) - 1))))]) [0] [(Dat.cells y4)] (p_pix ((x : Nat) : Int) (((y : Nat) : Int) - 1) w h mx px hv0 (by omega) (by omega) (by omega) (by omega)) (.val _)) <| zE (zMl (((2 : Nat) : Int) * (pixA w h px ((x : Nat) : Int) (((y : Nat) : Int) - 1)))) <| zE (zAd ((((8 : Nat) : Int) + (((1 : Nat) : Int) * (pixA w h px (((x : Nat) : Int) - 1) (((y : Nat) : Int) - 1)))) + (((2 : Nat) : Int) * (pixA w h px ((x : Nat) : Int) (((y : Nat) : Int) - 1))))) <| zM <| zZ) ?_
      refine pwp_sim (wk (l := [(1, (.ref 0 0)), (2, (.ref 1 0)), (5, (.ref 2 0)), (6, (.clo 27 [0])), (7, (.ref 3 0)), (8, (vin y)), (9, (vin x)), (10, (vi ((((8 : Nat) : Int) + (((1 : Nat) : Int) * (pixA w h px (((x : Nat) : Int) - 1) (((y : Nat) : Int) - 1)))) + (((2 : Nat) : Int) * (pixA w h px ((x : Nat) : Int) (((y : Nat) : Int) - 1)))))), (11, (vin 0)), (12, (vin 1)), (31, (vin h)), (32, (vin y)), (36, (vin w)), (37, (vin x)), (40, (.d y2)), (41, (vin 0)), (45, (.d y2)), (46, (vin 1))]) (b := [(0, some y3), (1, some (bx (encRst (RRst.mk 0 0 0 [])))), (2, some [(vin w), (vin h), (vi mx), (.own 4 3 1 ou2.length)]), (3, some y1), (4, some (bm enc_i64 ou2))])) ?_
      refine kx [(46, (vin 2))] [] (zE (oAd 2 (hr := by decide)) <| zM <| zZ) ?_
      refine pwp_again (SimImp.refl _) ?_
      refine pwp_seq <| kx [(47, (vb true))] [] (zE (oBk true oLt) <| zZ) ?_
      refine pwp_seq <| pwp_cond (b := true) (by kernel_rfl) (fun _ => ?_) (fun h => by cases h)
      refine pwp_skip <| pwp_seq <| pwp_block <| pwp_seq <| kx [(13, (vin 2)), (14, (vin 1))] [] (zM <| zE (oXa ar55 sh3 (fun _ => rfl) 2) <| zM <| zM <| zZ) ?_
      refine kx [(10, (vi (((((8 : Nat) : Int) + (((1 : Nat) : Int) * (pixA w h px (((x : Nat) : Int) - 1) (((y : Nat) : Int) - 1)))) + (((2 : Nat) : Int) * (pixA w h px ((x : Nat) : Int) (((y : Nat) : Int) - 1)))) + (((1 : Nat) : Int) * (pixA w h px (((x : Nat) : Int) + 1) (((y : Nat) : Int) - 1))))))] [] (zM <| zM <| zM <| zE (oMl 1 (hr := by decide)) <| zM <| zM <| zM <| zE (oAd (x + 2)) <| zE (zSb (((x : Nat) : Int) + 1)) <| zM <| zM <| zE (oAd (y + 0)) <| zE (zSb (((y : Nat) : Int) - 1)) <| zC (oCc (ds := [(.val (.int .i64 ((((x : Nat) : Int) + 1)))), (.val (.int .i64 ((((y : Nat) : Int) - 1))))]) [0] [(Dat.cells y4)] (p_pix (((x : Nat) : Int) + 1) (((y : Nat) : Int) - 1) w h mx px hv0 (by omega) (by omega) (by omega) (by omega)) (.val _)) <| zE (zMl (((1 : Nat) : Int) * (pixA w h px (((x : Nat) : Int) + 1) (((y : Nat) : Int) - 1)))) <| zE (zAd (((((8 : Nat) : Int) + (((1 : Nat) : Int) * (pixA w h px (((x : Nat) : Int) - 1) (((y : Nat) : Int) - 1)))) + (((2 : Nat) : Int) * (pixA w h px ((x : Nat) : Int) (((y : Nat) : Int) - 1)))) + (((1 : Nat) : Int) * (pixA w h px (((x : Nat) : Int) + 1) (((y : Nat) : Int) - 1))))) <| zM <| zZ) ?_
      refine kx [(46, (vin 3))] [] (zE (oAd 3 (hr := by decide)) <| zM <| zZ) ?_
      refine pwp_again (SimImp.refl _) ?_
      refine pwp_seq <| kx [(47, (vb false))] [] (zE (oBk false oLt) <| zZ) ?_
      refine pwp_seq <| pwp_cond (b := false) (by kernel_rfl) (fun h => by cases h) (fun _ => ?_)
      refine pwp_exit <| kx [(41, (vin 1))] [] (zE (oAd 1 (hr := by decide)) <| zM <| zZ) ?_
      refine pwp_again (SimImp.refl _) ?_
      refine pwp_seq <| kx [(42, (vb true))] [] (zE (oBk true oLt) <| zZ) ?_
      refine pwp_seq <| pwp_cond (b := true) (by kernel_rfl) (fun _ => ?_) (fun h => by cases h)
      refine pwp_skip <| pwp_seq <| pwp_block <| pwp_seq <| kx [(11, (vin 1)), (12, (vin 2))] [] (zM <| zE (oXa ar55 sh3 (fun _ => rfl) 1) <| zM <| zM <| zZ) ?_
      refine pwp_seq <| kx [(45, (.d y2)), (46, (vin 0))] [] (zR (oLa sh55) <| zM <| zZ) ?_
      refine pwp_block <| pwp_rounds 4 ?_
      refine pwp_round <| pwp_seq <| kx [(47, (vb true))] [] (zE (oBk true oLt) <| zZ) ?_
      refine pwp_seq <| pwp_cond (b := true) (by kernel_rfl) (fun _ => ?_) (fun h => by cases h)
      refine pwp_skip <| pwp_seq <| pwp_block <| pwp_seq <| kx [(13, (vin 0)), (14, (vin 1))] [] (zM <| zE (oXa ar55 sh3 (fun _ => rfl) 0) <| zM <| zM <| zZ) ?_
      refine kx [(10, (vi ((((((8 : Nat) : Int) + (((1 : Nat) : Int) * (pixA w h px (((x : Nat) : Int) - 1) (((y : Nat) : Int) - 1)))) + (((2 : Nat) : Int) * (pixA w h px ((x : Nat) : Int) (((y : Nat) : Int) - 1)))) + (((1 : Nat) : Int) * (pixA w h px (((x : Nat) : Int) + 1) (((y : Nat) : Int) - 1)))) + (((2 : Nat) : Int) * (pixA w h px (((x : Nat) : Int) - 1) ((y : Nat) : Int))))))] [] (zM <| zM <| zM <| zE (oMl 2 (hr := by decide)) <| zM <| zM <| zM <| zE (oAd (x + 0)) <| zE (zSb (((x : Nat) : Int) - 1)) <| zM <| zM <| zE (oAd (y + 1)) <| zE (zSb ((y : Nat) : Int)) <| zC (oCc (ds := [(.val (.int .i64 ((((x : Nat) : Int) - 1)))), (.val (.int .i64 (((y : Nat) : Int))))]) [0] [(Dat.cells y4)] (p_pix (((x : Nat) : Int) - 1) ((y : Nat) : Int) w h mx px hv0 (by omega) (by omega) (by omega) (by omega)) (.val _)) <| zE (zMl (((2 : Nat) : Int) * (pixA w h px (((x : Nat) : Int) - 1) ((y : Nat) : Int)))) <| zE (zAd ((((((8 : Nat) : Int) + (((1 : Nat) : Int) * (pixA w h px (((x : Nat) : Int) - 1) (((y : Nat) : Int) - 1)))) + (((2 : Nat) : Int) * (pixA w h px ((x : Nat) : Int) (((y : Nat) : Int) - 1)))) + (((1 : Nat) : Int) * (pixA w h px (((x : Nat) : Int) + 1) (((y : Nat) : Int) - 1)))) + (((2 : Nat) : Int) * (pixA w h px (((x : Nat) : Int) - 1) ((y : Nat) : Int))))) <| zM <| zZ) ?_
      refine kx [(46, (vin 1))] [] (zE (oAd 1 (hr := by decide)) <| zM <| zZ) ?_
      refine pwp_again (SimImp.refl _) ?_
      refine pwp_seq <| pwp_sim (wk (l := [(1, (.ref 0 0)), (2, (.ref 1 0)), (5, (.ref 2 0)), (6, (.clo 27 [0])), (7, (.ref 3 0)), (8, (vin y)), (9, (vin x)), (10, (vi ((((((8 : Nat) : Int) + (((1 : Nat) : Int) * (pixA w h px (((x : Nat) : Int) - 1) (((y : Nat) : Int) - 1)))) + (((2 : Nat) : Int) * (pixA w h px ((x : Nat) : Int) (((y : Nat) : Int) - 1)))) + (((1 : Nat) : Int) * (pixA w h px (((x : Nat) : Int) + 1) (((y : Nat) : Int) - 1)))) + (((2 : Nat) : Int) * (pixA w h px (((x : Nat) : Int) - 1) ((y : Nat) : Int)))))), (11, (vin 1)), (12, (vin 2)), (31, (vin h)), (32, (vin y)), (36, (vin w)), (37, (vin x)), (40, (.d y2)), (41, (vin 1)), (45, (.d y2)), (46, (vin 1))]) (b := [(0, some y3), (1, some (bx (encRst (RRst.mk 0 0 0 [])))), (2, some [(vin w), (vin h), (vi mx), (.own 4 3 1 ou2.length)]), (3, some y1), (4, some (bm enc_i64 ou2))])) ?_
      refine kx [(47, (vb true))] [] (zE (oBk true oLt) <| zZ) ?_
      refine pwp_seq <| pwp_cond (b := true) (by kernel_rfl) (fun _ => ?_) (fun h => by cases h)
      refine pwp_skip <| pwp_seq <| pwp_block <| pwp_seq <| kx [(13, (vin 1)), (14, (vin 2))] [] (zM <| zE (oXa ar55 sh3 (fun _ => rfl) 1) <| zM <| zM <| zZ) ?_
      refine kx [(10, (vi (((((((8 : Nat) : Int) + (((1 : Nat) : Int) * (pixA w h px (((x : Nat) : Int) - 1) (((y : Nat) : Int) - 1)))) + (((2 : Nat) : Int) * (pixA w h px ((x : Nat) : Int) (((y : Nat) : Int) - 1)))) + (((1 : Nat) : Int) * (pixA w h px (((x : Nat) : Int) + 1) (((y : Nat) : Int) - 1)))) + (((2 : Nat) : Int) * (pixA w h px (((x : Nat) : Int) - 1) ((y : Nat) : Int)))) + (((4 : Nat) : Int) * (pixA w h px ((x : Nat) : Int) ((y : Nat) : Int))))))] [] (zM <| zM <| zM <| zE (oMl 4 (hr := by decide)) <| zM <| zM <| zM <| zE (oAd (x + 1)) <| zE (zSb ((x : Nat) : Int)) <| zM <| zM <| zE (oAd (y + 1)) <| zE (zSb ((y : Nat) : Int)) <| zC (oCc (ds := [(.val (.int .i64 (((x : Nat) : Int)))), (.val (.int .i64 (((y : Nat) : Int))))]) [0] [(Dat.cells y4)] (p_pix ((x : Nat) : Int) ((y : Nat) : Int) w h mx px hv0 (by omega) (by omega) (by omega) (by omega)) (.val _)) <| zE (zMl (((4 : Nat) : Int) * (pixA w h px ((x : Nat) : Int) ((y : Nat) : Int)))) <| zE (zAd (((((((8 : Nat) : Int) + (((1 : Nat) : Int) * (pixA w h px (((x : Nat) : Int) - 1) (((y : Nat) : Int) - 1)))) + (((2 : Nat) : Int) * (pixA w h px ((x : Nat) : Int) (((y : Nat) : Int) - 1)))) + (((1 : Nat) : Int) * (pixA w h px (((x : Nat) : Int) + 1) (((y : Nat) : Int) - 1)))) + (((2 : Nat) : Int) * (pixA w h px (((x : Nat) : Int) - 1) ((y : Nat) : Int)))) + (((4 : Nat) : Int) * (pixA w h px ((x : Nat) : Int) ((y : Nat) : Int))))) <| zM <| zZ) ?_
      refine kx [(46, (vin 2))] [] (zE (oAd 2 (hr := by decide)) <| zM <| zZ) ?_
      refine pwp_again (SimImp.refl _) ?_
      refine pwp_seq <| kx [(47, (vb true))] [] (zE (oBk true oLt) <| zZ) ?_
      refine pwp_seq <| pwp_cond (b := true) (by kernel_rfl) (fun _ => ?_) (fun h => by cases h)
      refine pwp_skip <| pwp_seq <| pwp_block <| pwp_seq <| kx [(13, (vin 2)), (14, (vin 1))] [] (zM <| zE (oXa ar55 sh3 (fun _ => rfl) 2) <| zM <| zM <| zZ) ?_
      refine kx [(10, (vi ((((((((8 : Nat) : Int) + (((1 : Nat) : Int) * (pixA w h px (((x : Nat) : Int) - 1) (((y : Nat) : Int) - 1)))) + (((2 : Nat) : Int) * (pixA w h px ((x : Nat) : Int) (((y : Nat) : Int) - 1)))) + (((1 : Nat) : Int) * (pixA w h px (((x : Nat) : Int) + 1) (((y : Nat) : Int) - 1)))) + (((2 : Nat) : Int) * (pixA w h px (((x : Nat) : Int) - 1) ((y : Nat) : Int)))) + (((4 : Nat) : Int) * (pixA w h px ((x : Nat) : Int) ((y : Nat) : Int)))) + (((2 : Nat) : Int) * (pixA w h px (((x : Nat) : Int) + 1) ((y : Nat) : Int))))))] [] (zM <| zM <| zM <| zE (oMl 2 (hr := by decide)) <| zM <| zM <| zM <| zE (oAd (x + 2)) <| zE (zSb (((x : Nat) : Int) + 1)) <| zM <| zM <| zE (oAd (y + 1)) <| zE (zSb ((y : Nat) : Int)) <| zC (oCc (ds := [(.val (.int .i64 ((((x : Nat) : Int) + 1)))), (.val (.int .i64 (((y : Nat) : Int))))]) [0] [(Dat.cells y4)] (p_pix (((x : Nat) : Int) + 1) ((y : Nat) : Int) w h mx px hv0 (by omega) (by omega) (by omega) (by omega)) (.val _)) <| zE (zMl (((2 : Nat) : Int) * (pixA w h px (((x : Nat) : Int) + 1) ((y : Nat) : Int)))) <| zE (zAd ((((((((8 : Nat) : Int) + (((1 : Nat) : Int) * (pixA w h px (((x : Nat) : Int) - 1) (((y : Nat) : Int) - 1)))) + (((2 : Nat) : Int) * (pixA w h px ((x : Nat) : Int) (((y : Nat) : Int) - 1)))) + (((1 : Nat) : Int) * (pixA w h px (((x : Nat) : Int) + 1) (((y : Nat) : Int) - 1)))) + (((2 : Nat) : Int) * (pixA w h px (((x : Nat) : Int) - 1) ((y : Nat) : Int)))) + (((4 : Nat) : Int) * (pixA w h px ((x : Nat) : Int) ((y : Nat) : Int)))) + (((2 : Nat) : Int) * (pixA w h px (((x : Nat) : Int) + 1) ((y : Nat) : Int))))) <| zM <| zZ) ?_
      refine kx [(46, (vin 3))] [] (zE (oAd 3 (hr := by decide)) <| zM <| zZ) ?_
      refine pwp_again (SimImp.refl _) ?_
      refine pwp_seq <| kx [(47, (vb false))] [] (zE (oBk false oLt) <| zZ) ?_
      refine pwp_seq <| pwp_cond (b := false) (by kernel_rfl) (fun h => by cases h) (fun _ => ?_)
      refine pwp_exit <| kx [(41, (vin 2))] [] (zE (oAd 2 (hr := by decide)) <| zM <| zZ) ?_
      refine pwp_again (SimImp.refl _) ?_
      refine pwp_seq <| kx [(42, (vb true))] [] (zE (oBk true oLt) <| zZ) ?_
      refine pwp_seq <| pwp_cond (b := true) (by kernel_rfl) (fun _ => ?_) (fun h => by cases h)
      refine pwp_skip <| pwp_seq <| pwp_block <| pwp_seq <| kx [(11, (vin 2)), (12, (vin 1))] [] (zM <| zE (oXa ar55 sh3 (fun _ => rfl) 2) <| zM <| zM <| zZ) ?_
      refine pwp_seq <| kx [(45, (.d y2)), (46, (vin 0))] [] (zR (oLa sh55) <| zM <| zZ) ?_
      refine pwp_block <| pwp_rounds 4 ?_
      refine pwp_round <| pwp_seq <| kx [(47, (vb true))] [] (zE (oBk true oLt) <| zZ) ?_
      refine pwp_seq <| pwp_cond (b := true) (by kernel_rfl) (fun _ => ?_) (fun h => by cases h)
      refine pwp_skip <| pwp_seq <| pwp_block <| pwp_seq <| pwp_sim (wk (l := [(1, (.ref 0 0)), (2, (.ref 1 0)), (5, (.ref 2 0)), (6, (.clo 27 [0])), (7, (.ref 3 0)), (8, (vin y)), (9, (vin x)), (10, (vi ((((((((8 : Nat) : Int) + (((1 : Nat) : Int) * (pixA w h px (((x : Nat) : Int) - 1) (((y : Nat) : Int) - 1)))) + (((2 : Nat) : Int) * (pixA w h px ((x : Nat) : Int) (((y : Nat) : Int) - 1)))) + (((1 : Nat) : Int) * (pixA w h px (((x : Nat) : Int) + 1) (((y : Nat) : Int) - 1)))) + (((2 : Nat) : Int) * (pixA w h px (((x : Nat) : Int) - 1) ((y : Nat) : Int)))) + (((4 : Nat) : Int) * (pixA w h px ((x : Nat) : Int) ((y : Nat) : Int)))) + (((2 : Nat) : Int) * (pixA w h px (((x : Nat) : Int) + 1) ((y : Nat) : Int)))))), (11, (vin 2)), (12, (vin 1)), (31, (vin h)), (32, (vin y)), (36, (vin w)), (37, (vin x)), (40, (.d y2)), (41, (vin 2)), (45, (.d y2)), (46, (vin 0)), (47, (vb true))]) (b := [(0, some y3), (1, some (bx (encRst (RRst.mk 0 0 0 [])))), (2, some [(vin w), (vin h), (vi mx), (.own 4 3 1 ou2.length)]), (3, some y1), (4, some (bm enc_i64 ou2))])) ?_
      refine kx [(13, (vin 0)), (14, (vin 1))] [] (zM <| zE (oXa ar55 sh3 (fun _ => rfl) 0) <| zM <| zM <| zZ) ?_
      refine kx [(10, (vi (((((((((8 : Nat) : Int) + (((1 : Nat) : Int) * (pixA w h px (((x : Nat) : Int) - 1) (((y : Nat) : Int) - 1)))) + (((2 : Nat) : Int) * (pixA w h px ((x : Nat) : Int) (((y : Nat) : Int) - 1)))) + (((1 : Nat) : Int) * (pixA w h px (((x : Nat) : Int) + 1) (((y : Nat) : Int) - 1)))) + (((2 : Nat) : Int) * (pixA w h px (((x : Nat) : Int) - 1) ((y : Nat) : Int)))) + (((4 : Nat) : Int) * (pixA w h px ((x : Nat) : Int) ((y : Nat) : Int)))) + (((2 : Nat) : Int) * (pixA w h px (((x : Nat) : Int) + 1) ((y : Nat) : Int)))) + (((1 : Nat) : Int) * (pixA w h px (((x : Nat) : Int) - 1) (((y : Nat) : Int) + 1))))))] [] (zM <| zM <| zM <| zE (oMl 1 (hr := by decide)) <| zM <| zM <| zM <| zE (oAd (x + 0)) <| zE (zSb (((x : Nat) : Int) - 1)) <| zM <| zM <| zE (oAd (y + 2)) <| zE (zSb (((y : Nat) : Int) + 1)) <| zC (oCc (ds := [(.val (.int .i64 ((((x : Nat) : Int) - 1)))), (.val (.int .i64 ((((y : Nat) : Int) + 1))))]) [0] [(Dat.cells y4)] (p_pix (((x : Nat) : Int) - 1) (((y : Nat) : Int) + 1) w h mx px hv0 (by omega) (by omega) (by omega) (by omega)) (.val _)) <| zE (zMl (((1 : Nat) : Int) * (pixA w h px (((x : Nat) : Int) - 1) (((y : Nat) : Int) + 1)))) <| zE (zAd (((((((((8 : Nat) : Int) + (((1 : Nat) : Int) * (pixA w h px (((x : Nat) : Int) - 1) (((y : Nat) : Int) - 1)))) + (((2 : Nat) : Int) * (pixA w h px ((x : Nat) : Int) (((y : Nat) : Int) - 1)))) + (((1 : Nat) : Int) * (pixA w h px (((x : Nat) : Int) + 1) (((y : Nat) : Int) - 1)))) + (((2 : Nat) : Int) * (pixA w h px (((x : Nat) : Int) - 1) ((y : Nat) : Int)))) + (((4 : Nat) : Int) * (pixA w h px ((x : Nat) : Int) ((y : Nat) : Int)))) + (((2 : Nat) : Int) * (pixA w h px (((x : Nat) : Int) + 1) ((y : Nat) : Int)))) + (((1 : Nat) : Int) * (pixA w h px (((x : Nat) : Int) - 1) (((y : Nat) : Int) + 1))))) <| zM <| zZ) ?_
      refine kx [(46, (vin 1))] [] (zE (oAd 1 (hr := by decide)) <| zM <| zZ) ?_
      refine pwp_again (SimImp.refl _) ?_
      refine pwp_seq <| kx [(47, (vb true))] [] (zE (oBk true oLt) <| zZ) ?_
      refine pwp_seq <| pwp_cond (b := true) (by kernel_rfl) (fun _ => ?_) (fun h => by cases h)
      refine pwp_skip <| pwp_seq <| pwp_block <| pwp_seq <| kx [(13, (vin 1)), (14, (vin 2))] [] (zM <| zE (oXa ar55 sh3 (fun _ => rfl) 1) <| zM <| zM <| zZ) ?_
      refine kx [(10, (vi ((((((((((8 : Nat) : Int) + (((1 : Nat) : Int) * (pixA w h px (((x : Nat) : Int) - 1) (((y : Nat) : Int) - 1)))) + (((2 : Nat) : Int) * (pixA w h px ((x : Nat) : Int) (((y : Nat) : Int) - 1)))) + (((1 : Nat) : Int) * (pixA w h px (((x : Nat) : Int) + 1) (((y : Nat) : Int) - 1)))) + (((2 : Nat) : Int) * (pixA w h px (((x : Nat) : Int) - 1) ((y : Nat) : Int)))) + (((4 : Nat) : Int) * (pixA w h px ((x : Nat) : Int) ((y : Nat) : Int)))) + (((2 : Nat) : Int) * (pixA w h px (((x : Nat) : Int) + 1) ((y : Nat) : Int)))) + (((1 : Nat) : Int) * (pixA w h px (((x : Nat) : Int) - 1) (((y : Nat) : Int) + 1)))) + (((2 : Nat) : Int) * (pixA w h px ((x : Nat) : Int) (((y : Nat) : Int) + 1))))))] [] (zM <| zM <| zM <| zE (oMl 2 (hr := by decide)) <| zM <| zM <| zM <| zE (oAd (x + 1)) <| zE (zSb ((x : Nat) : Int)) <| zM <| zM <| zE (oAd (y + 2)) <| zE (zSb (((y : Nat) : Int) + 1)) <| zC (oCc (ds := [(.val (.int .i64 (((x : Nat) : Int)))), (.val (.int .i64 ((((y : Nat) : Int) + 1))))]) [0] [(Dat.cells y4)] (p_pix ((x : Nat) : Int) (((y : Nat) : Int) + 1) w h mx px hv0 (by omega) (by omega) (by omega) (by omega)) (.val _)) <| zE (zMl (((2 : Nat) : Int) * (pixA w h px ((x : Nat) : Int) (((y : Nat) : Int) + 1)))) <| zE (zAd ((((((((((8 : Nat) : Int) + (((1 : Nat) : Int) * (pixA w h px (((x : Nat) : Int) - 1) (((y : Nat) : Int) - 1)))) + (((2 : Nat) : Int) * (pixA w h px ((x : Nat) : Int) (((y : Nat) : Int) - 1)))) + (((1 : Nat) : Int) * (pixA w h px (((x : Nat) : Int) + 1) (((y : Nat) : Int) - 1)))) + (((2 : Nat) : Int) * (pixA w h px (((x : Nat) : Int) - 1) ((y : Nat) : Int)))) + (((4 : Nat) : Int) * (pixA w h px ((x : Nat) : Int) ((y : Nat) : Int)))) + (((2 : Nat) : Int) * (pixA w h px (((x : Nat) : Int) + 1) ((y : Nat) : Int)))) + (((1 : Nat) : Int) * (pixA w h px (((x : Nat) : Int) - 1) (((y : Nat) : Int) + 1)))) + (((2 : Nat) : Int) * (pixA w h px ((x : Nat) : Int) (((y : Nat) : Int) + 1))))) <| zM <| zZ) ?_
      refine kx [(46, (vin 2))] [] (zE (oAd 2 (hr := by decide)) <| zM <| zZ) ?_
      refine pwp_again (SimImp.refl _) ?_
      refine pwp_seq <| kx [(47, (vb true))] [] (zE (oBk true oLt) <| zZ) ?_
      refine pwp_seq <| pwp_cond (b := true) (by kernel_rfl) (fun _ => ?_) (fun h => by cases h)
      refine pwp_skip <| pwp_seq <| pwp_block <| pwp_seq <| kx [(13, (vin 2)), (14, (vin 1))] [] (zM <| zE (oXa ar55 sh3 (fun _ => rfl) 2) <| zM <| zM <| zZ) ?_
      refine kx [(10, (vi (((((((((((8 : Nat) : Int) + (((1 : Nat) : Int) * (pixA w h px (((x : Nat) : Int) - 1) (((y : Nat) : Int) - 1)))) + (((2 : Nat) : Int) * (pixA w h px ((x : Nat) : Int) (((y : Nat) : Int) - 1)))) + (((1 : Nat) : Int) * (pixA w h px (((x : Nat) : Int) + 1) (((y : Nat) : Int) - 1)))) + (((2 : Nat) : Int) * (pixA w h px (((x : Nat) : Int) - 1) ((y : Nat) : Int)))) + (((4 : Nat) : Int) * (pixA w h px ((x : Nat) : Int) ((y : Nat) : Int)))) + (((2 : Nat) : Int) * (pixA w h px (((x : Nat) : Int) + 1) ((y : Nat) : Int)))) + (((1 : Nat) : Int) * (pixA w h px (((x : Nat) : Int) - 1) (((y : Nat) : Int) + 1)))) + (((2 : Nat) : Int) * (pixA w h px ((x : Nat) : Int) (((y : Nat) : Int) + 1)))) + (((1 : Nat) : Int) * (pixA w h px (((x : Nat) : Int) + 1) (((y : Nat) : Int) + 1))))))] [] (zM <| zM <| zM <| zE (oMl 1 (hr := by decide)) <| zM <| zM <| zM <| zE (oAd (x + 2)) <| zE (zSb (((x : Nat) : Int) + 1)) <| zM <| zM <| zE (oAd (y + 2)) <| zE (zSb (((y : Nat) : Int) + 1)) <| zC (oCc (ds := [(.val (.int .i64 ((((x : Nat) : Int) + 1)))), (.val (.int .i64 ((((y : Nat) : Int) + 1))))]) [0] [(Dat.cells y4)] (p_pix (((x : Nat) : Int) + 1) (((y : Nat) : Int) + 1) w h mx px hv0 (by omega) (by omega) (by omega) (by omega)) (.val _)) <| zE (zMl (((1 : Nat) : Int) * (pixA w h px (((x : Nat) : Int) + 1) (((y : Nat) : Int) + 1)))) <| zE (zAd (((((((((((8 : Nat) : Int) + (((1 : Nat) : Int) * (pixA w h px (((x : Nat) : Int) - 1) (((y : Nat) : Int) - 1)))) + (((2 : Nat) : Int) * (pixA w h px ((x : Nat) : Int) (((y : Nat) : Int) - 1)))) + (((1 : Nat) : Int) * (pixA w h px (((x : Nat) : Int) + 1) (((y : Nat) : Int) - 1)))) + (((2 : Nat) : Int) * (pixA w h px (((x : Nat) : Int) - 1) ((y : Nat) : Int)))) + (((4 : Nat) : Int) * (pixA w h px ((x : Nat) : Int) ((y : Nat) : Int)))) + (((2 : Nat) : Int) * (pixA w h px (((x : Nat) : Int) + 1) ((y : Nat) : Int)))) + (((1 : Nat) : Int) * (pixA w h px (((x : Nat) : Int) - 1) (((y : Nat) : Int) + 1)))) + (((2 : Nat) : Int) * (pixA w h px ((x : Nat) : Int) (((y : Nat) : Int) + 1)))) + (((1 : Nat) : Int) * (pixA w h px (((x : Nat) : Int) + 1) (((y : Nat) : Int) + 1))))) <| zM <| zZ) ?_
      refine kx [(46, (vin 3))] [] (zE (oAd 3 (hr := by decide)) <| zM <| zZ) ?_
      refine pwp_again (SimImp.refl _) ?_
      refine pwp_seq <| kx [(47, (vb false))] [] (zE (oBk false oLt) <| zZ) ?_
      refine pwp_seq <| pwp_cond (b := false) (by kernel_rfl) (fun h => by cases h) (fun _ => ?_)
      refine pwp_exit <| kx [(41, (vin 3))] [] (zE (oAd 3 (hr := by decide)) <| zM <| zZ) ?_
      refine pwp_again (SimImp.refl _) ?_
      refine pwp_seq <| kx [(42, (vb false))] [] (zE (oBk false oLt) <| zZ) ?_
      refine pwp_seq <| pwp_cond (b := false) (by kernel_rfl) (fun h => by cases h) (fun _ => ?_)
      refine pwp_exit <| pwp_sim (wk (l := [(1, (.ref 0 0)), (2, (.ref 1 0)), (5, (.ref 2 0)), (6, (.clo 27 [0])), (7, (.ref 3 0)), (8, (vin y)), (9, (vin x)), (10, (vi (((((((((((8 : Nat) : Int) + (((1 : Nat) : Int) * (pixA w h px (((x : Nat) : Int) - 1) (((y : Nat) : Int) - 1)))) + (((2 : Nat) : Int) * (pixA w h px ((x : Nat) : Int) (((y : Nat) : Int) - 1)))) + (((1 : Nat) : Int) * (pixA w h px (((x : Nat) : Int) + 1) (((y : Nat) : Int) - 1)))) + (((2 : Nat) : Int) * (pixA w h px (((x : Nat) : Int) - 1) ((y : Nat) : Int)))) + (((4 : Nat) : Int) * (pixA w h px ((x : Nat) : Int) ((y : Nat) : Int)))) + (((2 : Nat) : Int) * (pixA w h px (((x : Nat) : Int) + 1) ((y : Nat) : Int)))) + (((1 : Nat) : Int) * (pixA w h px (((x : Nat) : Int) - 1) (((y : Nat) : Int) + 1)))) + (((2 : Nat) : Int) * (pixA w h px ((x : Nat) : Int) (((y : Nat) : Int) + 1)))) + (((1 : Nat) : Int) * (pixA w h px (((x : Nat) : Int) + 1) (((y : Nat) : Int) + 1)))))), (31, (vin h)), (32, (vin y)), (36, (vin w)), (37, (vin x)), (40, (.d y2)), (41, (vin 3)), (42, (vb false))]) (b := [(0, some y3), (1, some (bx (encRst (RRst.mk 0 0 0 [])))), (2, some [(vin w), (vin h), (vi mx), (.own 4 3 1 ou2.length)]), (3, some y1), (4, some (bm enc_i64 ou2))])) ?_
      refine kf [] [(2, some [(vin w), (vin h), (vi mx), (.own 4 3 1 ((ou2 ++ [((smS w h px ((x : Nat) : Int) ((y : Nat) : Int)).tdiv 16)]).length))]), (4, some (bm enc_i64 (ou2 ++ [((smS w h px ((x : Nat) : Int) ((y : Nat) : Int)).tdiv 16)])))] (zE (oFr fo24_3) <| zR (oL1 sh22) <| zM <| zE (zQu ((smS w h px ((x : Nat) : Int) ((y : Nat) : Int)).tdiv 16) (hr := by exact (wAny rfl (by have hq := td16_bd (smS w h px ((x : Nat) : Int) ((y : Nat) : Int)); simp only [kLo]; omega) (by have hq := td16_bd (smS w h px ((x : Nat) : Int) ((y : Nat) : Int)); simp only [kHi]; omega)))) <| zE (oBs el22 ze3 zo3) <| zAm 2 3 enc_i64 ou2 [((smS w h px ((x : Nat) : Int) ((y : Nat) : Int)).tdiv 16)] rfl el22 ze3 by3 (hB := by repeat first | exact clrn_nil _ _ | refine clrn_hide ?_ | refine clrn_self ?_ | refine clrn_map ?_ | refine clrn_none ?_ | refine clrn_bx ?_ | refine clrn_d ?_ | refine clrn_cons rfl ?_) (k := 4) <| zE (oFr fo24_3) <| zT (oSx sh22) <| zF) ?_
      refine kx [(37, (vin (x + 1)))] [] (zE (oAd (x + 1)) <| zM <| zZ) ?_
      exact ⟨(x + 1, ou2 ++ [((smS w h px ((x : Nat) : Int) ((y : Nat) : Int)).tdiv 16)]), wk, ⟨by omega, sm_step ho2 (by omega)⟩, (by first | omega | (dsimp only; omega))⟩
    · replace h2 := of_decide_eq_false h2
      refine pwp_exit <| kx [(32, (vin (y + 1)))] [] (zE (oAd (y + 1)) <| zM <| zZ) ?_
      exact ⟨(y + 1, ou2), wk, ⟨by omega, sm_row ho2 (by omega)⟩, (by first | omega | (dsimp only; omega))⟩
  · replace h1 := of_decide_eq_false h1
    refine pwp_exit <| pwp_seq <| pwp_sim (publishAt (j := 2) (k := 4) (pre := [(vin w), (vin h), (vi mx)]) (post := []) (es := List.map enc_i64 out) rfl (by decide) rfl (pub_cells _ _ (fun _ => rfl)) (map_len _ _ rfl) (pub_take _ _ (fun _ => rfl) rfl)) ?_
    refine pwp_sim (wk (l := [(1, (.ref 0 0)), (2, (.ref 1 0)), (5, (.ref 2 0)), (6, (.clo 27 [0])), (7, (.ref 3 0)), (31, (vin h)), (32, (vin y)), (33, (vb (decide (((y : Nat) : Int) < ((h : Nat) : Int)))))]) (b := [(0, some y3), (1, some (bx (encRst (RRst.mk 0 0 0 [])))), (2, some (bx (encRst (RRst.mk ((w : Nat) : Int) ((h : Nat) : Int) mx out)))), (3, some y1)])) ?_
    refine kx [(3, (vin 0))] [(1, some (bx (encRst (RRst.mk ((w : Nat) : Int) ((h : Nat) : Int) mx out))))] (zR (oLa sh24) <| zT (oSt sh24) <| zM <| zZ) ?_
    refine pwp_ret ⟨_, (res_a (cs := (bx (encRst (RRst.mk ((w : Nat) : Int) ((h : Nat) : Int) mx out)))) (d := (encRst (RRst.mk ((w : Nat) : Int) ((h : Nat) : Int) mx out))) rfl rfl sh24 rfl rfl (.tmp (d := (.val (.int .i64 (((0 : Nat) : Int))))) rfl .nil)), ?_⟩
    rw [ho, sm_end (by omega)]; rfl
theorem p_smE (w h mx : Int) (px : List Int) (hb : px.length ≤ 1000000) (hc : chkC w h mx px ≠ 0) : Takes Try.prog 8 [(encRst (RRst.mk w h mx px))] (.tup [(encRst (RRst.mk 0 0 0 [])), (.val (.int .i64 (1)))]) := by
  refine fn_intro Try.func8 rfl cb8 rfl ?_
  show PWp _ _ _ _ ⟨[(0, (.d (encRst (RRst.mk w h mx px))))], []⟩
  refine pwp_seq <| kx [(1, (.ref 0 0)), (2, (.ref 1 0))] [(0, some (bx (encRst (RRst.mk w h mx px)))), (1, some (bx (encRst (RRst.mk 0 0 0 []))))] (zN (oBx 0) <| zN (oAl 1 ze24 zo24) <| zM <| zZ) ?_
  refine pwp_seq <| pwp_seq <| kx [(4, (vi (chkC w h mx px)))] [] (zR (oLa sh24) <| zE (oCl (p_chk w h mx px hb)) <| zM <| zZ) ?_
  refine pwp_seq <| kx [(18, (vb true))] [] (zM <| zE (oBk true oNe (by exact bne_iff_ne.2 hc)) <| zZ) ?_
  refine pwp_cond (b := true) (by kernel_rfl) (fun _ => ?_) (fun h => by cases h)
  refine pwp_seq <| kx [(3, (vi (chkC w h mx px)))] [(1, some (bx (encRst (RRst.mk 0 0 0 []))))] (zE (oBd pl24 ze24 zo24) <| zM <| zT (oSt sh24) <| zM <| zZ) ?_
  refine pwp_ret ⟨_, (res_a (cs := (bx (encRst (RRst.mk 0 0 0 [])))) (d := (encRst (RRst.mk 0 0 0 []))) rfl rfl sh24 rfl rfl (.tmp (d := (.val (.int .i64 ((chkC w h mx px))))) rfl .nil)), ?_⟩
  rw [chk_ko hc]; rfl
theorem p_rint (n : Int) (hnl : -9223372036854775808 ≤ n) (hnh : n ≤ 9223372036854775807) : Takes Try.prog 25 [(.val (.int .i64 (n)))] (encR (ofQ ((n : Int) : Rat))) := by
  refine fn_intro Try.func25 rfl cb25 rfl ?_
  show PWp _ _ _ _ ⟨[(0, (vi n))], []⟩
  refine pwp_seq <| kx [(2, (.ref 0 0))] [(0, some (bx (encR (RRat.mk (RInt.mk false []) (RInt.mk false [])))))] (zN (oAl 0 ze34 zo34) <| zZ) ?_
  refine pwp_seq <| kx [] [(0, some (bx (encR (ofQ ((n : Int) : Rat)))))] (zM <| zE (oCl (g_whole n (by omega) (by omega))) <| zT (oSt sh34) <| zZ) ?_
  refine pwp_ret ⟨_, (res_a (cs := (bx (encR (ofQ ((n : Int) : Rat))))) (d := (encR (ofQ ((n : Int) : Rat)))) rfl rfl sh34 rfl rfl .nil), ?_⟩
  rfl
theorem p_samR (p : Rat) (hp : QL p 60) (q : Rat) (hq : QL q 60) : Takes Try.prog 16 [(encR (ofQ p)), (encR (ofQ q))] (.val (.bool ((decide (p = q))))) := by
  refine fn_intro Try.func16 rfl cb16 rfl ?_
  show PWp _ _ _ _ ⟨[(0, (.d (encR (ofQ p)))), (1, (.d (encR (ofQ q))))], []⟩
  refine pwp_seq <| kx [(2, (.ref 0 0)), (3, (.ref 1 0))] [(0, some (bx (encR (ofQ p)))), (1, some (bx (encR (ofQ q))))] (zN (oBx 0) <| zN (oBx 1) <| zM <| zZ) ?_
  refine pwp_seq <| kx [(4, (vb (decide (p = q))))] [] (zR (oLa sh34) <| zR (oLa sh34) <| zE (oCl (by have h := g_same (ofQ p) (ofQ q) p q (qok_up (qok_of hp) (by decide)) (qok_up (qok_of hq) (by decide)); rw [sameR_of] at h; exact h)) <| zM <| zZ) ?_
  refine pwp_ret ⟨_, (.tmp (d := (.val (.bool ((decide (p = q)))))) rfl .nil), ?_⟩
  rfl
theorem p_mean (w h : Nat) (mx : Int) (px : List Int) (hv : RstOk w h px) (hb : px.length ≤ 1000000) (hc : chkC ((w : Nat) : Int) ((h : Nat) : Int) mx px = 0) : Takes Try.prog 10 [(encRst (RRst.mk ((w : Nat) : Int) ((h : Nat) : Int) mx px))] (.tup [(encR (ofQ (Rat.divInt (pySum px) ((px.length : Nat) : Int)))), (.val (.int .i64 (0)))]) := by
  have hv0 := hv
  have hpl := rst_len hv
  obtain ⟨w1, w2, w3, w4, w5, w6⟩ := hv
  have hp0 := rst_pos hv0
  refine fn_intro Try.func10 rfl cb10 rfl ?_
  show PWp _ _ _ _ ⟨[(0, (.d (encRst (RRst.mk ((w : Nat) : Int) ((h : Nat) : Int) mx px))))], []⟩
  refine pwp_seq <| kx [(1, (.ref 0 0)), (2, (.ref 1 0))] [(0, some (bx (encRst (RRst.mk ((w : Nat) : Int) ((h : Nat) : Int) mx px)))), (1, some (bx (encR (RRat.mk (RInt.mk false []) (RInt.mk false [])))))] (zN (oBx 0) <| zN (oAl 1 ze34 zo34) <| zM <| zZ) ?_
  refine pwp_seq <| pwp_seq <| kx [(4, (vi (chkC ((w : Nat) : Int) ((h : Nat) : Int) mx px)))] [] (zR (oLa sh24) <| zE (oCl (p_chk ((w : Nat) : Int) ((h : Nat) : Int) mx px hb)) <| zM <| zZ) ?_
  refine pwp_seq <| kx [(11, (vb false))] [] (zM <| zE (oBk false oNe (by exact bne_eq_false_iff_eq.2 hc)) <| zZ) ?_
  refine pwp_cond (b := false) (by kernel_rfl) (fun h => by cases h) (fun _ => ?_)
  refine pwp_skip <| pwp_seq <| kx [(5, (vin 0))] [] (zM <| zZ) ?_
  refine pwp_seq <| pwp_seq <| kx [(15, (vl 3 1 enc_i64 px)), (16, (vin px.length)), (17, (vin 0))] [] (zE (oFr fo24_3) <| zR (oL1 sh22) <| zE (oLm el22) <| zM <| zZ) ?_
  refine pwp_block <| pwp_loop (α := Nat × Int) (fun (k, m) => ⟨[(1, (.ref 0 0)), (2, (.ref 1 0)), (5, (vi m)), (15, (vl 3 1 enc_i64 px)), (16, (vin px.length)), (17, (vin k))], [(0, some (bx (encRst (RRst.mk ((w : Nat) : Int) ((h : Nat) : Int) mx px)))), (1, some (bx (encR (RRat.mk (RInt.mk false []) (RInt.mk false [])))))]⟩) (fun (k, m) => k ≤ px.length ∧ m = pySum (px.take k)) (fun (k, m) => px.length - k) (0, 0) wk ⟨Nat.zero_le _, rfl⟩ ?_
  rintro ⟨k, m⟩ ⟨hk, hm⟩
  have hmb := hm ▸ pySum_bd (Bd_take w6 k)
  rw [List.length_take] at hmb
  have hgk := w6.get (by decide) k
  refine pwp_seq <| kx [(18, (vb (decide (((k : Nat) : Int) < ((px.length : Nat) : Int)))))] [] (zE oLt <| zZ) ?_
  refine pwp_seq <| pwp_cond rfl (fun h1 => ?_) (fun h1 => ?_)
  · replace h1 := of_decide_eq_true h1
    refine pwp_skip <| pwp_seq <| pwp_block <| pwp_seq <| kx [(7, (vi (px.getD k 0)))] [] (zE (oXl el22 k (0 : Int)) <| zE (oC1 sh3) <| zM <| zZ) ?_
    refine kx [(5, (vi (m + (px.getD k 0))))] [] (zM <| zM <| zE (zAd (m + (px.getD k 0))) <| zM <| zZ) ?_
    refine kx [(17, (vin (k + 1)))] [] (zE (oAd (k + 1)) <| zM <| zZ) ?_
    exact ⟨(k + 1, m + px.getD k 0), wk, ⟨by omega, by rw [hm]; exact pySum_step (by omega)⟩, (by first | omega | (dsimp only; omega))⟩
  · replace h1 := of_decide_eq_false h1
    have hke : m = pySum px := by rw [hm, List.take_of_length_le (by omega)]
    refine pwp_exit <| pwp_seq <| kx [(3, (vi 0))] [(1, some (bx (encR (ofQ (Rat.divInt m ((px.length : Nat) : Int))))))] (zM <| zE (oFr fo24_3) <| zR (oL1 sh22) <| zE (oLm el22) <| zE (oCl (q_of m (by omega) (by omega) ((px.length : Nat) : Int) (by omega) (by omega) (by omega))) <| zE oEx <| zE oEx <| zT (oSt sh34) <| zM <| zZ) ?_
    refine pwp_ret ⟨_, (res_a (cs := (bx (encR (ofQ (Rat.divInt m ((px.length : Nat) : Int)))))) (d := (encR (ofQ (Rat.divInt m ((px.length : Nat) : Int))))) rfl rfl sh34 rfl rfl (.tmp (d := (.val (.int .i64 (0)))) rfl .nil)), ?_⟩
    rw [hke]; rfl
theorem p_meanE (w h mx : Int) (px : List Int) (hb : px.length ≤ 1000000) (hc : chkC w h mx px ≠ 0) : Takes Try.prog 10 [(encRst (RRst.mk w h mx px))] (.tup [(encR (RRat.mk (RInt.mk false []) (RInt.mk false []))), (.val (.int .i64 (1)))]) := by
  refine fn_intro Try.func10 rfl cb10 rfl ?_
  show PWp _ _ _ _ ⟨[(0, (.d (encRst (RRst.mk w h mx px))))], []⟩
  refine pwp_seq <| kx [(1, (.ref 0 0)), (2, (.ref 1 0))] [(0, some (bx (encRst (RRst.mk w h mx px)))), (1, some (bx (encR (RRat.mk (RInt.mk false []) (RInt.mk false [])))))] (zN (oBx 0) <| zN (oAl 1 ze34 zo34) <| zM <| zZ) ?_
  refine pwp_seq <| pwp_seq <| kx [(4, (vi (chkC w h mx px)))] [] (zR (oLa sh24) <| zE (oCl (p_chk w h mx px hb)) <| zM <| zZ) ?_
  refine pwp_seq <| kx [(11, (vb true))] [] (zM <| zE (oBk true oNe (by exact bne_iff_ne.2 hc)) <| zZ) ?_
  refine pwp_cond (b := true) (by kernel_rfl) (fun _ => ?_) (fun h => by cases h)
  refine pwp_seq <| kx [(3, (vi (chkC w h mx px)))] [(1, some (bx (encR (RRat.mk (RInt.mk false []) (RInt.mk false [])))))] (zE (oBd pl34 ze34 zo34) <| zM <| zT (oSt sh34) <| zM <| zZ) ?_
  refine pwp_ret ⟨_, (res_a (cs := (bx (encR (RRat.mk (RInt.mk false []) (RInt.mk false []))))) (d := (encR (RRat.mk (RInt.mk false []) (RInt.mk false [])))) rfl rfl sh34 rfl rfl (.tmp (d := (.val (.int .i64 ((chkC w h mx px))))) rfl .nil)), ?_⟩
  rw [chk_ko hc]; rfl
end Go.Proofs.Ytleidgohjckmlaa
set_option linter.unusedVariables false
set_option linter.unusedSimpArgs false
namespace Go.Proofs.Ytleidgohjckmlaa
open Go.Fid
theorem kn_r : RstOk 3 2 [5, 2, 9, 4, 4, 0] := ⟨by decide, by decide, by decide, by decide, rfl, fun x hx => by simp at hx; omega⟩
theorem kn_s : RstOk 3 1 [0, 0, 16] := ⟨by decide, by decide, by decide, by decide, rfl, fun x hx => by simp at hx; omega⟩
end Go.Proofs.Ytleidgohjckmlaa
set_option linter.unusedVariables false
set_option linter.unusedSimpArgs false
namespace Go.Fid
end Go.Fid
namespace Go.Proofs.Ytleidgohjckmlaa
open Go.Fid
set_option maxRecDepth 4000
set_option linter.unusedVariables false
set_option linter.unusedSimpArgs false
theorem cb6 : callB Try.prog 6 = true := by kernel_rfl
theorem p_known  : Takes Try.prog 6 [] (.val (.bool (true))) := by
  have hkr := kn_r
  have hks := kn_s
  let y1 := [((5 : Nat) : Int), ((2 : Nat) : Int), ((9 : Nat) : Int), ((4 : Nat) : Int), ((4 : Nat) : Int), ((0 : Nat) : Int)]
  refine fn_intro Try.func6 rfl cb6 rfl ?_
  show PWp _ _ _ _ ⟨[], []⟩
  refine pwp_seq <| kx [] [] (zM <| zZ) ?_
  refine pwp_seq <| kx [(1, (.ref 0 0))] [(0, some (bx (encRst (RRst.mk ((3 : Nat) : Int) ((2 : Nat) : Int) ((9 : Nat) : Int) y1))))] (zE (oBs el22 ze3 zo3) <| zE (oBd pl24 ze24 zo24) <| zN (oAl 0 ze24 zo24) <| zT (oSt sh24) <| zZ) ?_
  refine pwp_seq <| kx [(2, (.ref 1 0)), (3, (vi 0))] [(1, some (bx (encBnd (RBnd.mk ((3 : Nat) : Int) ((2 : Nat) : Int) ((9 : Nat) : Int) (bLow 3 2 y1) (bRight 3 2 y1) (bDown 3 2 y1) (bCorner 3 2 y1)))))] (zR (oLa sh24) <| zE (oCl (p_splO 3 2 ((9 : Nat) : Int) y1 kn_r (by decide +kernel) (by decide +kernel))) <| zM <| zE oEx <| zE oEx <| zN (oAl 1 ze44 zo44) <| zT (oSt sh44) <| zM <| zZ) ?_
  refine pwp_seq <| kx [(4, (.ref 2 0)), (5, (vi 0))] [(2, some (bx (encRst (RRst.mk ((3 : Nat) : Int) ((2 : Nat) : Int) ((9 : Nat) : Int) (pxJ 3 2 (bLow 3 2 y1) (bRight 3 2 y1) (bDown 3 2 y1) (bCorner 3 2 y1))))))] (zR (oLa sh44) <| zE (oCl (p_joV 3 2 ((9 : Nat) : Int) (bLow 3 2 y1) (bRight 3 2 y1) (bDown 3 2 y1) (bCorner 3 2 y1) (by decide +kernel) (by decide +kernel) (by decide +kernel) (by decide +kernel) (by decide +kernel) (bands_ok kn_r) (by decide +kernel))) <| zM <| zE oEx <| zE oEx <| zN (oAl 2 ze24 zo24) <| zT (oSt sh24) <| zM <| zZ) ?_
  refine pwp_seq <| kx [(6, (.ref 3 0)), (7, (vi 0))] [(3, some (bx (encRst (RRst.mk ((3 : Nat) : Int) ((1 : Nat) : Int) ((16 : Nat) : Int) (smV 3 1 [((0 : Nat) : Int), ((0 : Nat) : Int), ((16 : Nat) : Int)])))))] (zE (oBs el22 ze3 zo3) <| zE (oBd pl24 ze24 zo24) <| zE (oCl (p_smo 3 1 ((16 : Nat) : Int) [((0 : Nat) : Int), ((0 : Nat) : Int), ((16 : Nat) : Int)] kn_s (by decide +kernel) (by decide +kernel))) <| zM <| zE oEx <| zE oEx <| zN (oAl 3 ze24 zo24) <| zT (oSt sh24) <| zM <| zZ) ?_
  refine pwp_seq <| kx [(8, (.ref 4 0)), (9, (vi 0))] [(4, some (bx (encR (ofQ (Rat.divInt (pySum y1) ((y1.length : Nat) : Int))))))] (zR (oLa sh24) <| zE (oCl (p_mean 3 2 ((9 : Nat) : Int) y1 kn_r (by decide +kernel) (by decide +kernel))) <| zM <| zE oEx <| zE oEx <| zN (oAl 4 ze34 zo34) <| zT (oSt sh34) <| zM <| zZ) ?_
  refine pwp_seq <| kd [(0, (vb true))] [] mo (wM <| wM <| wE (oAd 0 (hr := by decide)) <| wM <| wE (oAd 0 (hr := by decide)) <| wM <| wE (oAd 0 (hr := by decide)) <| wE (oBk true oEq) <| wM <| wE (oFr fo44_3) <| wR (oL1 sh22) <| wE (oBs el22 ze3 zo3) <| wE (oBk true (oCl (p_eq (bLow 3 2 y1) [((3 : Nat) : Int), ((4 : Nat) : Int)] (by decide +kernel))) (by exact beq_iff_eq.2 (by decide +kernel))) <| wE oPt <| wM <| wE (oFr fo44_4) <| wR (oL1 sh22) <| wE (oBs el22 ze3 zo3) <| wE (oBk true (oCl (p_eq (bRight 3 2 y1) [((1 : Nat) : Int)] (by decide +kernel))) (by exact beq_iff_eq.2 (by decide +kernel))) <| wE oPt <| wM <| wE (oFr fo44_5) <| wR (oL1 sh22) <| wE (oBs el22 ze3 zo3) <| wE (oBk true (oCl (p_eq (bDown 3 2 y1) [-1, ((9 : Nat) : Int)] (by decide +kernel))) (by exact beq_iff_eq.2 (by decide +kernel))) <| wE oPt <| wM <| wE (oFr fo44_6) <| wR (oL1 sh22) <| wE (oBs el22 ze3 zo3) <| wE (oBk true (oCl (p_eq (bCorner 3 2 y1) [((3 : Nat) : Int)] (by decide +kernel))) (by exact beq_iff_eq.2 (by decide +kernel))) <| wE oPt <| wM <| wR (oLa sh24) <| wR (oLa sh24) <| wE (oBk true (oCl (p_same ((3 : Nat) : Int) ((2 : Nat) : Int) ((9 : Nat) : Int) (pxJ 3 2 (bLow 3 2 y1) (bRight 3 2 y1) (bDown 3 2 y1) (bCorner 3 2 y1)) ((3 : Nat) : Int) ((2 : Nat) : Int) ((9 : Nat) : Int) y1 (by decide +kernel))) (by exact (by decide +kernel))) <| wE oPt <| wM <| wE (oFr fo24_3) <| wR (oL1 sh22) <| wE (oBs el22 ze3 zo3) <| wE (oBk true (oCl (p_eq (smV 3 1 [((0 : Nat) : Int), ((0 : Nat) : Int), ((16 : Nat) : Int)]) [((0 : Nat) : Int), ((4 : Nat) : Int), ((12 : Nat) : Int)] (by decide +kernel))) (by exact beq_iff_eq.2 (by decide +kernel))) <| wE oPt <| wM <| wR (oLa sh34) <| wE (oCl (p_rint ((4 : Nat) : Int) (by omega) (by omega))) <| wE (oBk true (oCl (p_samR (Rat.divInt (pySum y1) ((y1.length : Nat) : Int)) (ql_up (mean_ql (by assumption)) (by decide)) ((4 : Int) : Rat) (ql_up (ql_int (z := 4) (n := 3) (lenZ_int (by omega) (by omega)) (by decide)) (by decide)))) (by exact decide_eq_true (by decide +kernel))) <| wE oPt <| wM <| wZ) ?_
  refine pwp_ret ⟨_, (.tmp (d := (.val (.bool (true)))) rfl .nil), ?_⟩
  rfl
end Go.Proofs.Ytleidgohjckmlaa
