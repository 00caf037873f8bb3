/- Part 13 of a proof: rules, plain facts, and functions walked. -/
import Derived.Test.YtadkkhdnccljcaaGreatM12
namespace Go.Proofs.YtadkkhdnccljcaaGreat
open Go.Fid
set_option maxRecDepth 4000
set_option linter.unusedVariables false
set_option linter.unusedSimpArgs false
theorem cb10 : callB Tryz.prog 10 = true := by kernel_rfl
theorem el36 : elemB Tryz.prog 36 = some (3, 1) := by kernel_rfl
theorem w_errN0 (h : A9 RInt) (h0 h1 h2 h3 h4 h5 h6 h7 h8 : Int) (hh0 : IOk h.a0 h0 140737488355328) (hh1 : IOk h.a1 h1 140737488355328) (hh2 : IOk h.a2 h2 140737488355328) (hh3 : IOk h.a3 h3 140737488355328) (hh4 : IOk h.a4 h4 140737488355328) (hh5 : IOk h.a5 h5 140737488355328) (hh6 : IOk h.a6 h6 140737488355328) (hh7 : IOk h.a7 h7 140737488355328) (hh8 : IOk h.a8 h8 140737488355328) (fx fy tx ty : Int) (hbx : List.all [h.a0, h.a1, h.a2, h.a3, h.a4, h.a5, h.a6, h.a7, h.a8] short4 = false) : Takes Tryz.prog 10 [(encA31 h), (encPair (RPair.mk (RPix.mk fx fy) (RPix.mk tx ty)))] (.val (.bool (true))) := by
  refine fn_intro Tryz.func10 rfl cb10 rfl ?_
  show PWp _ _ _ _ ⟨[(0, (.d (encA31 h))), (1, (.d (encPair (RPair.mk (RPix.mk fx fy) (RPix.mk tx ty)))))], []⟩
  refine pwp_seq <| kx [(2, (.ref 0 0)), (3, (.ref 1 0))] [(0, some (bx (encA31 h))), (1, some (bx (encPair (RPair.mk (RPix.mk fx fy) (RPix.mk tx ty)))))] (zN (oBx 0) <| zN (oBx 1) <| zM <| zZ) ?_
  refine pwp_seq <| pwp_seq <| kx [(17, (vb false))] [] (zE (oCl l_known27) <| zE oNt <| zZ) ?_
  refine pwp_cond (b := false) (by kernel_rfl) (fun h => by cases h) (fun _ => ?_)
  refine pwp_skip <| pwp_seq <| pwp_seq <| kx [(21, (vb true))] [] (zR (oLa sh32) <| zE (oCl (l_map1 h h0 h1 h2 h3 h4 h5 h6 h7 h8 hh0 hh1 hh2 hh3 hh4 hh5 hh6 hh7 hh8)) <| zE (oCl (tk_nil (l_briefF10_0 h h0 h1 h2 h3 h4 h5 h6 h7 h8 hh0 hh1 hh2 hh3 hh4 hh5 hh6 hh7 hh8 hbx) (.same (.cut 44 6 .nil)))) <| zE oNt <| zZ) ?_
  refine pwp_cond (b := true) (by kernel_rfl) (fun _ => ?_) (fun h => by cases h)
  refine pwp_seq <| kx [(4, (vb true))] [] (zM <| zZ) ?_
  refine pwp_ret ⟨_, (.tmp (d := (.val (.bool (true)))) rfl .nil), ?_⟩
  rfl
theorem w_errE (h : A9 RInt) (h0 h1 h2 h3 h4 h5 h6 h7 h8 : Int) (hh0 : IOk h.a0 h0 4) (hh1 : IOk h.a1 h1 4) (hh2 : IOk h.a2 h2 4) (hh3 : IOk h.a3 h3 4) (hh4 : IOk h.a4 h4 4) (hh5 : IOk h.a5 h5 4) (hh6 : IOk h.a6 h6 4) (hh7 : IOk h.a7 h7 4) (hh8 : IOk h.a8 h8 4) (fx fy tx ty : Int) (hb0 : List.all [h.a0, h.a1, h.a2, h.a3, h.a4, h.a5, h.a6, h.a7, h.a8] short4 = true) (hv : valH [h.a0, h.a1, h.a2, h.a3, h.a4, h.a5, h.a6, h.a7, h.a8] (det3 h0 h1 h2 h3 h4 h5 h6 h7 h8) = false) : Takes Tryz.prog 10 [(encA31 h), (encPair (RPair.mk (RPix.mk fx fy) (RPix.mk tx ty)))] (.val (.bool (true))) := by
  let y1 := (RRat.mk (RInt.mk false []) (RInt.mk false []))
  refine fn_intro Tryz.func10 rfl cb10 rfl ?_
  show PWp _ _ _ _ ⟨[(0, (.d (encA31 h))), (1, (.d (encPair (RPair.mk (RPix.mk fx fy) (RPix.mk tx ty)))))], []⟩
  refine pwp_seq <| kx [(2, (.ref 0 0)), (3, (.ref 1 0))] [(0, some (bx (encA31 h))), (1, some (bx (encPair (RPair.mk (RPix.mk fx fy) (RPix.mk tx ty)))))] (zN (oBx 0) <| zN (oBx 1) <| zM <| zZ) ?_
  refine pwp_seq <| pwp_seq <| kx [(17, (vb false))] [] (zE (oCl l_known27) <| zE oNt <| zZ) ?_
  refine pwp_cond (b := false) (by kernel_rfl) (fun h => by cases h) (fun _ => ?_)
  refine pwp_skip <| pwp_seq <| pwp_seq <| kx [(21, (vb false))] [] (zR (oLa sh32) <| zE (oCl (l_map1 h h0 h1 h2 h3 h4 h5 h6 h7 h8 (iu hh0) (iu hh1) (iu hh2) (iu hh3) (iu hh4) (iu hh5) (iu hh6) (iu hh7) (iu hh8))) <| zE (oCl (tk_nil (l_briefT10 h h0 h1 h2 h3 h4 h5 h6 h7 h8 (iu hh0) (iu hh1) (iu hh2) (iu hh3) (iu hh4) (iu hh5) (iu hh6) (iu hh7) (iu hh8) hb0) (.same (.cut 44 6 .nil)))) <| zE oNt <| zZ) ?_
  refine pwp_cond (b := false) (by kernel_rfl) (fun h => by cases h) (fun _ => ?_)
  refine pwp_skip <| pwp_seq <| kx [(5, (.ref 2 0)), (6, (vi 1))] [(2, some (bx (encR y1)))] (zR (oLa sh32) <| zR (oLa sh25) <| zE (oCl (d_errE h h0 h1 h2 h3 h4 h5 h6 h7 h8 (iu hh0) (iu hh1) (iu hh2) (iu hh3) (iu hh4) (iu hh5) (iu hh6) (iu hh7) (iu hh8) fx fy tx ty hv)) <| zM <| zE oEx <| zE oEx <| zN (oAl 2 ze67 zo67) <| zT (oSt sh67) <| zM <| zZ) ?_
  refine pwp_seq <| kx [(7, (vin 0))] [] (zM <| zZ) ?_
  refine pwp_seq <| pwp_seq <| kx [(30, (vb true))] [] (zR (oLa sh32) <| zE (oBk false (oCl (l_valid h h0 h1 h2 h3 h4 h5 h6 h7 h8 (iu hh0) (iu hh1) (iu hh2) (iu hh3) (iu hh4) (iu hh5) (iu hh6) (iu hh7) (iu hh8))) (by exact hv)) <| zE oNt <| zZ) ?_
  refine pwp_cond (b := true) (by kernel_rfl) (fun _ => ?_) (fun h => by cases h)
  refine kx [(7, (vin 1))] [] (zM <| zZ) ?_
  refine pwp_seq <| pwp_seq <| kx [(43, (vl 3 1 enc_i64 [fx, fy, tx, ty])), (44, (vin 4)), (45, (vin 0))] [] (zE (oFr fo25_0) <| zE (oFr fo23_0) <| zR (oL1 sh3) <| zE (oFr fo25_0) <| zE (oFr fo23_1) <| zR (oL1 sh3) <| zE (oFr fo25_1) <| zE (oFr fo23_0) <| zR (oL1 sh3) <| zE (oFr fo25_1) <| zE (oFr fo23_1) <| zR (oL1 sh3) <| zE (oBs el36 ze3 zo3) <| zE (oLn el36 4) <| zM <| zZ) ?_
  refine pwp_block <| pwp_rounds 20 ?_
  refine pwp_round <| pwp_seq <| kx [(46, (vb true))] [] (zE (oBk true oLt) <| zZ) ?_
  refine pwp_seq <| pwp_cond (b := true) (by kernel_rfl) (fun _ => ?_) (fun h => by cases h)
  refine pwp_skip <| pwp_seq <| pwp_block <| pwp_seq <| kx [(9, (vi fx))] [] (zE (oXs el36 0) <| zE (oC1 sh3) <| zM <| zZ) ?_
  refine pwp_seq <| kx [(58, (vb false))] [] (zM <| zE oEq <| zM <| zK <| zK <| zK <| zK <| zK <| zK <| zE oPf <| zZ) ?_
  refine pwp_cond (b := false) (by kernel_rfl) (fun h => by cases h) (fun _ => ?_)
  refine pwp_skip <| kx [(45, (vin 1))] [] (zE (oAd 1 (hr := by decide)) <| zM <| zZ) ?_
  refine pwp_again (SimImp.refl _) ?_
  refine pwp_seq <| kx [(46, (vb true))] [] (zE (oBk true oLt) <| zZ) ?_
  refine pwp_seq <| pwp_cond (b := true) (by kernel_rfl) (fun _ => ?_) (fun h => by cases h)
  refine pwp_skip <| pwp_seq <| pwp_block <| pwp_seq <| kx [(9, (vi fy))] [] (zE (oXs el36 1) <| zE (oC1 sh3) <| zM <| zZ) ?_
  refine pwp_seq <| pwp_sim (wk (l := [(2, (.ref 0 0)), (3, (.ref 1 0)), (5, (.ref 2 0)), (6, (vi 1)), (7, (vin 1)), (9, (vi fy)), (43, (vl 3 1 enc_i64 [fx, fy, tx, ty])), (44, (vin 4)), (45, (vin 1))]) (b := [(0, some (bx (encA31 h))), (1, some (bx (encPair (RPair.mk (RPix.mk fx fy) (RPix.mk tx ty))))), (2, some (bx (encR y1)))])) ?_
  refine kx [(58, (vb false))] [] (zM <| zE oEq <| zM <| zK <| zK <| zK <| zK <| zK <| zK <| zE oPf <| zZ) ?_
  refine pwp_cond (b := false) (by kernel_rfl) (fun h => by cases h) (fun _ => ?_)
  refine pwp_skip <| kx [(45, (vin 2))] [] (zE (oAd 2 (hr := by decide)) <| zM <| zZ) ?_
  refine pwp_again (SimImp.refl _) ?_
  refine pwp_seq <| kx [(46, (vb true))] [] (zE (oBk true oLt) <| zZ) ?_
  refine pwp_seq <| pwp_cond (b := true) (by kernel_rfl) (fun _ => ?_) (fun h => by cases h)
  refine pwp_skip <| pwp_seq <| pwp_block <| pwp_seq <| kx [(9, (vi tx))] [] (zE (oXs el36 2) <| zE (oC1 sh3) <| zM <| zZ) ?_
  refine pwp_seq <| kx [(58, (vb false))] [] (zM <| zE oEq <| zM <| zK <| zK <| zK <| zK <| zK <| zK <| zE oPf <| zZ) ?_
  refine pwp_cond (b := false) (by kernel_rfl) (fun h => by cases h) (fun _ => ?_)
  refine pwp_skip <| kx [(45, (vin 3))] [] (zE (oAd 3 (hr := by decide)) <| zM <| zZ) ?_
  refine pwp_again (SimImp.refl _) ?_
  refine pwp_seq <| kx [(46, (vb true))] [] (zE (oBk true oLt) <| zZ) ?_
  refine pwp_seq <| pwp_cond (b := true) (by kernel_rfl) (fun _ => ?_) (fun h => by cases h)
  refine pwp_skip <| pwp_seq <| pwp_block <| pwp_seq <| kx [(9, (vi ty))] [] (zE (oXs el36 3) <| zE (oC1 sh3) <| zM <| zZ) ?_
  refine pwp_seq <| kx [(58, (vb false))] [] (zM <| zE oEq <| zM <| zK <| zK <| zK <| zK <| zK <| zK <| zE oPf <| zZ) ?_
  refine pwp_cond (b := false) (by kernel_rfl) (fun h => by cases h) (fun _ => ?_)
  refine pwp_skip <| kx [(45, (vin 4))] [] (zE (oAd 4 (hr := by decide)) <| zM <| zZ) ?_
  refine pwp_again (SimImp.refl _) ?_
  refine pwp_seq <| kx [(46, (vb false))] [] (zE (oBk false oLt) <| zZ) ?_
  refine pwp_seq <| pwp_cond (b := false) (by kernel_rfl) (fun h => by cases h) (fun _ => ?_)
  refine pwp_exit <| pwp_seq <| kx [(10, (.ref 3 0))] [(3, some (bx (encPlace (RPlace.mk y1 y1))))] (zE (oBd pl91 ze91 zo91) <| zN (oAl 3 ze91 zo91) <| zT (oSt sh91) <| zZ) ?_
  refine pwp_seq <| pwp_seq <| kx [(62, (vb false))] [] (zM <| zE oEq <| zZ) ?_
  refine pwp_cond (b := false) (by kernel_rfl) (fun h => by cases h) (fun _ => ?_)
  refine pwp_skip <| pwp_seq <| pwp_seq <| kx [(76, (vb true))] [] (zM <| zE oNe <| zZ) ?_
  refine pwp_cond (b := true) (by kernel_rfl) (fun _ => ?_) (fun h => by cases h)
  refine pwp_seq <| pwp_sim (wk (l := [(2, (.ref 0 0)), (3, (.ref 1 0)), (5, (.ref 2 0)), (6, (vi 1)), (7, (vin 1)), (10, (.ref 3 0)), (76, (vb true))]) (b := [(0, some (bx (encA31 h))), (1, some (bx (encPair (RPair.mk (RPix.mk fx fy) (RPix.mk tx ty))))), (2, some (bx (encR y1))), (3, some (bx (encPlace (RPlace.mk y1 y1))))])) ?_
  refine kx [(4, (vb true))] [] (zM <| zM <| zE oEq <| zM <| zR (oLa sh67) <| zE (oCl g_zeroT) <| zE oPt <| zM <| zZ) ?_
  refine pwp_ret ⟨_, (.tmp (d := (.val (.bool (true)))) rfl .nil), ?_⟩
  rfl
theorem w_errR00 (h : A9 RInt) (h0 h1 h2 h3 h4 h5 h6 h7 h8 : Int) (hh0 : IOk h.a0 h0 4) (hh1 : IOk h.a1 h1 4) (hh2 : IOk h.a2 h2 4) (hh3 : IOk h.a3 h3 4) (hh4 : IOk h.a4 h4 4) (hh5 : IOk h.a5 h5 4) (hh6 : IOk h.a6 h6 4) (hh7 : IOk h.a7 h7 4) (hh8 : IOk h.a8 h8 4) (fx fy tx ty : Int) (hb0 : List.all [h.a0, h.a1, h.a2, h.a3, h.a4, h.a5, h.a6, h.a7, h.a8] short4 = true) (hv : valH [h.a0, h.a1, h.a2, h.a3, h.a4, h.a5, h.a6, h.a7, h.a8] (det3 h0 h1 h2 h3 h4 h5 h6 h7 h8) = true) (hl : fx < -1048576) (hr : inR fx fy = false) : Takes Tryz.prog 10 [(encA31 h), (encPair (RPair.mk (RPix.mk fx fy) (RPix.mk tx ty)))] (.val (.bool (true))) := by
  let y1 := (RRat.mk (RInt.mk false []) (RInt.mk false []))
  refine fn_intro Tryz.func10 rfl cb10 rfl ?_
  show PWp _ _ _ _ ⟨[(0, (.d (encA31 h))), (1, (.d (encPair (RPair.mk (RPix.mk fx fy) (RPix.mk tx ty)))))], []⟩
  refine pwp_seq <| kx [(2, (.ref 0 0)), (3, (.ref 1 0))] [(0, some (bx (encA31 h))), (1, some (bx (encPair (RPair.mk (RPix.mk fx fy) (RPix.mk tx ty)))))] (zN (oBx 0) <| zN (oBx 1) <| zM <| zZ) ?_
  refine pwp_seq <| pwp_seq <| kx [(17, (vb false))] [] (zE (oCl l_known27) <| zE oNt <| zZ) ?_
  refine pwp_cond (b := false) (by kernel_rfl) (fun h => by cases h) (fun _ => ?_)
  refine pwp_skip <| pwp_seq <| pwp_seq <| kx [(21, (vb false))] [] (zR (oLa sh32) <| zE (oCl (l_map1 h h0 h1 h2 h3 h4 h5 h6 h7 h8 (iu hh0) (iu hh1) (iu hh2) (iu hh3) (iu hh4) (iu hh5) (iu hh6) (iu hh7) (iu hh8))) <| zE (oCl (tk_nil (l_briefT10 h h0 h1 h2 h3 h4 h5 h6 h7 h8 (iu hh0) (iu hh1) (iu hh2) (iu hh3) (iu hh4) (iu hh5) (iu hh6) (iu hh7) (iu hh8) hb0) (.same (.cut 44 6 .nil)))) <| zE oNt <| zZ) ?_
  refine pwp_cond (b := false) (by kernel_rfl) (fun h => by cases h) (fun _ => ?_)
  refine pwp_skip <| pwp_seq <| kx [(5, (.ref 2 0)), (6, (vi 2))] [(2, some (bx (encR y1)))] (zR (oLa sh32) <| zR (oLa sh25) <| zE (oCl (d_errR0 h h0 h1 h2 h3 h4 h5 h6 h7 h8 (iu hh0) (iu hh1) (iu hh2) (iu hh3) (iu hh4) (iu hh5) (iu hh6) (iu hh7) (iu hh8) fx fy tx ty hv hr)) <| zM <| zE oEx <| zE oEx <| zN (oAl 2 ze67 zo67) <| zT (oSt sh67) <| zM <| zZ) ?_
  refine pwp_seq <| kx [(7, (vin 0))] [] (zM <| zZ) ?_
  refine pwp_seq <| pwp_seq <| kx [(30, (vb false))] [] (zR (oLa sh32) <| zE (oBk true (oCl (l_valid h h0 h1 h2 h3 h4 h5 h6 h7 h8 (iu hh0) (iu hh1) (iu hh2) (iu hh3) (iu hh4) (iu hh5) (iu hh6) (iu hh7) (iu hh8))) (by exact hv)) <| zE oNt <| zZ) ?_
  refine pwp_cond (b := false) (by kernel_rfl) (fun h => by cases h) (fun _ => ?_)
  refine pwp_skip <| pwp_seq <| pwp_seq <| kx [(43, (vl 3 1 enc_i64 [fx, fy, tx, ty])), (44, (vin 4)), (45, (vin 0))] [] (zE (oFr fo25_0) <| zE (oFr fo23_0) <| zR (oL1 sh3) <| zE (oFr fo25_0) <| zE (oFr fo23_1) <| zR (oL1 sh3) <| zE (oFr fo25_1) <| zE (oFr fo23_0) <| zR (oL1 sh3) <| zE (oFr fo25_1) <| zE (oFr fo23_1) <| zR (oL1 sh3) <| zE (oBs el36 ze3 zo3) <| zE (oLn el36 4) <| zM <| zZ) ?_
  refine pwp_block <| pwp_rounds 20 ?_
  refine pwp_round <| pwp_seq <| kx [(46, (vb true))] [] (zE (oBk true oLt) <| zZ) ?_
  refine pwp_seq <| pwp_cond (b := true) (by kernel_rfl) (fun _ => ?_) (fun h => by cases h)
  refine pwp_skip <| pwp_seq <| pwp_block <| pwp_seq <| kx [(9, (vi fx))] [] (zE (oXs el36 0) <| zE (oC1 sh3) <| zM <| zZ) ?_
  refine pwp_seq <| kx [(58, (vb true))] [] (zM <| zE oEq <| zM <| zM <| zE (oBk true oLt (by exact decide_eq_true hl)) <| zM <| zK <| zK <| zE oPt <| zE oPt <| zZ) ?_
  refine pwp_cond (b := true) (by kernel_rfl) (fun _ => ?_) (fun h => by cases h)
  refine kx [(7, (vin 2))] [] (zM <| zZ) ?_
  refine kx [(45, (vin 1))] [] (zE (oAd 1 (hr := by decide)) <| zM <| zZ) ?_
  refine pwp_again (SimImp.refl _) ?_
  refine pwp_seq <| kx [(46, (vb true))] [] (zE (oBk true oLt) <| zZ) ?_
  refine pwp_seq <| pwp_cond (b := true) (by kernel_rfl) (fun _ => ?_) (fun h => by cases h)
  refine pwp_skip <| pwp_seq <| pwp_block <| pwp_seq <| kx [(9, (vi fy))] [] (zE (oXs el36 1) <| zE (oC1 sh3) <| zM <| zZ) ?_
  refine pwp_seq <| pwp_sim (wk (l := [(2, (.ref 0 0)), (3, (.ref 1 0)), (5, (.ref 2 0)), (6, (vi 2)), (7, (vin 2)), (9, (vi fy)), (43, (vl 3 1 enc_i64 [fx, fy, tx, ty])), (44, (vin 4)), (45, (vin 1))]) (b := [(0, some (bx (encA31 h))), (1, some (bx (encPair (RPair.mk (RPix.mk fx fy) (RPix.mk tx ty))))), (2, some (bx (encR y1)))])) ?_
  refine kx [(58, (vb false))] [] (zM <| zE oEq <| zM <| zK <| zK <| zK <| zK <| zK <| zK <| zE oPf <| zZ) ?_
  refine pwp_cond (b := false) (by kernel_rfl) (fun h => by cases h) (fun _ => ?_)
  refine pwp_skip <| kx [(45, (vin 2))] [] (zE (oAd 2 (hr := by decide)) <| zM <| zZ) ?_
  refine pwp_again (SimImp.refl _) ?_
  refine pwp_seq <| kx [(46, (vb true))] [] (zE (oBk true oLt) <| zZ) ?_
  refine pwp_seq <| pwp_cond (b := true) (by kernel_rfl) (fun _ => ?_) (fun h => by cases h)
  refine pwp_skip <| pwp_seq <| pwp_block <| pwp_seq <| kx [(9, (vi tx))] [] (zE (oXs el36 2) <| zE (oC1 sh3) <| zM <| zZ) ?_
  refine pwp_seq <| kx [(58, (vb false))] [] (zM <| zE oEq <| zM <| zK <| zK <| zK <| zK <| zK <| zK <| zE oPf <| zZ) ?_
  refine pwp_cond (b := false) (by kernel_rfl) (fun h => by cases h) (fun _ => ?_)
  refine pwp_skip <| kx [(45, (vin 3))] [] (zE (oAd 3 (hr := by decide)) <| zM <| zZ) ?_
  refine pwp_again (SimImp.refl _) ?_
  refine pwp_seq <| kx [(46, (vb true))] [] (zE (oBk true oLt) <| zZ) ?_
  refine pwp_seq <| pwp_cond (b := true) (by kernel_rfl) (fun _ => ?_) (fun h => by cases h)
  refine pwp_skip <| pwp_seq <| pwp_block <| pwp_seq <| kx [(9, (vi ty))] [] (zE (oXs el36 3) <| zE (oC1 sh3) <| zM <| zZ) ?_
  refine pwp_seq <| kx [(58, (vb false))] [] (zM <| zE oEq <| zM <| zK <| zK <| zK <| zK <| zK <| zK <| zE oPf <| zZ) ?_
  refine pwp_cond (b := false) (by kernel_rfl) (fun h => by cases h) (fun _ => ?_)
  refine pwp_skip <| kx [(45, (vin 4))] [] (zE (oAd 4 (hr := by decide)) <| zM <| zZ) ?_
  refine pwp_again (SimImp.refl _) ?_
  refine pwp_seq <| kx [(46, (vb false))] [] (zE (oBk false oLt) <| zZ) ?_
  refine pwp_seq <| pwp_cond (b := false) (by kernel_rfl) (fun h => by cases h) (fun _ => ?_)
  refine pwp_exit <| pwp_seq <| kx [(10, (.ref 3 0))] [(3, some (bx (encPlace (RPlace.mk y1 y1))))] (zE (oBd pl91 ze91 zo91) <| zN (oAl 3 ze91 zo91) <| zT (oSt sh91) <| zZ) ?_
  refine pwp_seq <| pwp_seq <| kx [(62, (vb false))] [] (zM <| zE oEq <| zZ) ?_
  refine pwp_cond (b := false) (by kernel_rfl) (fun h => by cases h) (fun _ => ?_)
  refine pwp_skip <| pwp_seq <| pwp_seq <| kx [(76, (vb true))] [] (zM <| zE oNe <| zZ) ?_
  refine pwp_cond (b := true) (by kernel_rfl) (fun _ => ?_) (fun h => by cases h)
  refine pwp_seq <| pwp_sim (wk (l := [(2, (.ref 0 0)), (3, (.ref 1 0)), (5, (.ref 2 0)), (6, (vi 2)), (7, (vin 2)), (10, (.ref 3 0)), (76, (vb true))]) (b := [(0, some (bx (encA31 h))), (1, some (bx (encPair (RPair.mk (RPix.mk fx fy) (RPix.mk tx ty))))), (2, some (bx (encR y1))), (3, some (bx (encPlace (RPlace.mk y1 y1))))])) ?_
  refine kx [(4, (vb true))] [] (zM <| zM <| zE oEq <| zM <| zR (oLa sh67) <| zE (oCl g_zeroT) <| zE oPt <| zM <| zZ) ?_
  refine pwp_ret ⟨_, (.tmp (d := (.val (.bool (true)))) rfl .nil), ?_⟩
  rfl
theorem w_errR01 (h : A9 RInt) (h0 h1 h2 h3 h4 h5 h6 h7 h8 : Int) (hh0 : IOk h.a0 h0 4) (hh1 : IOk h.a1 h1 4) (hh2 : IOk h.a2 h2 4) (hh3 : IOk h.a3 h3 4) (hh4 : IOk h.a4 h4 4) (hh5 : IOk h.a5 h5 4) (hh6 : IOk h.a6 h6 4) (hh7 : IOk h.a7 h7 4) (hh8 : IOk h.a8 h8 4) (fx fy tx ty : Int) (hb0 : List.all [h.a0, h.a1, h.a2, h.a3, h.a4, h.a5, h.a6, h.a7, h.a8] short4 = true) (hv : valH [h.a0, h.a1, h.a2, h.a3, h.a4, h.a5, h.a6, h.a7, h.a8] (det3 h0 h1 h2 h3 h4 h5 h6 h7 h8) = true) (hl : ¬ fx < -1048576) (hg : 1048576 < fx) (hr : inR fx fy = false) : Takes Tryz.prog 10 [(encA31 h), (encPair (RPair.mk (RPix.mk fx fy) (RPix.mk tx ty)))] (.val (.bool (true))) := by
  let y1 := (RRat.mk (RInt.mk false []) (RInt.mk false []))
  refine fn_intro Tryz.func10 rfl cb10 rfl ?_
  show PWp _ _ _ _ ⟨[(0, (.d (encA31 h))), (1, (.d (encPair (RPair.mk (RPix.mk fx fy) (RPix.mk tx ty)))))], []⟩
  refine pwp_seq <| kx [(2, (.ref 0 0)), (3, (.ref 1 0))] [(0, some (bx (encA31 h))), (1, some (bx (encPair (RPair.mk (RPix.mk fx fy) (RPix.mk tx ty)))))] (zN (oBx 0) <| zN (oBx 1) <| zM <| zZ) ?_
  refine pwp_seq <| pwp_seq <| kx [(17, (vb false))] [] (zE (oCl l_known27) <| zE oNt <| zZ) ?_
  refine pwp_cond (b := false) (by kernel_rfl) (fun h => by cases h) (fun _ => ?_)
  refine pwp_skip <| pwp_seq <| pwp_seq <| kx [(21, (vb false))] [] (zR (oLa sh32) <| zE (oCl (l_map1 h h0 h1 h2 h3 h4 h5 h6 h7 h8 (iu hh0) (iu hh1) (iu hh2) (iu hh3) (iu hh4) (iu hh5) (iu hh6) (iu hh7) (iu hh8))) <| zE (oCl (tk_nil (l_briefT10 h h0 h1 h2 h3 h4 h5 h6 h7 h8 (iu hh0) (iu hh1) (iu hh2) (iu hh3) (iu hh4) (iu hh5) (iu hh6) (iu hh7) (iu hh8) hb0) (.same (.cut 44 6 .nil)))) <| zE oNt <| zZ) ?_
  refine pwp_cond (b := false) (by kernel_rfl) (fun h => by cases h) (fun _ => ?_)
  refine pwp_skip <| pwp_seq <| kx [(5, (.ref 2 0)), (6, (vi 2))] [(2, some (bx (encR y1)))] (zR (oLa sh32) <| zR (oLa sh25) <| zE (oCl (d_errR0 h h0 h1 h2 h3 h4 h5 h6 h7 h8 (iu hh0) (iu hh1) (iu hh2) (iu hh3) (iu hh4) (iu hh5) (iu hh6) (iu hh7) (iu hh8) fx fy tx ty hv hr)) <| zM <| zE oEx <| zE oEx <| zN (oAl 2 ze67 zo67) <| zT (oSt sh67) <| zM <| zZ) ?_
  refine pwp_seq <| kx [(7, (vin 0))] [] (zM <| zZ) ?_
  refine pwp_seq <| pwp_seq <| kx [(30, (vb false))] [] (zR (oLa sh32) <| zE (oBk true (oCl (l_valid h h0 h1 h2 h3 h4 h5 h6 h7 h8 (iu hh0) (iu hh1) (iu hh2) (iu hh3) (iu hh4) (iu hh5) (iu hh6) (iu hh7) (iu hh8))) (by exact hv)) <| zE oNt <| zZ) ?_
  refine pwp_cond (b := false) (by kernel_rfl) (fun h => by cases h) (fun _ => ?_)
  refine pwp_skip <| pwp_seq <| pwp_seq <| kx [(43, (vl 3 1 enc_i64 [fx, fy, tx, ty])), (44, (vin 4)), (45, (vin 0))] [] (zE (oFr fo25_0) <| zE (oFr fo23_0) <| zR (oL1 sh3) <| zE (oFr fo25_0) <| zE (oFr fo23_1) <| zR (oL1 sh3) <| zE (oFr fo25_1) <| zE (oFr fo23_0) <| zR (oL1 sh3) <| zE (oFr fo25_1) <| zE (oFr fo23_1) <| zR (oL1 sh3) <| zE (oBs el36 ze3 zo3) <| zE (oLn el36 4) <| zM <| zZ) ?_
  refine pwp_block <| pwp_rounds 20 ?_
  refine pwp_round <| pwp_seq <| kx [(46, (vb true))] [] (zE (oBk true oLt) <| zZ) ?_
  refine pwp_seq <| pwp_cond (b := true) (by kernel_rfl) (fun _ => ?_) (fun h => by cases h)
  refine pwp_skip <| pwp_seq <| pwp_block <| pwp_seq <| kx [(9, (vi fx))] [] (zE (oXs el36 0) <| zE (oC1 sh3) <| zM <| zZ) ?_
  refine pwp_seq <| kx [(58, (vb true))] [] (zM <| zE oEq <| zM <| zM <| zE (oBk false oLt (by exact decide_eq_false hl)) <| zM <| zM <| zE (oBk true oGt (by exact decide_eq_true hg)) <| zE oPf <| zE oPt <| zZ) ?_
  refine pwp_cond (b := true) (by kernel_rfl) (fun _ => ?_) (fun h => by cases h)
  refine kx [(7, (vin 2))] [] (zM <| zZ) ?_
  refine kx [(45, (vin 1))] [] (zE (oAd 1 (hr := by decide)) <| zM <| zZ) ?_
  refine pwp_again (SimImp.refl _) ?_
  refine pwp_seq <| kx [(46, (vb true))] [] (zE (oBk true oLt) <| zZ) ?_
  refine pwp_seq <| pwp_cond (b := true) (by kernel_rfl) (fun _ => ?_) (fun h => by cases h)
  refine pwp_skip <| pwp_seq <| pwp_block <| pwp_seq <| kx [(9, (vi fy))] [] (zE (oXs el36 1) <| zE (oC1 sh3) <| zM <| zZ) ?_
  refine pwp_seq <| pwp_sim (wk (l := [(2, (.ref 0 0)), (3, (.ref 1 0)), (5, (.ref 2 0)), (6, (vi 2)), (7, (vin 2)), (9, (vi fy)), (43, (vl 3 1 enc_i64 [fx, fy, tx, ty])), (44, (vin 4)), (45, (vin 1))]) (b := [(0, some (bx (encA31 h))), (1, some (bx (encPair (RPair.mk (RPix.mk fx fy) (RPix.mk tx ty))))), (2, some (bx (encR y1)))])) ?_
  refine kx [(58, (vb false))] [] (zM <| zE oEq <| zM <| zK <| zK <| zK <| zK <| zK <| zK <| zE oPf <| zZ) ?_
  refine pwp_cond (b := false) (by kernel_rfl) (fun h => by cases h) (fun _ => ?_)
  refine pwp_skip <| kx [(45, (vin 2))] [] (zE (oAd 2 (hr := by decide)) <| zM <| zZ) ?_
  refine pwp_again (SimImp.refl _) ?_
  refine pwp_seq <| kx [(46, (vb true))] [] (zE (oBk true oLt) <| zZ) ?_
  refine pwp_seq <| pwp_cond (b := true) (by kernel_rfl) (fun _ => ?_) (fun h => by cases h)
  refine pwp_skip <| pwp_seq <| pwp_block <| pwp_seq <| kx [(9, (vi tx))] [] (zE (oXs el36 2) <| zE (oC1 sh3) <| zM <| zZ) ?_
  refine pwp_seq <| kx [(58, (vb false))] [] (zM <| zE oEq <| zM <| zK <| zK <| zK <| zK <| zK <| zK <| zE oPf <| zZ) ?_
  refine pwp_cond (b := false) (by kernel_rfl) (fun h => by cases h) (fun _ => ?_)
  refine pwp_skip <| kx [(45, (vin 3))] [] (zE (oAd 3 (hr := by decide)) <| zM <| zZ) ?_
  refine pwp_again (SimImp.refl _) ?_
  refine pwp_seq <| kx [(46, (vb true))] [] (zE (oBk true oLt) <| zZ) ?_
  refine pwp_seq <| pwp_cond (b := true) (by kernel_rfl) (fun _ => ?_) (fun h => by cases h)
  refine pwp_skip <| pwp_seq <| pwp_block <| pwp_seq <| kx [(9, (vi ty))] [] (zE (oXs el36 3) <| zE (oC1 sh3) <| zM <| zZ) ?_
  refine pwp_seq <| kx [(58, (vb false))] [] (zM <| zE oEq <| zM <| zK <| zK <| zK <| zK <| zK <| zK <| zE oPf <| zZ) ?_
  refine pwp_cond (b := false) (by kernel_rfl) (fun h => by cases h) (fun _ => ?_)
  refine pwp_skip <| kx [(45, (vin 4))] [] (zE (oAd 4 (hr := by decide)) <| zM <| zZ) ?_
  refine pwp_again (SimImp.refl _) ?_
  refine pwp_seq <| kx [(46, (vb false))] [] (zE (oBk false oLt) <| zZ) ?_
  refine pwp_seq <| pwp_cond (b := false) (by kernel_rfl) (fun h => by cases h) (fun _ => ?_)
  refine pwp_exit <| pwp_seq <| kx [(10, (.ref 3 0))] [(3, some (bx (encPlace (RPlace.mk y1 y1))))] (zE (oBd pl91 ze91 zo91) <| zN (oAl 3 ze91 zo91) <| zT (oSt sh91) <| zZ) ?_
  refine pwp_seq <| pwp_seq <| kx [(62, (vb false))] [] (zM <| zE oEq <| zZ) ?_
  refine pwp_cond (b := false) (by kernel_rfl) (fun h => by cases h) (fun _ => ?_)
  refine pwp_skip <| pwp_seq <| pwp_seq <| kx [(76, (vb true))] [] (zM <| zE oNe <| zZ) ?_
  refine pwp_cond (b := true) (by kernel_rfl) (fun _ => ?_) (fun h => by cases h)
  refine pwp_seq <| pwp_sim (wk (l := [(2, (.ref 0 0)), (3, (.ref 1 0)), (5, (.ref 2 0)), (6, (vi 2)), (7, (vin 2)), (10, (.ref 3 0)), (76, (vb true))]) (b := [(0, some (bx (encA31 h))), (1, some (bx (encPair (RPair.mk (RPix.mk fx fy) (RPix.mk tx ty))))), (2, some (bx (encR y1))), (3, some (bx (encPlace (RPlace.mk y1 y1))))])) ?_
  refine kx [(4, (vb true))] [] (zM <| zM <| zE oEq <| zM <| zR (oLa sh67) <| zE (oCl g_zeroT) <| zE oPt <| zM <| zZ) ?_
  refine pwp_ret ⟨_, (.tmp (d := (.val (.bool (true)))) rfl .nil), ?_⟩
  rfl
theorem w_errR10 (h : A9 RInt) (h0 h1 h2 h3 h4 h5 h6 h7 h8 : Int) (hh0 : IOk h.a0 h0 4) (hh1 : IOk h.a1 h1 4) (hh2 : IOk h.a2 h2 4) (hh3 : IOk h.a3 h3 4) (hh4 : IOk h.a4 h4 4) (hh5 : IOk h.a5 h5 4) (hh6 : IOk h.a6 h6 4) (hh7 : IOk h.a7 h7 4) (hh8 : IOk h.a8 h8 4) (fx fy tx ty : Int) (hb0 : List.all [h.a0, h.a1, h.a2, h.a3, h.a4, h.a5, h.a6, h.a7, h.a8] short4 = true) (hv : valH [h.a0, h.a1, h.a2, h.a3, h.a4, h.a5, h.a6, h.a7, h.a8] (det3 h0 h1 h2 h3 h4 h5 h6 h7 h8) = true) (hfx : -1048576 ≤ fx ∧ fx ≤ 1048576) (hl : fy < -1048576) (hr : inR fx fy = false) : Takes Tryz.prog 10 [(encA31 h), (encPair (RPair.mk (RPix.mk fx fy) (RPix.mk tx ty)))] (.val (.bool (true))) := by
  let y1 := (RRat.mk (RInt.mk false []) (RInt.mk false []))
  refine fn_intro Tryz.func10 rfl cb10 rfl ?_
  show PWp _ _ _ _ ⟨[(0, (.d (encA31 h))), (1, (.d (encPair (RPair.mk (RPix.mk fx fy) (RPix.mk tx ty)))))], []⟩
  refine pwp_seq <| kx [(2, (.ref 0 0)), (3, (.ref 1 0))] [(0, some (bx (encA31 h))), (1, some (bx (encPair (RPair.mk (RPix.mk fx fy) (RPix.mk tx ty)))))] (zN (oBx 0) <| zN (oBx 1) <| zM <| zZ) ?_
  refine pwp_seq <| pwp_seq <| kx [(17, (vb false))] [] (zE (oCl l_known27) <| zE oNt <| zZ) ?_
  refine pwp_cond (b := false) (by kernel_rfl) (fun h => by cases h) (fun _ => ?_)
  refine pwp_skip <| pwp_seq <| pwp_seq <| kx [(21, (vb false))] [] (zR (oLa sh32) <| zE (oCl (l_map1 h h0 h1 h2 h3 h4 h5 h6 h7 h8 (iu hh0) (iu hh1) (iu hh2) (iu hh3) (iu hh4) (iu hh5) (iu hh6) (iu hh7) (iu hh8))) <| zE (oCl (tk_nil (l_briefT10 h h0 h1 h2 h3 h4 h5 h6 h7 h8 (iu hh0) (iu hh1) (iu hh2) (iu hh3) (iu hh4) (iu hh5) (iu hh6) (iu hh7) (iu hh8) hb0) (.same (.cut 44 6 .nil)))) <| zE oNt <| zZ) ?_
  refine pwp_cond (b := false) (by kernel_rfl) (fun h => by cases h) (fun _ => ?_)
  refine pwp_skip <| pwp_seq <| kx [(5, (.ref 2 0)), (6, (vi 2))] [(2, some (bx (encR y1)))] (zR (oLa sh32) <| zR (oLa sh25) <| zE (oCl (d_errR0 h h0 h1 h2 h3 h4 h5 h6 h7 h8 (iu hh0) (iu hh1) (iu hh2) (iu hh3) (iu hh4) (iu hh5) (iu hh6) (iu hh7) (iu hh8) fx fy tx ty hv hr)) <| zM <| zE oEx <| zE oEx <| zN (oAl 2 ze67 zo67) <| zT (oSt sh67) <| zM <| zZ) ?_
  refine pwp_seq <| kx [(7, (vin 0))] [] (zM <| zZ) ?_
  refine pwp_seq <| pwp_seq <| kx [(30, (vb false))] [] (zR (oLa sh32) <| zE (oBk true (oCl (l_valid h h0 h1 h2 h3 h4 h5 h6 h7 h8 (iu hh0) (iu hh1) (iu hh2) (iu hh3) (iu hh4) (iu hh5) (iu hh6) (iu hh7) (iu hh8))) (by exact hv)) <| zE oNt <| zZ) ?_
  refine pwp_cond (b := false) (by kernel_rfl) (fun h => by cases h) (fun _ => ?_)
  refine pwp_skip <| pwp_seq <| pwp_seq <| kx [(43, (vl 3 1 enc_i64 [fx, fy, tx, ty])), (44, (vin 4)), (45, (vin 0))] [] (zE (oFr fo25_0) <| zE (oFr fo23_0) <| zR (oL1 sh3) <| zE (oFr fo25_0) <| zE (oFr fo23_1) <| zR (oL1 sh3) <| zE (oFr fo25_1) <| zE (oFr fo23_0) <| zR (oL1 sh3) <| zE (oFr fo25_1) <| zE (oFr fo23_1) <| zR (oL1 sh3) <| zE (oBs el36 ze3 zo3) <| zE (oLn el36 4) <| zM <| zZ) ?_
  refine pwp_block <| pwp_rounds 20 ?_
  refine pwp_round <| pwp_seq <| kx [(46, (vb true))] [] (zE (oBk true oLt) <| zZ) ?_
  refine pwp_seq <| pwp_cond (b := true) (by kernel_rfl) (fun _ => ?_) (fun h => by cases h)
  refine pwp_skip <| pwp_seq <| pwp_block <| pwp_seq <| kx [(9, (vi fx))] [] (zE (oXs el36 0) <| zE (oC1 sh3) <| zM <| zZ) ?_
  refine pwp_seq <| kx [(58, (vb false))] [] (zM <| zE oEq <| zM <| zM <| zE (oBk false oLt (by exact decide_eq_false (by omega))) <| zM <| zM <| zE (oBk false oGt (by exact decide_eq_false (by omega))) <| zE oPf <| zE oPt <| zZ) ?_
  refine pwp_cond (b := false) (by kernel_rfl) (fun h => by cases h) (fun _ => ?_)
  refine pwp_skip <| kx [(45, (vin 1))] [] (zE (oAd 1 (hr := by decide)) <| zM <| zZ) ?_
  refine pwp_again (SimImp.refl _) ?_
  refine pwp_seq <| kx [(46, (vb true))] [] (zE (oBk true oLt) <| zZ) ?_
  refine pwp_seq <| pwp_cond (b := true) (by kernel_rfl) (fun _ => ?_) (fun h => by cases h)
  refine pwp_skip <| pwp_seq <| pwp_block <| pwp_seq <| kx [(9, (vi fy))] [] (zE (oXs el36 1) <| zE (oC1 sh3) <| zM <| zZ) ?_
  refine pwp_seq <| kx [(58, (vb true))] [] (zM <| zE oEq <| zM <| zM <| zE (oBk true oLt (by exact decide_eq_true hl)) <| zM <| zK <| zK <| zE oPt <| zE oPt <| zZ) ?_
  refine pwp_cond (b := true) (by kernel_rfl) (fun _ => ?_) (fun h => by cases h)
  refine pwp_sim (wk (l := [(2, (.ref 0 0)), (3, (.ref 1 0)), (5, (.ref 2 0)), (6, (vi 2)), (7, (vin 0)), (43, (vl 3 1 enc_i64 [fx, fy, tx, ty])), (44, (vin 4)), (45, (vin 1)), (58, (vb true))]) (b := [(0, some (bx (encA31 h))), (1, some (bx (encPair (RPair.mk (RPix.mk fx fy) (RPix.mk tx ty))))), (2, some (bx (encR y1)))])) ?_
  refine kx [(7, (vin 2))] [] (zM <| zZ) ?_
  refine kx [(45, (vin 2))] [] (zE (oAd 2 (hr := by decide)) <| zM <| zZ) ?_
  refine pwp_again (SimImp.refl _) ?_
  refine pwp_seq <| kx [(46, (vb true))] [] (zE (oBk true oLt) <| zZ) ?_
  refine pwp_seq <| pwp_cond (b := true) (by kernel_rfl) (fun _ => ?_) (fun h => by cases h)
  refine pwp_skip <| pwp_seq <| pwp_block <| pwp_seq <| kx [(9, (vi tx))] [] (zE (oXs el36 2) <| zE (oC1 sh3) <| zM <| zZ) ?_
  refine pwp_seq <| kx [(58, (vb false))] [] (zM <| zE oEq <| zM <| zK <| zK <| zK <| zK <| zK <| zK <| zE oPf <| zZ) ?_
  refine pwp_cond (b := false) (by kernel_rfl) (fun h => by cases h) (fun _ => ?_)
  refine pwp_skip <| kx [(45, (vin 3))] [] (zE (oAd 3 (hr := by decide)) <| zM <| zZ) ?_
  refine pwp_again (SimImp.refl _) ?_
  refine pwp_seq <| kx [(46, (vb true))] [] (zE (oBk true oLt) <| zZ) ?_
  refine pwp_seq <| pwp_cond (b := true) (by kernel_rfl) (fun _ => ?_) (fun h => by cases h)
  refine pwp_skip <| pwp_seq <| pwp_block <| pwp_seq <| kx [(9, (vi ty))] [] (zE (oXs el36 3) <| zE (oC1 sh3) <| zM <| zZ) ?_
  refine pwp_seq <| kx [(58, (vb false))] [] (zM <| zE oEq <| zM <| zK <| zK <| zK <| zK <| zK <| zK <| zE oPf <| zZ) ?_
  refine pwp_cond (b := false) (by kernel_rfl) (fun h => by cases h) (fun _ => ?_)
  refine pwp_skip <| kx [(45, (vin 4))] [] (zE (oAd 4 (hr := by decide)) <| zM <| zZ) ?_
  refine pwp_again (SimImp.refl _) ?_
  refine pwp_seq <| kx [(46, (vb false))] [] (zE (oBk false oLt) <| zZ) ?_
  refine pwp_seq <| pwp_cond (b := false) (by kernel_rfl) (fun h => by cases h) (fun _ => ?_)
  refine pwp_exit <| pwp_seq <| kx [(10, (.ref 3 0))] [(3, some (bx (encPlace (RPlace.mk y1 y1))))] (zE (oBd pl91 ze91 zo91) <| zN (oAl 3 ze91 zo91) <| zT (oSt sh91) <| zZ) ?_
  refine pwp_seq <| pwp_seq <| kx [(62, (vb false))] [] (zM <| zE oEq <| zZ) ?_
  refine pwp_cond (b := false) (by kernel_rfl) (fun h => by cases h) (fun _ => ?_)
  refine pwp_skip <| pwp_seq <| pwp_seq <| kx [(76, (vb true))] [] (zM <| zE oNe <| zZ) ?_
  refine pwp_cond (b := true) (by kernel_rfl) (fun _ => ?_) (fun h => by cases h)
  refine pwp_seq <| pwp_sim (wk (l := [(2, (.ref 0 0)), (3, (.ref 1 0)), (5, (.ref 2 0)), (6, (vi 2)), (7, (vin 2)), (10, (.ref 3 0)), (76, (vb true))]) (b := [(0, some (bx (encA31 h))), (1, some (bx (encPair (RPair.mk (RPix.mk fx fy) (RPix.mk tx ty))))), (2, some (bx (encR y1))), (3, some (bx (encPlace (RPlace.mk y1 y1))))])) ?_
  refine kx [(4, (vb true))] [] (zM <| zM <| zE oEq <| zM <| zR (oLa sh67) <| zE (oCl g_zeroT) <| zE oPt <| zM <| zZ) ?_
  refine pwp_ret ⟨_, (.tmp (d := (.val (.bool (true)))) rfl .nil), ?_⟩
  rfl
theorem w_errR11 (h : A9 RInt) (h0 h1 h2 h3 h4 h5 h6 h7 h8 : Int) (hh0 : IOk h.a0 h0 4) (hh1 : IOk h.a1 h1 4) (hh2 : IOk h.a2 h2 4) (hh3 : IOk h.a3 h3 4) (hh4 : IOk h.a4 h4 4) (hh5 : IOk h.a5 h5 4) (hh6 : IOk h.a6 h6 4) (hh7 : IOk h.a7 h7 4) (hh8 : IOk h.a8 h8 4) (fx fy tx ty : Int) (hb0 : List.all [h.a0, h.a1, h.a2, h.a3, h.a4, h.a5, h.a6, h.a7, h.a8] short4 = true) (hv : valH [h.a0, h.a1, h.a2, h.a3, h.a4, h.a5, h.a6, h.a7, h.a8] (det3 h0 h1 h2 h3 h4 h5 h6 h7 h8) = true) (hfx : -1048576 ≤ fx ∧ fx ≤ 1048576) (hl : ¬ fy < -1048576) (hg : 1048576 < fy) (hr : inR fx fy = false) : Takes Tryz.prog 10 [(encA31 h), (encPair (RPair.mk (RPix.mk fx fy) (RPix.mk tx ty)))] (.val (.bool (true))) := by
  let y1 := (RRat.mk (RInt.mk false []) (RInt.mk false []))
  refine fn_intro Tryz.func10 rfl cb10 rfl ?_
  show PWp _ _ _ _ ⟨[(0, (.d (encA31 h))), (1, (.d (encPair (RPair.mk (RPix.mk fx fy) (RPix.mk tx ty)))))], []⟩
  refine pwp_seq <| kx [(2, (.ref 0 0)), (3, (.ref 1 0))] [(0, some (bx (encA31 h))), (1, some (bx (encPair (RPair.mk (RPix.mk fx fy) (RPix.mk tx ty)))))] (zN (oBx 0) <| zN (oBx 1) <| zM <| zZ) ?_
  refine pwp_seq <| pwp_seq <| kx [(17, (vb false))] [] (zE (oCl l_known27) <| zE oNt <| zZ) ?_
  refine pwp_cond (b := false) (by kernel_rfl) (fun h => by cases h) (fun _ => ?_)
  refine pwp_skip <| pwp_seq <| pwp_seq <| kx [(21, (vb false))] [] (zR (oLa sh32) <| zE (oCl (l_map1 h h0 h1 h2 h3 h4 h5 h6 h7 h8 (iu hh0) (iu hh1) (iu hh2) (iu hh3) (iu hh4) (iu hh5) (iu hh6) (iu hh7) (iu hh8))) <| zE (oCl (tk_nil (l_briefT10 h h0 h1 h2 h3 h4 h5 h6 h7 h8 (iu hh0) (iu hh1) (iu hh2) (iu hh3) (iu hh4) (iu hh5) (iu hh6) (iu hh7) (iu hh8) hb0) (.same (.cut 44 6 .nil)))) <| zE oNt <| zZ) ?_
  refine pwp_cond (b := false) (by kernel_rfl) (fun h => by cases h) (fun _ => ?_)
  refine pwp_skip <| pwp_seq <| kx [(5, (.ref 2 0)), (6, (vi 2))] [(2, some (bx (encR y1)))] (zR (oLa sh32) <| zR (oLa sh25) <| zE (oCl (d_errR0 h h0 h1 h2 h3 h4 h5 h6 h7 h8 (iu hh0) (iu hh1) (iu hh2) (iu hh3) (iu hh4) (iu hh5) (iu hh6) (iu hh7) (iu hh8) fx fy tx ty hv hr)) <| zM <| zE oEx <| zE oEx <| zN (oAl 2 ze67 zo67) <| zT (oSt sh67) <| zM <| zZ) ?_
  refine pwp_seq <| kx [(7, (vin 0))] [] (zM <| zZ) ?_
  refine pwp_seq <| pwp_seq <| kx [(30, (vb false))] [] (zR (oLa sh32) <| zE (oBk true (oCl (l_valid h h0 h1 h2 h3 h4 h5 h6 h7 h8 (iu hh0) (iu hh1) (iu hh2) (iu hh3) (iu hh4) (iu hh5) (iu hh6) (iu hh7) (iu hh8))) (by exact hv)) <| zE oNt <| zZ) ?_
  refine pwp_cond (b := false) (by kernel_rfl) (fun h => by cases h) (fun _ => ?_)
  refine pwp_skip <| pwp_seq <| pwp_seq <| kx [(43, (vl 3 1 enc_i64 [fx, fy, tx, ty])), (44, (vin 4)), (45, (vin 0))] [] (zE (oFr fo25_0) <| zE (oFr fo23_0) <| zR (oL1 sh3) <| zE (oFr fo25_0) <| zE (oFr fo23_1) <| zR (oL1 sh3) <| zE (oFr fo25_1) <| zE (oFr fo23_0) <| zR (oL1 sh3) <| zE (oFr fo25_1) <| zE (oFr fo23_1) <| zR (oL1 sh3) <| zE (oBs el36 ze3 zo3) <| zE (oLn el36 4) <| zM <| zZ) ?_
  refine pwp_block <| pwp_rounds 20 ?_
  refine pwp_round <| pwp_seq <| kx [(46, (vb true))] [] (zE (oBk true oLt) <| zZ) ?_
  refine pwp_seq <| pwp_cond (b := true) (by kernel_rfl) (fun _ => ?_) (fun h => by cases h)
  refine pwp_skip <| pwp_seq <| pwp_block <| pwp_seq <| kx [(9, (vi fx))] [] (zE (oXs el36 0) <| zE (oC1 sh3) <| zM <| zZ) ?_
  refine pwp_seq <| kx [(58, (vb false))] [] (zM <| zE oEq <| zM <| zM <| zE (oBk false oLt (by exact decide_eq_false (by omega))) <| zM <| zM <| zE (oBk false oGt (by exact decide_eq_false (by omega))) <| zE oPf <| zE oPt <| zZ) ?_
  refine pwp_cond (b := false) (by kernel_rfl) (fun h => by cases h) (fun _ => ?_)
  refine pwp_skip <| kx [(45, (vin 1))] [] (zE (oAd 1 (hr := by decide)) <| zM <| zZ) ?_
  refine pwp_again (SimImp.refl _) ?_
  refine pwp_seq <| kx [(46, (vb true))] [] (zE (oBk true oLt) <| zZ) ?_
  refine pwp_seq <| pwp_cond (b := true) (by kernel_rfl) (fun _ => ?_) (fun h => by cases h)
  refine pwp_skip <| pwp_seq <| pwp_block <| pwp_seq <| kx [(9, (vi fy))] [] (zE (oXs el36 1) <| zE (oC1 sh3) <| zM <| zZ) ?_
  refine pwp_seq <| kx [(58, (vb true))] [] (zM <| zE oEq <| zM <| zM <| zE (oBk false oLt (by exact decide_eq_false hl)) <| zM <| zM <| zE (oBk true oGt (by exact decide_eq_true hg)) <| zE oPf <| zE oPt <| zZ) ?_
  refine pwp_cond (b := true) (by kernel_rfl) (fun _ => ?_) (fun h => by cases h)
  refine pwp_sim (wk (l := [(2, (.ref 0 0)), (3, (.ref 1 0)), (5, (.ref 2 0)), (6, (vi 2)), (7, (vin 0)), (43, (vl 3 1 enc_i64 [fx, fy, tx, ty])), (44, (vin 4)), (45, (vin 1)), (58, (vb true))]) (b := [(0, some (bx (encA31 h))), (1, some (bx (encPair (RPair.mk (RPix.mk fx fy) (RPix.mk tx ty))))), (2, some (bx (encR y1)))])) ?_
  refine kx [(7, (vin 2))] [] (zM <| zZ) ?_
  refine kx [(45, (vin 2))] [] (zE (oAd 2 (hr := by decide)) <| zM <| zZ) ?_
  refine pwp_again (SimImp.refl _) ?_
  refine pwp_seq <| kx [(46, (vb true))] [] (zE (oBk true oLt) <| zZ) ?_
  refine pwp_seq <| pwp_cond (b := true) (by kernel_rfl) (fun _ => ?_) (fun h => by cases h)
  refine pwp_skip <| pwp_seq <| pwp_block <| pwp_seq <| kx [(9, (vi tx))] [] (zE (oXs el36 2) <| zE (oC1 sh3) <| zM <| zZ) ?_
  refine pwp_seq <| kx [(58, (vb false))] [] (zM <| zE oEq <| zM <| zK <| zK <| zK <| zK <| zK <| zK <| zE oPf <| zZ) ?_
  refine pwp_cond (b := false) (by kernel_rfl) (fun h => by cases h) (fun _ => ?_)
  refine pwp_skip <| kx [(45, (vin 3))] [] (zE (oAd 3 (hr := by decide)) <| zM <| zZ) ?_
  refine pwp_again (SimImp.refl _) ?_
  refine pwp_seq <| kx [(46, (vb true))] [] (zE (oBk true oLt) <| zZ) ?_
  refine pwp_seq <| pwp_cond (b := true) (by kernel_rfl) (fun _ => ?_) (fun h => by cases h)
  refine pwp_skip <| pwp_seq <| pwp_block <| pwp_seq <| kx [(9, (vi ty))] [] (zE (oXs el36 3) <| zE (oC1 sh3) <| zM <| zZ) ?_
  refine pwp_seq <| kx [(58, (vb false))] [] (zM <| zE oEq <| zM <| zK <| zK <| zK <| zK <| zK <| zK <| zE oPf <| zZ) ?_
  refine pwp_cond (b := false) (by kernel_rfl) (fun h => by cases h) (fun _ => ?_)
  refine pwp_skip <| kx [(45, (vin 4))] [] (zE (oAd 4 (hr := by decide)) <| zM <| zZ) ?_
  refine pwp_again (SimImp.refl _) ?_
  refine pwp_seq <| kx [(46, (vb false))] [] (zE (oBk false oLt) <| zZ) ?_
  refine pwp_seq <| pwp_cond (b := false) (by kernel_rfl) (fun h => by cases h) (fun _ => ?_)
  refine pwp_exit <| pwp_seq <| kx [(10, (.ref 3 0))] [(3, some (bx (encPlace (RPlace.mk y1 y1))))] (zE (oBd pl91 ze91 zo91) <| zN (oAl 3 ze91 zo91) <| zT (oSt sh91) <| zZ) ?_
  refine pwp_seq <| pwp_seq <| kx [(62, (vb false))] [] (zM <| zE oEq <| zZ) ?_
  refine pwp_cond (b := false) (by kernel_rfl) (fun h => by cases h) (fun _ => ?_)
  refine pwp_skip <| pwp_seq <| pwp_seq <| kx [(76, (vb true))] [] (zM <| zE oNe <| zZ) ?_
  refine pwp_cond (b := true) (by kernel_rfl) (fun _ => ?_) (fun h => by cases h)
  refine pwp_seq <| pwp_sim (wk (l := [(2, (.ref 0 0)), (3, (.ref 1 0)), (5, (.ref 2 0)), (6, (vi 2)), (7, (vin 2)), (10, (.ref 3 0)), (76, (vb true))]) (b := [(0, some (bx (encA31 h))), (1, some (bx (encPair (RPair.mk (RPix.mk fx fy) (RPix.mk tx ty))))), (2, some (bx (encR y1))), (3, some (bx (encPlace (RPlace.mk y1 y1))))])) ?_
  refine kx [(4, (vb true))] [] (zM <| zM <| zE oEq <| zM <| zR (oLa sh67) <| zE (oCl g_zeroT) <| zE oPt <| zM <| zZ) ?_
  refine pwp_ret ⟨_, (.tmp (d := (.val (.bool (true)))) rfl .nil), ?_⟩
  rfl
theorem w_errR20 (h : A9 RInt) (h0 h1 h2 h3 h4 h5 h6 h7 h8 : Int) (hh0 : IOk h.a0 h0 4) (hh1 : IOk h.a1 h1 4) (hh2 : IOk h.a2 h2 4) (hh3 : IOk h.a3 h3 4) (hh4 : IOk h.a4 h4 4) (hh5 : IOk h.a5 h5 4) (hh6 : IOk h.a6 h6 4) (hh7 : IOk h.a7 h7 4) (hh8 : IOk h.a8 h8 4) (fx fy tx ty : Int) (hb0 : List.all [h.a0, h.a1, h.a2, h.a3, h.a4, h.a5, h.a6, h.a7, h.a8] short4 = true) (hv : valH [h.a0, h.a1, h.a2, h.a3, h.a4, h.a5, h.a6, h.a7, h.a8] (det3 h0 h1 h2 h3 h4 h5 h6 h7 h8) = true) (hfx : -1048576 ≤ fx ∧ fx ≤ 1048576) (hfy : -1048576 ≤ fy ∧ fy ≤ 1048576) (hl : tx < -1048576) (hr2 : inR tx ty = false) : Takes Tryz.prog 10 [(encA31 h), (encPair (RPair.mk (RPix.mk fx fy) (RPix.mk tx ty)))] (.val (.bool (true))) := by
  let y1 := (RRat.mk (RInt.mk false []) (RInt.mk false []))
  refine fn_intro Tryz.func10 rfl cb10 rfl ?_
  show PWp _ _ _ _ ⟨[(0, (.d (encA31 h))), (1, (.d (encPair (RPair.mk (RPix.mk fx fy) (RPix.mk tx ty)))))], []⟩
  refine pwp_seq <| kx [(2, (.ref 0 0)), (3, (.ref 1 0))] [(0, some (bx (encA31 h))), (1, some (bx (encPair (RPair.mk (RPix.mk fx fy) (RPix.mk tx ty)))))] (zN (oBx 0) <| zN (oBx 1) <| zM <| zZ) ?_
  refine pwp_seq <| pwp_seq <| kx [(17, (vb false))] [] (zE (oCl l_known27) <| zE oNt <| zZ) ?_
  refine pwp_cond (b := false) (by kernel_rfl) (fun h => by cases h) (fun _ => ?_)
  refine pwp_skip <| pwp_seq <| pwp_seq <| kx [(21, (vb false))] [] (zR (oLa sh32) <| zE (oCl (l_map1 h h0 h1 h2 h3 h4 h5 h6 h7 h8 (iu hh0) (iu hh1) (iu hh2) (iu hh3) (iu hh4) (iu hh5) (iu hh6) (iu hh7) (iu hh8))) <| zE (oCl (tk_nil (l_briefT10 h h0 h1 h2 h3 h4 h5 h6 h7 h8 (iu hh0) (iu hh1) (iu hh2) (iu hh3) (iu hh4) (iu hh5) (iu hh6) (iu hh7) (iu hh8) hb0) (.same (.cut 44 6 .nil)))) <| zE oNt <| zZ) ?_
  refine pwp_cond (b := false) (by kernel_rfl) (fun h => by cases h) (fun _ => ?_)
  refine pwp_skip <| pwp_seq <| kx [(5, (.ref 2 0)), (6, (vi 2))] [(2, some (bx (encR y1)))] (zR (oLa sh32) <| zR (oLa sh25) <| zE (oCl (d_errR1 h h0 h1 h2 h3 h4 h5 h6 h7 h8 (iu hh0) (iu hh1) (iu hh2) (iu hh3) (iu hh4) (iu hh5) (iu hh6) (iu hh7) (iu hh8) fx fy tx ty hv (inR_of hfx hfy) hr2)) <| zM <| zE oEx <| zE oEx <| zN (oAl 2 ze67 zo67) <| zT (oSt sh67) <| zM <| zZ) ?_
  refine pwp_seq <| kx [(7, (vin 0))] [] (zM <| zZ) ?_
  refine pwp_seq <| pwp_seq <| kx [(30, (vb false))] [] (zR (oLa sh32) <| zE (oBk true (oCl (l_valid h h0 h1 h2 h3 h4 h5 h6 h7 h8 (iu hh0) (iu hh1) (iu hh2) (iu hh3) (iu hh4) (iu hh5) (iu hh6) (iu hh7) (iu hh8))) (by exact hv)) <| zE oNt <| zZ) ?_
  refine pwp_cond (b := false) (by kernel_rfl) (fun h => by cases h) (fun _ => ?_)
  refine pwp_skip <| pwp_seq <| pwp_seq <| kx [(43, (vl 3 1 enc_i64 [fx, fy, tx, ty])), (44, (vin 4)), (45, (vin 0))] [] (zE (oFr fo25_0) <| zE (oFr fo23_0) <| zR (oL1 sh3) <| zE (oFr fo25_0) <| zE (oFr fo23_1) <| zR (oL1 sh3) <| zE (oFr fo25_1) <| zE (oFr fo23_0) <| zR (oL1 sh3) <| zE (oFr fo25_1) <| zE (oFr fo23_1) <| zR (oL1 sh3) <| zE (oBs el36 ze3 zo3) <| zE (oLn el36 4) <| zM <| zZ) ?_
  refine pwp_block <| pwp_rounds 20 ?_
  refine pwp_round <| pwp_seq <| kx [(46, (vb true))] [] (zE (oBk true oLt) <| zZ) ?_
  refine pwp_seq <| pwp_cond (b := true) (by kernel_rfl) (fun _ => ?_) (fun h => by cases h)
  refine pwp_skip <| pwp_seq <| pwp_block <| pwp_seq <| kx [(9, (vi fx))] [] (zE (oXs el36 0) <| zE (oC1 sh3) <| zM <| zZ) ?_
  refine pwp_seq <| kx [(58, (vb false))] [] (zM <| zE oEq <| zM <| zM <| zE (oBk false oLt (by exact decide_eq_false (by omega))) <| zM <| zM <| zE (oBk false oGt (by exact decide_eq_false (by omega))) <| zE oPf <| zE oPt <| zZ) ?_
  refine pwp_cond (b := false) (by kernel_rfl) (fun h => by cases h) (fun _ => ?_)
  refine pwp_skip <| kx [(45, (vin 1))] [] (zE (oAd 1 (hr := by decide)) <| zM <| zZ) ?_
  refine pwp_again (SimImp.refl _) ?_
  refine pwp_seq <| kx [(46, (vb true))] [] (zE (oBk true oLt) <| zZ) ?_
  refine pwp_seq <| pwp_cond (b := true) (by kernel_rfl) (fun _ => ?_) (fun h => by cases h)
  refine pwp_skip <| pwp_seq <| pwp_block <| pwp_seq <| kx [(9, (vi fy))] [] (zE (oXs el36 1) <| zE (oC1 sh3) <| zM <| zZ) ?_
  refine pwp_seq <| kx [(58, (vb false))] [] (zM <| zE oEq <| zM <| zM <| zE (oBk false oLt (by exact decide_eq_false (by omega))) <| zM <| zM <| zE (oBk false oGt (by exact decide_eq_false (by omega))) <| zE oPf <| zE oPt <| zZ) ?_
  refine pwp_cond (b := false) (by kernel_rfl) (fun h => by cases h) (fun _ => ?_)
  refine pwp_skip <| pwp_sim (wk (l := [(2, (.ref 0 0)), (3, (.ref 1 0)), (5, (.ref 2 0)), (6, (vi 2)), (7, (vin 0)), (43, (vl 3 1 enc_i64 [fx, fy, tx, ty])), (44, (vin 4)), (45, (vin 1)), (58, (vb false))]) (b := [(0, some (bx (encA31 h))), (1, some (bx (encPair (RPair.mk (RPix.mk fx fy) (RPix.mk tx ty))))), (2, some (bx (encR y1)))])) ?_
  refine kx [(45, (vin 2))] [] (zE (oAd 2 (hr := by decide)) <| zM <| zZ) ?_
  refine pwp_again (SimImp.refl _) ?_
  refine pwp_seq <| kx [(46, (vb true))] [] (zE (oBk true oLt) <| zZ) ?_
  refine pwp_seq <| pwp_cond (b := true) (by kernel_rfl) (fun _ => ?_) (fun h => by cases h)
  refine pwp_skip <| pwp_seq <| pwp_block <| pwp_seq <| kx [(9, (vi tx))] [] (zE (oXs el36 2) <| zE (oC1 sh3) <| zM <| zZ) ?_
  refine pwp_seq <| kx [(58, (vb true))] [] (zM <| zE oEq <| zM <| zM <| zE (oBk true oLt (by exact decide_eq_true hl)) <| zM <| zK <| zK <| zE oPt <| zE oPt <| zZ) ?_
  refine pwp_cond (b := true) (by kernel_rfl) (fun _ => ?_) (fun h => by cases h)
  refine kx [(7, (vin 2))] [] (zM <| zZ) ?_
  refine kx [(45, (vin 3))] [] (zE (oAd 3 (hr := by decide)) <| zM <| zZ) ?_
  refine pwp_again (SimImp.refl _) ?_
  refine pwp_seq <| kx [(46, (vb true))] [] (zE (oBk true oLt) <| zZ) ?_
  refine pwp_seq <| pwp_cond (b := true) (by kernel_rfl) (fun _ => ?_) (fun h => by cases h)
  refine pwp_skip <| pwp_seq <| pwp_block <| pwp_seq <| kx [(9, (vi ty))] [] (zE (oXs el36 3) <| zE (oC1 sh3) <| zM <| zZ) ?_
  refine pwp_seq <| kx [(58, (vb false))] [] (zM <| zE oEq <| zM <| zK <| zK <| zK <| zK <| zK <| zK <| zE oPf <| zZ) ?_
  refine pwp_cond (b := false) (by kernel_rfl) (fun h => by cases h) (fun _ => ?_)
  refine pwp_skip <| kx [(45, (vin 4))] [] (zE (oAd 4 (hr := by decide)) <| zM <| zZ) ?_
  refine pwp_again (SimImp.refl _) ?_
  refine pwp_seq <| kx [(46, (vb false))] [] (zE (oBk false oLt) <| zZ) ?_
  refine pwp_seq <| pwp_cond (b := false) (by kernel_rfl) (fun h => by cases h) (fun _ => ?_)
  refine pwp_exit <| pwp_seq <| kx [(10, (.ref 3 0))] [(3, some (bx (encPlace (RPlace.mk y1 y1))))] (zE (oBd pl91 ze91 zo91) <| zN (oAl 3 ze91 zo91) <| zT (oSt sh91) <| zZ) ?_
  refine pwp_seq <| pwp_seq <| kx [(62, (vb false))] [] (zM <| zE oEq <| zZ) ?_
  refine pwp_cond (b := false) (by kernel_rfl) (fun h => by cases h) (fun _ => ?_)
  refine pwp_skip <| pwp_seq <| pwp_seq <| kx [(76, (vb true))] [] (zM <| zE oNe <| zZ) ?_
  refine pwp_cond (b := true) (by kernel_rfl) (fun _ => ?_) (fun h => by cases h)
  refine pwp_seq <| pwp_sim (wk (l := [(2, (.ref 0 0)), (3, (.ref 1 0)), (5, (.ref 2 0)), (6, (vi 2)), (7, (vin 2)), (10, (.ref 3 0)), (76, (vb true))]) (b := [(0, some (bx (encA31 h))), (1, some (bx (encPair (RPair.mk (RPix.mk fx fy) (RPix.mk tx ty))))), (2, some (bx (encR y1))), (3, some (bx (encPlace (RPlace.mk y1 y1))))])) ?_
  refine kx [(4, (vb true))] [] (zM <| zM <| zE oEq <| zM <| zR (oLa sh67) <| zE (oCl g_zeroT) <| zE oPt <| zM <| zZ) ?_
  refine pwp_ret ⟨_, (.tmp (d := (.val (.bool (true)))) rfl .nil), ?_⟩
  rfl
theorem w_errR21 (h : A9 RInt) (h0 h1 h2 h3 h4 h5 h6 h7 h8 : Int) (hh0 : IOk h.a0 h0 4) (hh1 : IOk h.a1 h1 4) (hh2 : IOk h.a2 h2 4) (hh3 : IOk h.a3 h3 4) (hh4 : IOk h.a4 h4 4) (hh5 : IOk h.a5 h5 4) (hh6 : IOk h.a6 h6 4) (hh7 : IOk h.a7 h7 4) (hh8 : IOk h.a8 h8 4) (fx fy tx ty : Int) (hb0 : List.all [h.a0, h.a1, h.a2, h.a3, h.a4, h.a5, h.a6, h.a7, h.a8] short4 = true) (hv : valH [h.a0, h.a1, h.a2, h.a3, h.a4, h.a5, h.a6, h.a7, h.a8] (det3 h0 h1 h2 h3 h4 h5 h6 h7 h8) = true) (hfx : -1048576 ≤ fx ∧ fx ≤ 1048576) (hfy : -1048576 ≤ fy ∧ fy ≤ 1048576) (hl : ¬ tx < -1048576) (hg : 1048576 < tx) (hr2 : inR tx ty = false) : Takes Tryz.prog 10 [(encA31 h), (encPair (RPair.mk (RPix.mk fx fy) (RPix.mk tx ty)))] (.val (.bool (true))) := by
  let y1 := (RRat.mk (RInt.mk false []) (RInt.mk false []))
  refine fn_intro Tryz.func10 rfl cb10 rfl ?_
  show PWp _ _ _ _ ⟨[(0, (.d (encA31 h))), (1, (.d (encPair (RPair.mk (RPix.mk fx fy) (RPix.mk tx ty)))))], []⟩
  refine pwp_seq <| kx [(2, (.ref 0 0)), (3, (.ref 1 0))] [(0, some (bx (encA31 h))), (1, some (bx (encPair (RPair.mk (RPix.mk fx fy) (RPix.mk tx ty)))))] (zN (oBx 0) <| zN (oBx 1) <| zM <| zZ) ?_
  refine pwp_seq <| pwp_seq <| kx [(17, (vb false))] [] (zE (oCl l_known27) <| zE oNt <| zZ) ?_
  refine pwp_cond (b := false) (by kernel_rfl) (fun h => by cases h) (fun _ => ?_)
  refine pwp_skip <| pwp_seq <| pwp_seq <| kx [(21, (vb false))] [] (zR (oLa sh32) <| zE (oCl (l_map1 h h0 h1 h2 h3 h4 h5 h6 h7 h8 (iu hh0) (iu hh1) (iu hh2) (iu hh3) (iu hh4) (iu hh5) (iu hh6) (iu hh7) (iu hh8))) <| zE (oCl (tk_nil (l_briefT10 h h0 h1 h2 h3 h4 h5 h6 h7 h8 (iu hh0) (iu hh1) (iu hh2) (iu hh3) (iu hh4) (iu hh5) (iu hh6) (iu hh7) (iu hh8) hb0) (.same (.cut 44 6 .nil)))) <| zE oNt <| zZ) ?_
  refine pwp_cond (b := false) (by kernel_rfl) (fun h => by cases h) (fun _ => ?_)
  refine pwp_skip <| pwp_seq <| kx [(5, (.ref 2 0)), (6, (vi 2))] [(2, some (bx (encR y1)))] (zR (oLa sh32) <| zR (oLa sh25) <| zE (oCl (d_errR1 h h0 h1 h2 h3 h4 h5 h6 h7 h8 (iu hh0) (iu hh1) (iu hh2) (iu hh3) (iu hh4) (iu hh5) (iu hh6) (iu hh7) (iu hh8) fx fy tx ty hv (inR_of hfx hfy) hr2)) <| zM <| zE oEx <| zE oEx <| zN (oAl 2 ze67 zo67) <| zT (oSt sh67) <| zM <| zZ) ?_
  refine pwp_seq <| kx [(7, (vin 0))] [] (zM <| zZ) ?_
  refine pwp_seq <| pwp_seq <| kx [(30, (vb false))] [] (zR (oLa sh32) <| zE (oBk true (oCl (l_valid h h0 h1 h2 h3 h4 h5 h6 h7 h8 (iu hh0) (iu hh1) (iu hh2) (iu hh3) (iu hh4) (iu hh5) (iu hh6) (iu hh7) (iu hh8))) (by exact hv)) <| zE oNt <| zZ) ?_
  refine pwp_cond (b := false) (by kernel_rfl) (fun h => by cases h) (fun _ => ?_)
  refine pwp_skip <| pwp_seq <| pwp_seq <| kx [(43, (vl 3 1 enc_i64 [fx, fy, tx, ty])), (44, (vin 4)), (45, (vin 0))] [] (zE (oFr fo25_0) <| zE (oFr fo23_0) <| zR (oL1 sh3) <| zE (oFr fo25_0) <| zE (oFr fo23_1) <| zR (oL1 sh3) <| zE (oFr fo25_1) <| zE (oFr fo23_0) <| zR (oL1 sh3) <| zE (oFr fo25_1) <| zE (oFr fo23_1) <| zR (oL1 sh3) <| zE (oBs el36 ze3 zo3) <| zE (oLn el36 4) <| zM <| zZ) ?_
  refine pwp_block <| pwp_rounds 20 ?_
  refine pwp_round <| pwp_seq <| kx [(46, (vb true))] [] (zE (oBk true oLt) <| zZ) ?_
  refine pwp_seq <| pwp_cond (b := true) (by kernel_rfl) (fun _ => ?_) (fun h => by cases h)
  refine pwp_skip <| pwp_seq <| pwp_block <| pwp_seq <| kx [(9, (vi fx))] [] (zE (oXs el36 0) <| zE (oC1 sh3) <| zM <| zZ) ?_
  refine pwp_seq <| kx [(58, (vb false))] [] (zM <| zE oEq <| zM <| zM <| zE (oBk false oLt (by exact decide_eq_false (by omega))) <| zM <| zM <| zE (oBk false oGt (by exact decide_eq_false (by omega))) <| zE oPf <| zE oPt <| zZ) ?_
  refine pwp_cond (b := false) (by kernel_rfl) (fun h => by cases h) (fun _ => ?_)
  refine pwp_skip <| kx [(45, (vin 1))] [] (zE (oAd 1 (hr := by decide)) <| zM <| zZ) ?_
  refine pwp_again (SimImp.refl _) ?_
  refine pwp_seq <| kx [(46, (vb true))] [] (zE (oBk true oLt) <| zZ) ?_
  refine pwp_seq <| pwp_cond (b := true) (by kernel_rfl) (fun _ => ?_) (fun h => by cases h)
  refine pwp_skip <| pwp_seq <| pwp_block <| pwp_seq <| kx [(9, (vi fy))] [] (zE (oXs el36 1) <| zE (oC1 sh3) <| zM <| zZ) ?_
  refine pwp_seq <| kx [(58, (vb false))] [] (zM <| zE oEq <| zM <| zM <| zE (oBk false oLt (by exact decide_eq_false (by omega))) <| zM <| zM <| zE (oBk false oGt (by exact decide_eq_false (by omega))) <| zE oPf <| zE oPt <| zZ) ?_
  refine pwp_cond (b := false) (by kernel_rfl) (fun h => by cases h) (fun _ => ?_)
  refine pwp_skip <| pwp_sim (wk (l := [(2, (.ref 0 0)), (3, (.ref 1 0)), (5, (.ref 2 0)), (6, (vi 2)), (7, (vin 0)), (43, (vl 3 1 enc_i64 [fx, fy, tx, ty])), (44, (vin 4)), (45, (vin 1)), (58, (vb false))]) (b := [(0, some (bx (encA31 h))), (1, some (bx (encPair (RPair.mk (RPix.mk fx fy) (RPix.mk tx ty))))), (2, some (bx (encR y1)))])) ?_
  refine kx [(45, (vin 2))] [] (zE (oAd 2 (hr := by decide)) <| zM <| zZ) ?_
  refine pwp_again (SimImp.refl _) ?_
  refine pwp_seq <| kx [(46, (vb true))] [] (zE (oBk true oLt) <| zZ) ?_
  refine pwp_seq <| pwp_cond (b := true) (by kernel_rfl) (fun _ => ?_) (fun h => by cases h)
  refine pwp_skip <| pwp_seq <| pwp_block <| pwp_seq <| kx [(9, (vi tx))] [] (zE (oXs el36 2) <| zE (oC1 sh3) <| zM <| zZ) ?_
  refine pwp_seq <| kx [(58, (vb true))] [] (zM <| zE oEq <| zM <| zM <| zE (oBk false oLt (by exact decide_eq_false hl)) <| zM <| zM <| zE (oBk true oGt (by exact decide_eq_true hg)) <| zE oPf <| zE oPt <| zZ) ?_
  refine pwp_cond (b := true) (by kernel_rfl) (fun _ => ?_) (fun h => by cases h)
  refine kx [(7, (vin 2))] [] (zM <| zZ) ?_
  refine kx [(45, (vin 3))] [] (zE (oAd 3 (hr := by decide)) <| zM <| zZ) ?_
  refine pwp_again (SimImp.refl _) ?_
  refine pwp_seq <| kx [(46, (vb true))] [] (zE (oBk true oLt) <| zZ) ?_
  refine pwp_seq <| pwp_cond (b := true) (by kernel_rfl) (fun _ => ?_) (fun h => by cases h)
  refine pwp_skip <| pwp_seq <| pwp_block <| pwp_seq <| kx [(9, (vi ty))] [] (zE (oXs el36 3) <| zE (oC1 sh3) <| zM <| zZ) ?_
  refine pwp_seq <| kx [(58, (vb false))] [] (zM <| zE oEq <| zM <| zK <| zK <| zK <| zK <| zK <| zK <| zE oPf <| zZ) ?_
  refine pwp_cond (b := false) (by kernel_rfl) (fun h => by cases h) (fun _ => ?_)
  refine pwp_skip <| kx [(45, (vin 4))] [] (zE (oAd 4 (hr := by decide)) <| zM <| zZ) ?_
  refine pwp_again (SimImp.refl _) ?_
  refine pwp_seq <| kx [(46, (vb false))] [] (zE (oBk false oLt) <| zZ) ?_
  refine pwp_seq <| pwp_cond (b := false) (by kernel_rfl) (fun h => by cases h) (fun _ => ?_)
  refine pwp_exit <| pwp_seq <| kx [(10, (.ref 3 0))] [(3, some (bx (encPlace (RPlace.mk y1 y1))))] (zE (oBd pl91 ze91 zo91) <| zN (oAl 3 ze91 zo91) <| zT (oSt sh91) <| zZ) ?_
  refine pwp_seq <| pwp_seq <| kx [(62, (vb false))] [] (zM <| zE oEq <| zZ) ?_
  refine pwp_cond (b := false) (by kernel_rfl) (fun h => by cases h) (fun _ => ?_)
  refine pwp_skip <| pwp_seq <| pwp_seq <| kx [(76, (vb true))] [] (zM <| zE oNe <| zZ) ?_
  refine pwp_cond (b := true) (by kernel_rfl) (fun _ => ?_) (fun h => by cases h)
  refine pwp_seq <| pwp_sim (wk (l := [(2, (.ref 0 0)), (3, (.ref 1 0)), (5, (.ref 2 0)), (6, (vi 2)), (7, (vin 2)), (10, (.ref 3 0)), (76, (vb true))]) (b := [(0, some (bx (encA31 h))), (1, some (bx (encPair (RPair.mk (RPix.mk fx fy) (RPix.mk tx ty))))), (2, some (bx (encR y1))), (3, some (bx (encPlace (RPlace.mk y1 y1))))])) ?_
  refine kx [(4, (vb true))] [] (zM <| zM <| zE oEq <| zM <| zR (oLa sh67) <| zE (oCl g_zeroT) <| zE oPt <| zM <| zZ) ?_
  refine pwp_ret ⟨_, (.tmp (d := (.val (.bool (true)))) rfl .nil), ?_⟩
  rfl
theorem w_errR30 (h : A9 RInt) (h0 h1 h2 h3 h4 h5 h6 h7 h8 : Int) (hh0 : IOk h.a0 h0 4) (hh1 : IOk h.a1 h1 4) (hh2 : IOk h.a2 h2 4) (hh3 : IOk h.a3 h3 4) (hh4 : IOk h.a4 h4 4) (hh5 : IOk h.a5 h5 4) (hh6 : IOk h.a6 h6 4) (hh7 : IOk h.a7 h7 4) (hh8 : IOk h.a8 h8 4) (fx fy tx ty : Int) (hb0 : List.all [h.a0, h.a1, h.a2, h.a3, h.a4, h.a5, h.a6, h.a7, h.a8] short4 = true) (hv : valH [h.a0, h.a1, h.a2, h.a3, h.a4, h.a5, h.a6, h.a7, h.a8] (det3 h0 h1 h2 h3 h4 h5 h6 h7 h8) = true) (hfx : -1048576 ≤ fx ∧ fx ≤ 1048576) (hfy : -1048576 ≤ fy ∧ fy ≤ 1048576) (htx : -1048576 ≤ tx ∧ tx ≤ 1048576) (hl : ty < -1048576) (hr2 : inR tx ty = false) : Takes Tryz.prog 10 [(encA31 h), (encPair (RPair.mk (RPix.mk fx fy) (RPix.mk tx ty)))] (.val (.bool (true))) := by
  let y1 := (RRat.mk (RInt.mk false []) (RInt.mk false []))
  refine fn_intro Tryz.func10 rfl cb10 rfl ?_
  show PWp _ _ _ _ ⟨[(0, (.d (encA31 h))), (1, (.d (encPair (RPair.mk (RPix.mk fx fy) (RPix.mk tx ty)))))], []⟩
  refine pwp_seq <| kx [(2, (.ref 0 0)), (3, (.ref 1 0))] [(0, some (bx (encA31 h))), (1, some (bx (encPair (RPair.mk (RPix.mk fx fy) (RPix.mk tx ty)))))] (zN (oBx 0) <| zN (oBx 1) <| zM <| zZ) ?_
  refine pwp_seq <| pwp_seq <| kx [(17, (vb false))] [] (zE (oCl l_known27) <| zE oNt <| zZ) ?_
  refine pwp_cond (b := false) (by kernel_rfl) (fun h => by cases h) (fun _ => ?_)
  refine pwp_skip <| pwp_seq <| pwp_seq <| kx [(21, (vb false))] [] (zR (oLa sh32) <| zE (oCl (l_map1 h h0 h1 h2 h3 h4 h5 h6 h7 h8 (iu hh0) (iu hh1) (iu hh2) (iu hh3) (iu hh4) (iu hh5) (iu hh6) (iu hh7) (iu hh8))) <| zE (oCl (tk_nil (l_briefT10 h h0 h1 h2 h3 h4 h5 h6 h7 h8 (iu hh0) (iu hh1) (iu hh2) (iu hh3) (iu hh4) (iu hh5) (iu hh6) (iu hh7) (iu hh8) hb0) (.same (.cut 44 6 .nil)))) <| zE oNt <| zZ) ?_
  refine pwp_cond (b := false) (by kernel_rfl) (fun h => by cases h) (fun _ => ?_)
  refine pwp_skip <| pwp_seq <| kx [(5, (.ref 2 0)), (6, (vi 2))] [(2, some (bx (encR y1)))] (zR (oLa sh32) <| zR (oLa sh25) <| zE (oCl (d_errR1 h h0 h1 h2 h3 h4 h5 h6 h7 h8 (iu hh0) (iu hh1) (iu hh2) (iu hh3) (iu hh4) (iu hh5) (iu hh6) (iu hh7) (iu hh8) fx fy tx ty hv (inR_of hfx hfy) hr2)) <| zM <| zE oEx <| zE oEx <| zN (oAl 2 ze67 zo67) <| zT (oSt sh67) <| zM <| zZ) ?_
  refine pwp_seq <| kx [(7, (vin 0))] [] (zM <| zZ) ?_
  refine pwp_seq <| pwp_seq <| kx [(30, (vb false))] [] (zR (oLa sh32) <| zE (oBk true (oCl (l_valid h h0 h1 h2 h3 h4 h5 h6 h7 h8 (iu hh0) (iu hh1) (iu hh2) (iu hh3) (iu hh4) (iu hh5) (iu hh6) (iu hh7) (iu hh8))) (by exact hv)) <| zE oNt <| zZ) ?_
  refine pwp_cond (b := false) (by kernel_rfl) (fun h => by cases h) (fun _ => ?_)
  refine pwp_skip <| pwp_seq <| pwp_seq <| kx [(43, (vl 3 1 enc_i64 [fx, fy, tx, ty])), (44, (vin 4)), (45, (vin 0))] [] (zE (oFr fo25_0) <| zE (oFr fo23_0) <| zR (oL1 sh3) <| zE (oFr fo25_0) <| zE (oFr fo23_1) <| zR (oL1 sh3) <| zE (oFr fo25_1) <| zE (oFr fo23_0) <| zR (oL1 sh3) <| zE (oFr fo25_1) <| zE (oFr fo23_1) <| zR (oL1 sh3) <| zE (oBs el36 ze3 zo3) <| zE (oLn el36 4) <| zM <| zZ) ?_
  refine pwp_block <| pwp_rounds 20 ?_
  refine pwp_round <| pwp_seq <| kx [(46, (vb true))] [] (zE (oBk true oLt) <| zZ) ?_
  refine pwp_seq <| pwp_cond (b := true) (by kernel_rfl) (fun _ => ?_) (fun h => by cases h)
  refine pwp_skip <| pwp_seq <| pwp_block <| pwp_seq <| kx [(9, (vi fx))] [] (zE (oXs el36 0) <| zE (oC1 sh3) <| zM <| zZ) ?_
  refine pwp_seq <| kx [(58, (vb false))] [] (zM <| zE oEq <| zM <| zM <| zE (oBk false oLt (by exact decide_eq_false (by omega))) <| zM <| zM <| zE (oBk false oGt (by exact decide_eq_false (by omega))) <| zE oPf <| zE oPt <| zZ) ?_
  refine pwp_cond (b := false) (by kernel_rfl) (fun h => by cases h) (fun _ => ?_)
  refine pwp_skip <| kx [(45, (vin 1))] [] (zE (oAd 1 (hr := by decide)) <| zM <| zZ) ?_
  refine pwp_again (SimImp.refl _) ?_
  refine pwp_seq <| kx [(46, (vb true))] [] (zE (oBk true oLt) <| zZ) ?_
  refine pwp_seq <| pwp_cond (b := true) (by kernel_rfl) (fun _ => ?_) (fun h => by cases h)
  refine pwp_skip <| pwp_seq <| pwp_block <| pwp_seq <| kx [(9, (vi fy))] [] (zE (oXs el36 1) <| zE (oC1 sh3) <| zM <| zZ) ?_
  refine pwp_seq <| kx [(58, (vb false))] [] (zM <| zE oEq <| zM <| zM <| zE (oBk false oLt (by exact decide_eq_false (by omega))) <| zM <| zM <| zE (oBk false oGt (by exact decide_eq_false (by omega))) <| zE oPf <| zE oPt <| zZ) ?_
  refine pwp_cond (b := false) (by kernel_rfl) (fun h => by cases h) (fun _ => ?_)
  refine pwp_skip <| pwp_sim (wk (l := [(2, (.ref 0 0)), (3, (.ref 1 0)), (5, (.ref 2 0)), (6, (vi 2)), (7, (vin 0)), (43, (vl 3 1 enc_i64 [fx, fy, tx, ty])), (44, (vin 4)), (45, (vin 1)), (58, (vb false))]) (b := [(0, some (bx (encA31 h))), (1, some (bx (encPair (RPair.mk (RPix.mk fx fy) (RPix.mk tx ty))))), (2, some (bx (encR y1)))])) ?_
  refine kx [(45, (vin 2))] [] (zE (oAd 2 (hr := by decide)) <| zM <| zZ) ?_
  refine pwp_again (SimImp.refl _) ?_
  refine pwp_seq <| kx [(46, (vb true))] [] (zE (oBk true oLt) <| zZ) ?_
  refine pwp_seq <| pwp_cond (b := true) (by kernel_rfl) (fun _ => ?_) (fun h => by cases h)
  refine pwp_skip <| pwp_seq <| pwp_block <| pwp_seq <| kx [(9, (vi tx))] [] (zE (oXs el36 2) <| zE (oC1 sh3) <| zM <| zZ) ?_
  refine pwp_seq <| kx [(58, (vb false))] [] (zM <| zE oEq <| zM <| zM <| zE (oBk false oLt (by exact decide_eq_false (by omega))) <| zM <| zM <| zE (oBk false oGt (by exact decide_eq_false (by omega))) <| zE oPf <| zE oPt <| zZ) ?_
  refine pwp_cond (b := false) (by kernel_rfl) (fun h => by cases h) (fun _ => ?_)
  refine pwp_skip <| kx [(45, (vin 3))] [] (zE (oAd 3 (hr := by decide)) <| zM <| zZ) ?_
  refine pwp_again (SimImp.refl _) ?_
  refine pwp_seq <| kx [(46, (vb true))] [] (zE (oBk true oLt) <| zZ) ?_
  refine pwp_seq <| pwp_cond (b := true) (by kernel_rfl) (fun _ => ?_) (fun h => by cases h)
  refine pwp_skip <| pwp_seq <| pwp_block <| pwp_seq <| kx [(9, (vi ty))] [] (zE (oXs el36 3) <| zE (oC1 sh3) <| zM <| zZ) ?_
  refine pwp_seq <| kx [(58, (vb true))] [] (zM <| zE oEq <| zM <| zM <| zE (oBk true oLt (by exact decide_eq_true hl)) <| zM <| zK <| zK <| zE oPt <| zE oPt <| zZ) ?_
  refine pwp_cond (b := true) (by kernel_rfl) (fun _ => ?_) (fun h => by cases h)
  refine kx [(7, (vin 2))] [] (zM <| zZ) ?_
  refine kx [(45, (vin 4))] [] (zE (oAd 4 (hr := by decide)) <| zM <| zZ) ?_
  refine pwp_again (SimImp.refl _) ?_
  refine pwp_seq <| kx [(46, (vb false))] [] (zE (oBk false oLt) <| zZ) ?_
  refine pwp_seq <| pwp_cond (b := false) (by kernel_rfl) (fun h => by cases h) (fun _ => ?_)
  refine pwp_exit <| pwp_seq <| kx [(10, (.ref 3 0))] [(3, some (bx (encPlace (RPlace.mk y1 y1))))] (zE (oBd pl91 ze91 zo91) <| zN (oAl 3 ze91 zo91) <| zT (oSt sh91) <| zZ) ?_
  refine pwp_seq <| pwp_seq <| kx [(62, (vb false))] [] (zM <| zE oEq <| zZ) ?_
  refine pwp_cond (b := false) (by kernel_rfl) (fun h => by cases h) (fun _ => ?_)
  refine pwp_skip <| pwp_seq <| pwp_seq <| kx [(76, (vb true))] [] (zM <| zE oNe <| zZ) ?_
  refine pwp_cond (b := true) (by kernel_rfl) (fun _ => ?_) (fun h => by cases h)
  refine pwp_seq <| pwp_sim (wk (l := [(2, (.ref 0 0)), (3, (.ref 1 0)), (5, (.ref 2 0)), (6, (vi 2)), (7, (vin 2)), (10, (.ref 3 0)), (76, (vb true))]) (b := [(0, some (bx (encA31 h))), (1, some (bx (encPair (RPair.mk (RPix.mk fx fy) (RPix.mk tx ty))))), (2, some (bx (encR y1))), (3, some (bx (encPlace (RPlace.mk y1 y1))))])) ?_
  refine kx [(4, (vb true))] [] (zM <| zM <| zE oEq <| zM <| zR (oLa sh67) <| zE (oCl g_zeroT) <| zE oPt <| zM <| zZ) ?_
  refine pwp_ret ⟨_, (.tmp (d := (.val (.bool (true)))) rfl .nil), ?_⟩
  rfl
theorem w_errR31 (h : A9 RInt) (h0 h1 h2 h3 h4 h5 h6 h7 h8 : Int) (hh0 : IOk h.a0 h0 4) (hh1 : IOk h.a1 h1 4) (hh2 : IOk h.a2 h2 4) (hh3 : IOk h.a3 h3 4) (hh4 : IOk h.a4 h4 4) (hh5 : IOk h.a5 h5 4) (hh6 : IOk h.a6 h6 4) (hh7 : IOk h.a7 h7 4) (hh8 : IOk h.a8 h8 4) (fx fy tx ty : Int) (hb0 : List.all [h.a0, h.a1, h.a2, h.a3, h.a4, h.a5, h.a6, h.a7, h.a8] short4 = true) (hv : valH [h.a0, h.a1, h.a2, h.a3, h.a4, h.a5, h.a6, h.a7, h.a8] (det3 h0 h1 h2 h3 h4 h5 h6 h7 h8) = true) (hfx : -1048576 ≤ fx ∧ fx ≤ 1048576) (hfy : -1048576 ≤ fy ∧ fy ≤ 1048576) (htx : -1048576 ≤ tx ∧ tx ≤ 1048576) (hl : ¬ ty < -1048576) (hg : 1048576 < ty) (hr2 : inR tx ty = false) : Takes Tryz.prog 10 [(encA31 h), (encPair (RPair.mk (RPix.mk fx fy) (RPix.mk tx ty)))] (.val (.bool (true))) := by
  let y1 := (RRat.mk (RInt.mk false []) (RInt.mk false []))
  refine fn_intro Tryz.func10 rfl cb10 rfl ?_
  show PWp _ _ _ _ ⟨[(0, (.d (encA31 h))), (1, (.d (encPair (RPair.mk (RPix.mk fx fy) (RPix.mk tx ty)))))], []⟩
  refine pwp_seq <| kx [(2, (.ref 0 0)), (3, (.ref 1 0))] [(0, some (bx (encA31 h))), (1, some (bx (encPair (RPair.mk (RPix.mk fx fy) (RPix.mk tx ty)))))] (zN (oBx 0) <| zN (oBx 1) <| zM <| zZ) ?_
  refine pwp_seq <| pwp_seq <| kx [(17, (vb false))] [] (zE (oCl l_known27) <| zE oNt <| zZ) ?_
  refine pwp_cond (b := false) (by kernel_rfl) (fun h => by cases h) (fun _ => ?_)
  refine pwp_skip <| pwp_seq <| pwp_seq <| kx [(21, (vb false))] [] (zR (oLa sh32) <| zE (oCl (l_map1 h h0 h1 h2 h3 h4 h5 h6 h7 h8 (iu hh0) (iu hh1) (iu hh2) (iu hh3) (iu hh4) (iu hh5) (iu hh6) (iu hh7) (iu hh8))) <| zE (oCl (tk_nil (l_briefT10 h h0 h1 h2 h3 h4 h5 h6 h7 h8 (iu hh0) (iu hh1) (iu hh2) (iu hh3) (iu hh4) (iu hh5) (iu hh6) (iu hh7) (iu hh8) hb0) (.same (.cut 44 6 .nil)))) <| zE oNt <| zZ) ?_
  refine pwp_cond (b := false) (by kernel_rfl) (fun h => by cases h) (fun _ => ?_)
  refine pwp_skip <| pwp_seq <| kx [(5, (.ref 2 0)), (6, (vi 2))] [(2, some (bx (encR y1)))] (zR (oLa sh32) <| zR (oLa sh25) <| zE (oCl (d_errR1 h h0 h1 h2 h3 h4 h5 h6 h7 h8 (iu hh0) (iu hh1) (iu hh2) (iu hh3) (iu hh4) (iu hh5) (iu hh6) (iu hh7) (iu hh8) fx fy tx ty hv (inR_of hfx hfy) hr2)) <| zM <| zE oEx <| zE oEx <| zN (oAl 2 ze67 zo67) <| zT (oSt sh67) <| zM <| zZ) ?_
  refine pwp_seq <| kx [(7, (vin 0))] [] (zM <| zZ) ?_
  refine pwp_seq <| pwp_seq <| kx [(30, (vb false))] [] (zR (oLa sh32) <| zE (oBk true (oCl (l_valid h h0 h1 h2 h3 h4 h5 h6 h7 h8 (iu hh0) (iu hh1) (iu hh2) (iu hh3) (iu hh4) (iu hh5) (iu hh6) (iu hh7) (iu hh8))) (by exact hv)) <| zE oNt <| zZ) ?_
  refine pwp_cond (b := false) (by kernel_rfl) (fun h => by cases h) (fun _ => ?_)
  refine pwp_skip <| pwp_seq <| pwp_seq <| kx [(43, (vl 3 1 enc_i64 [fx, fy, tx, ty])), (44, (vin 4)), (45, (vin 0))] [] (zE (oFr fo25_0) <| zE (oFr fo23_0) <| zR (oL1 sh3) <| zE (oFr fo25_0) <| zE (oFr fo23_1) <| zR (oL1 sh3) <| zE (oFr fo25_1) <| zE (oFr fo23_0) <| zR (oL1 sh3) <| zE (oFr fo25_1) <| zE (oFr fo23_1) <| zR (oL1 sh3) <| zE (oBs el36 ze3 zo3) <| zE (oLn el36 4) <| zM <| zZ) ?_
  refine pwp_block <| pwp_rounds 20 ?_
  refine pwp_round <| pwp_seq <| kx [(46, (vb true))] [] (zE (oBk true oLt) <| zZ) ?_
  refine pwp_seq <| pwp_cond (b := true) (by kernel_rfl) (fun _ => ?_) (fun h => by cases h)
  refine pwp_skip <| pwp_seq <| pwp_block <| pwp_seq <| kx [(9, (vi fx))] [] (zE (oXs el36 0) <| zE (oC1 sh3) <| zM <| zZ) ?_
  refine pwp_seq <| kx [(58, (vb false))] [] (zM <| zE oEq <| zM <| zM <| zE (oBk false oLt (by exact decide_eq_false (by omega))) <| zM <| zM <| zE (oBk false oGt (by exact decide_eq_false (by omega))) <| zE oPf <| zE oPt <| zZ) ?_
  refine pwp_cond (b := false) (by kernel_rfl) (fun h => by cases h) (fun _ => ?_)
  refine pwp_skip <| kx [(45, (vin 1))] [] (zE (oAd 1 (hr := by decide)) <| zM <| zZ) ?_
  refine pwp_again (SimImp.refl _) ?_
  refine pwp_seq <| kx [(46, (vb true))] [] (zE (oBk true oLt) <| zZ) ?_
  refine pwp_seq <| pwp_cond (b := true) (by kernel_rfl) (fun _ => ?_) (fun h => by cases h)
  refine pwp_skip <| pwp_seq <| pwp_block <| pwp_seq <| kx [(9, (vi fy))] [] (zE (oXs el36 1) <| zE (oC1 sh3) <| zM <| zZ) ?_
  refine pwp_seq <| kx [(58, (vb false))] [] (zM <| zE oEq <| zM <| zM <| zE (oBk false oLt (by exact decide_eq_false (by omega))) <| zM <| zM <| zE (oBk false oGt (by exact decide_eq_false (by omega))) <| zE oPf <| zE oPt <| zZ) ?_
  refine pwp_cond (b := false) (by kernel_rfl) (fun h => by cases h) (fun _ => ?_)
  refine pwp_skip <| pwp_sim (wk (l := [(2, (.ref 0 0)), (3, (.ref 1 0)), (5, (.ref 2 0)), (6, (vi 2)), (7, (vin 0)), (43, (vl 3 1 enc_i64 [fx, fy, tx, ty])), (44, (vin 4)), (45, (vin 1)), (58, (vb false))]) (b := [(0, some (bx (encA31 h))), (1, some (bx (encPair (RPair.mk (RPix.mk fx fy) (RPix.mk tx ty))))), (2, some (bx (encR y1)))])) ?_
  refine kx [(45, (vin 2))] [] (zE (oAd 2 (hr := by decide)) <| zM <| zZ) ?_
  refine pwp_again (SimImp.refl _) ?_
  refine pwp_seq <| kx [(46, (vb true))] [] (zE (oBk true oLt) <| zZ) ?_
  refine pwp_seq <| pwp_cond (b := true) (by kernel_rfl) (fun _ => ?_) (fun h => by cases h)
  refine pwp_skip <| pwp_seq <| pwp_block <| pwp_seq <| kx [(9, (vi tx))] [] (zE (oXs el36 2) <| zE (oC1 sh3) <| zM <| zZ) ?_
  refine pwp_seq <| kx [(58, (vb false))] [] (zM <| zE oEq <| zM <| zM <| zE (oBk false oLt (by exact decide_eq_false (by omega))) <| zM <| zM <| zE (oBk false oGt (by exact decide_eq_false (by omega))) <| zE oPf <| zE oPt <| zZ) ?_
  refine pwp_cond (b := false) (by kernel_rfl) (fun h => by cases h) (fun _ => ?_)
  refine pwp_skip <| kx [(45, (vin 3))] [] (zE (oAd 3 (hr := by decide)) <| zM <| zZ) ?_
  refine pwp_again (SimImp.refl _) ?_
  refine pwp_seq <| kx [(46, (vb true))] [] (zE (oBk true oLt) <| zZ) ?_
  refine pwp_seq <| pwp_cond (b := true) (by kernel_rfl) (fun _ => ?_) (fun h => by cases h)
  refine pwp_skip <| pwp_seq <| pwp_block <| pwp_seq <| kx [(9, (vi ty))] [] (zE (oXs el36 3) <| zE (oC1 sh3) <| zM <| zZ) ?_
  refine pwp_seq <| kx [(58, (vb true))] [] (zM <| zE oEq <| zM <| zM <| zE (oBk false oLt (by exact decide_eq_false hl)) <| zM <| zM <| zE (oBk true oGt (by exact decide_eq_true hg)) <| zE oPf <| zE oPt <| zZ) ?_
  refine pwp_cond (b := true) (by kernel_rfl) (fun _ => ?_) (fun h => by cases h)
  refine kx [(7, (vin 2))] [] (zM <| zZ) ?_
  refine kx [(45, (vin 4))] [] (zE (oAd 4 (hr := by decide)) <| zM <| zZ) ?_
  refine pwp_again (SimImp.refl _) ?_
  refine pwp_seq <| kx [(46, (vb false))] [] (zE (oBk false oLt) <| zZ) ?_
  refine pwp_seq <| pwp_cond (b := false) (by kernel_rfl) (fun h => by cases h) (fun _ => ?_)
  refine pwp_exit <| pwp_seq <| kx [(10, (.ref 3 0))] [(3, some (bx (encPlace (RPlace.mk y1 y1))))] (zE (oBd pl91 ze91 zo91) <| zN (oAl 3 ze91 zo91) <| zT (oSt sh91) <| zZ) ?_
  refine pwp_seq <| pwp_seq <| kx [(62, (vb false))] [] (zM <| zE oEq <| zZ) ?_
  refine pwp_cond (b := false) (by kernel_rfl) (fun h => by cases h) (fun _ => ?_)
  refine pwp_skip <| pwp_seq <| pwp_seq <| kx [(76, (vb true))] [] (zM <| zE oNe <| zZ) ?_
  refine pwp_cond (b := true) (by kernel_rfl) (fun _ => ?_) (fun h => by cases h)
  refine pwp_seq <| pwp_sim (wk (l := [(2, (.ref 0 0)), (3, (.ref 1 0)), (5, (.ref 2 0)), (6, (vi 2)), (7, (vin 2)), (10, (.ref 3 0)), (76, (vb true))]) (b := [(0, some (bx (encA31 h))), (1, some (bx (encPair (RPair.mk (RPix.mk fx fy) (RPix.mk tx ty))))), (2, some (bx (encR y1))), (3, some (bx (encPlace (RPlace.mk y1 y1))))])) ?_
  refine kx [(4, (vb true))] [] (zM <| zM <| zE oEq <| zM <| zR (oLa sh67) <| zE (oCl g_zeroT) <| zE oPt <| zM <| zZ) ?_
  refine pwp_ret ⟨_, (.tmp (d := (.val (.bool (true)))) rfl .nil), ?_⟩
  rfl
theorem w_errI (h : A9 RInt) (h0 h1 h2 h3 h4 h5 h6 h7 h8 : Int) (hh0 : IOk h.a0 h0 4) (hh1 : IOk h.a1 h1 4) (hh2 : IOk h.a2 h2 4) (hh3 : IOk h.a3 h3 4) (hh4 : IOk h.a4 h4 4) (hh5 : IOk h.a5 h5 4) (hh6 : IOk h.a6 h6 4) (hh7 : IOk h.a7 h7 4) (hh8 : IOk h.a8 h8 4) (fx fy tx ty : Int) (f0 f1 f2 : Int) (hf : redL [fx, fy, 1] = [f0, f1, f2]) (a0 a1 a2 : Int) (ha : redL [(((h0 * f0) + (h1 * f1)) + (h2 * f2)), (((h3 * f0) + (h4 * f1)) + (h5 * f2)), (((h6 * f0) + (h7 * f1)) + (h8 * f2))] = [a0, a1, a2]) (hb0 : List.all [h.a0, h.a1, h.a2, h.a3, h.a4, h.a5, h.a6, h.a7, h.a8] short4 = true) (hv : valH [h.a0, h.a1, h.a2, h.a3, h.a4, h.a5, h.a6, h.a7, h.a8] (det3 h0 h1 h2 h3 h4 h5 h6 h7 h8) = true) (hfx : -1048576 ≤ fx ∧ fx ≤ 1048576) (hfy : -1048576 ≤ fy ∧ fy ≤ 1048576) (htx : -1048576 ≤ tx ∧ tx ≤ 1048576) (hty : -1048576 ≤ ty ∧ ty ≤ 1048576) (hz : (((h6 * fx) + (h7 * fy)) + (h8 * 1)) = 0) (hnw : sgnL [(((h0 * f0) + (h1 * f1)) + (h2 * f2)), (((h3 * f0) + (h4 * f1)) + (h5 * f2)), (((h6 * f0) + (h7 * f1)) + (h8 * f2))] ≠ 0) (ha2 : a2 = 0) : Takes Tryz.prog 10 [(encA31 h), (encPair (RPair.mk (RPix.mk fx fy) (RPix.mk tx ty)))] (.val (.bool (true))) := by
  let y2 := (RRat.mk (RInt.mk false []) (RInt.mk false []))
  let y1 := (bx (encPlace (RPlace.mk y2 y2)))
  refine fn_intro Tryz.func10 rfl cb10 rfl ?_
  show PWp _ _ _ _ ⟨[(0, (.d (encA31 h))), (1, (.d (encPair (RPair.mk (RPix.mk fx fy) (RPix.mk tx ty)))))], []⟩
  refine pwp_seq <| kx [(2, (.ref 0 0)), (3, (.ref 1 0))] [(0, some (bx (encA31 h))), (1, some (bx (encPair (RPair.mk (RPix.mk fx fy) (RPix.mk tx ty)))))] (zN (oBx 0) <| zN (oBx 1) <| zM <| zZ) ?_
  refine pwp_seq <| pwp_seq <| kx [(17, (vb false))] [] (zE (oCl l_known27) <| zE oNt <| zZ) ?_
  refine pwp_cond (b := false) (by kernel_rfl) (fun h => by cases h) (fun _ => ?_)
  refine pwp_skip <| pwp_seq <| pwp_seq <| kx [(21, (vb false))] [] (zR (oLa sh32) <| zE (oCl (l_map1 h h0 h1 h2 h3 h4 h5 h6 h7 h8 (iu hh0) (iu hh1) (iu hh2) (iu hh3) (iu hh4) (iu hh5) (iu hh6) (iu hh7) (iu hh8))) <| zE (oCl (tk_nil (l_briefT10 h h0 h1 h2 h3 h4 h5 h6 h7 h8 (iu hh0) (iu hh1) (iu hh2) (iu hh3) (iu hh4) (iu hh5) (iu hh6) (iu hh7) (iu hh8) hb0) (.same (.cut 44 6 .nil)))) <| zE oNt <| zZ) ?_
  refine pwp_cond (b := false) (by kernel_rfl) (fun h => by cases h) (fun _ => ?_)
  refine pwp_skip <| pwp_seq <| kx [(5, (.ref 2 0)), (6, (vi 15))] [(2, some (bx (encR y2)))] (zR (oLa sh32) <| zR (oLa sh25) <| zE (oCl (d_errI h h0 h1 h2 h3 h4 h5 h6 h7 h8 (iu hh0) (iu hh1) (iu hh2) (iu hh3) (iu hh4) (iu hh5) (iu hh6) (iu hh7) (iu hh8) fx fy tx ty hv hfx hfy htx hty hz)) <| zM <| zE oEx <| zE oEx <| zN (oAl 2 ze67 zo67) <| zT (oSt sh67) <| zM <| zZ) ?_
  refine pwp_seq <| kx [(7, (vin 0))] [] (zM <| zZ) ?_
  refine pwp_seq <| pwp_seq <| kx [(30, (vb false))] [] (zR (oLa sh32) <| zE (oBk true (oCl (l_valid h h0 h1 h2 h3 h4 h5 h6 h7 h8 (iu hh0) (iu hh1) (iu hh2) (iu hh3) (iu hh4) (iu hh5) (iu hh6) (iu hh7) (iu hh8))) (by exact hv)) <| zE oNt <| zZ) ?_
  refine pwp_cond (b := false) (by kernel_rfl) (fun h => by cases h) (fun _ => ?_)
  refine pwp_skip <| pwp_seq <| pwp_seq <| kx [(43, (vl 3 1 enc_i64 [fx, fy, tx, ty])), (44, (vin 4)), (45, (vin 0))] [] (zE (oFr fo25_0) <| zE (oFr fo23_0) <| zR (oL1 sh3) <| zE (oFr fo25_0) <| zE (oFr fo23_1) <| zR (oL1 sh3) <| zE (oFr fo25_1) <| zE (oFr fo23_0) <| zR (oL1 sh3) <| zE (oFr fo25_1) <| zE (oFr fo23_1) <| zR (oL1 sh3) <| zE (oBs el36 ze3 zo3) <| zE (oLn el36 4) <| zM <| zZ) ?_
  refine pwp_block <| pwp_rounds 20 ?_
  refine pwp_round <| pwp_seq <| kx [(46, (vb true))] [] (zE (oBk true oLt) <| zZ) ?_
  refine pwp_seq <| pwp_cond (b := true) (by kernel_rfl) (fun _ => ?_) (fun h => by cases h)
  refine pwp_skip <| pwp_seq <| pwp_block <| pwp_seq <| kx [(9, (vi fx))] [] (zE (oXs el36 0) <| zE (oC1 sh3) <| zM <| zZ) ?_
  refine pwp_seq <| kx [(58, (vb false))] [] (zM <| zE oEq <| zM <| zM <| zE (oBk false oLt (by exact decide_eq_false (by omega))) <| zM <| zM <| zE (oBk false oGt (by exact decide_eq_false (by omega))) <| zE oPf <| zE oPt <| zZ) ?_
  refine pwp_cond (b := false) (by kernel_rfl) (fun h => by cases h) (fun _ => ?_)
  refine pwp_skip <| kx [(45, (vin 1))] [] (zE (oAd 1 (hr := by decide)) <| zM <| zZ) ?_
  refine pwp_again (SimImp.refl _) ?_
  refine pwp_seq <| kx [(46, (vb true))] [] (zE (oBk true oLt) <| zZ) ?_
  refine pwp_seq <| pwp_cond (b := true) (by kernel_rfl) (fun _ => ?_) (fun h => by cases h)
  refine pwp_skip <| pwp_seq <| pwp_block <| pwp_seq <| kx [(9, (vi fy))] [] (zE (oXs el36 1) <| zE (oC1 sh3) <| zM <| zZ) ?_
  refine pwp_seq <| kx [(58, (vb false))] [] (zM <| zE oEq <| zM <| zM <| zE (oBk false oLt (by exact decide_eq_false (by omega))) <| zM <| zM <| zE (oBk false oGt (by exact decide_eq_false (by omega))) <| zE oPf <| zE oPt <| zZ) ?_
  refine pwp_cond (b := false) (by kernel_rfl) (fun h => by cases h) (fun _ => ?_)
  refine pwp_skip <| pwp_sim (wk (l := [(2, (.ref 0 0)), (3, (.ref 1 0)), (5, (.ref 2 0)), (6, (vi 15)), (7, (vin 0)), (43, (vl 3 1 enc_i64 [fx, fy, tx, ty])), (44, (vin 4)), (45, (vin 1)), (58, (vb false))]) (b := [(0, some (bx (encA31 h))), (1, some (bx (encPair (RPair.mk (RPix.mk fx fy) (RPix.mk tx ty))))), (2, some (bx (encR y2)))])) ?_
  refine kx [(45, (vin 2))] [] (zE (oAd 2 (hr := by decide)) <| zM <| zZ) ?_
  refine pwp_again (SimImp.refl _) ?_
  refine pwp_seq <| kx [(46, (vb true))] [] (zE (oBk true oLt) <| zZ) ?_
  refine pwp_seq <| pwp_cond (b := true) (by kernel_rfl) (fun _ => ?_) (fun h => by cases h)
  refine pwp_skip <| pwp_seq <| pwp_block <| pwp_seq <| kx [(9, (vi tx))] [] (zE (oXs el36 2) <| zE (oC1 sh3) <| zM <| zZ) ?_
  refine pwp_seq <| kx [(58, (vb false))] [] (zM <| zE oEq <| zM <| zM <| zE (oBk false oLt (by exact decide_eq_false (by omega))) <| zM <| zM <| zE (oBk false oGt (by exact decide_eq_false (by omega))) <| zE oPf <| zE oPt <| zZ) ?_
  refine pwp_cond (b := false) (by kernel_rfl) (fun h => by cases h) (fun _ => ?_)
  refine pwp_skip <| kx [(45, (vin 3))] [] (zE (oAd 3 (hr := by decide)) <| zM <| zZ) ?_
  refine pwp_again (SimImp.refl _) ?_
  refine pwp_seq <| kx [(46, (vb true))] [] (zE (oBk true oLt) <| zZ) ?_
  refine pwp_seq <| pwp_cond (b := true) (by kernel_rfl) (fun _ => ?_) (fun h => by cases h)
  refine pwp_skip <| pwp_seq <| pwp_block <| pwp_seq <| kx [(9, (vi ty))] [] (zE (oXs el36 3) <| zE (oC1 sh3) <| zM <| zZ) ?_
  refine pwp_seq <| kx [(58, (vb false))] [] (zM <| zE oEq <| zM <| zM <| zE (oBk false oLt (by exact decide_eq_false (by omega))) <| zM <| zM <| zE (oBk false oGt (by exact decide_eq_false (by omega))) <| zE oPf <| zE oPt <| zZ) ?_
  refine pwp_cond (b := false) (by kernel_rfl) (fun h => by cases h) (fun _ => ?_)
  refine pwp_skip <| kx [(45, (vin 4))] [] (zE (oAd 4 (hr := by decide)) <| zM <| zZ) ?_
  refine pwp_again (SimImp.refl _) ?_
  refine pwp_seq <| kx [(46, (vb false))] [] (zE (oBk false oLt) <| zZ) ?_
  refine pwp_seq <| pwp_cond (b := false) (by kernel_rfl) (fun h => by cases h) (fun _ => ?_)
  refine pwp_exit <| pwp_seq <| kx [(10, (.ref 3 0))] [(3, some y1)] (zE (oBd pl91 ze91 zo91) <| zN (oAl 3 ze91 zo91) <| zT (oSt sh91) <| zZ) ?_
  refine pwp_seq <| pwp_seq <| kx [(62, (vb true))] [] (zM <| zE oEq <| zZ) ?_
  refine pwp_cond (b := true) (by kernel_rfl) (fun _ => ?_) (fun h => by cases h)
  refine pwp_seq ?_
  have bn1 : ∀ c ∈ [f0, f1, f2], IOk (ofZ c) c 1 := red_iok (n := 1) (.cons (iok_small (z := fx) (by omega)) (.cons (iok_small (z := fy) (by omega)) (.cons (iok_small (z := 1) (by decide)) .nil))) hf
  have bn2 : ∀ c ∈ [a0, a1, a2], IOk (ofZ c) c 7 := red_iok (n := 7) (.cons (iok_add (k := 7) (iok_add (k := 6) (iok_mul (k := 5) hh0 (bn1 f0 (by simp)) (by decide)) (iok_mul (k := 5) hh1 (bn1 f1 (by simp)) (by decide)) (by decide)) (iok_mul (k := 5) hh2 (bn1 f2 (by simp)) (by decide)) (by decide)) (.cons (iok_add (k := 7) (iok_add (k := 6) (iok_mul (k := 5) hh3 (bn1 f0 (by simp)) (by decide)) (iok_mul (k := 5) hh4 (bn1 f1 (by simp)) (by decide)) (by decide)) (iok_mul (k := 5) hh5 (bn1 f2 (by simp)) (by decide)) (by decide)) (.cons (iok_add (k := 7) (iok_add (k := 6) (iok_mul (k := 5) hh6 (bn1 f0 (by simp)) (by decide)) (iok_mul (k := 5) hh7 (bn1 f1 (by simp)) (by decide)) (by decide)) (iok_mul (k := 5) hh8 (bn1 f2 (by simp)) (by decide)) (by decide)) .nil))) ha
  refine kd [(11, (.ref 4 0)), (12, (vb false))] [(4, some y1)] mo (wR (oLa sh32) <| wE (oFr fo25_0) <| wR (oLa sh23) <| wE (oCl (l_pix fx fy hfx hfy f0 f1 f2 hf)) <| wE (oCl (l_apply h h0 h1 h2 h3 h4 h5 h6 h7 h8 (iu hh0) (iu hh1) (iu hh2) (iu hh3) (iu hh4) (iu hh5) (iu hh6) (iu hh7) (iu hh8) (A3.mk (ofZ f0) (ofZ f1) (ofZ f2)) f0 f1 f2 (iok_up (bn1 f0 (by simp)) (by decide)) (iok_up (bn1 f1 (by simp)) (by decide)) (iok_up (bn1 f2 (by simp)) (by decide)) a0 a1 a2 ha hnw)) <| wE (oCl (l_place0 (A3.mk (ofZ a0) (ofZ a1) (ofZ a2)) a0 a1 a2 (iok_up (bn2 a0 (by simp)) (by decide)) (iok_up (bn2 a1 (by simp)) (by decide)) (iok_up (bn2 a2 (by simp)) (by decide)) ha2)) <| wM <| wE oEx <| wE oEx <| wN (oAl 4 ze91 zo91) <| wT (oSt sh91) <| wM <| wZ) ?_
  refine pwp_seq <| kx [] [(3, some y1)] (zR (oLa sh91) <| zT (oSt sh91) <| zZ) ?_
  refine pwp_seq <| pwp_sim (wk (l := [(2, (.ref 0 0)), (3, (.ref 1 0)), (5, (.ref 2 0)), (6, (vi 15)), (7, (vin 0)), (10, (.ref 3 0)), (12, (vb false))]) (b := [(0, some (bx (encA31 h))), (1, some (bx (encPair (RPair.mk (RPix.mk fx fy) (RPix.mk tx ty))))), (2, some (bx (encR y2))), (3, some y1)])) ?_
  refine kx [(74, (vb true))] [] (zM <| zE oNt <| zZ) ?_
  refine pwp_cond (b := true) (by kernel_rfl) (fun _ => ?_) (fun h => by cases h)
  refine kx [(7, (vin 15))] [] (zM <| zZ) ?_
  refine pwp_seq <| pwp_seq <| kx [(76, (vb true))] [] (zM <| zE oNe <| zZ) ?_
  refine pwp_cond (b := true) (by kernel_rfl) (fun _ => ?_) (fun h => by cases h)
  refine pwp_seq <| kx [(4, (vb true))] [] (zM <| zM <| zE oEq <| zM <| zR (oLa sh67) <| zE (oCl g_zeroT) <| zE oPt <| zM <| zZ) ?_
  refine pwp_ret ⟨_, (.tmp (d := (.val (.bool (true)))) rfl .nil), ?_⟩
  rfl
theorem w_errS (h : A9 RInt) (h0 h1 h2 h3 h4 h5 h6 h7 h8 : Int) (hh0 : IOk h.a0 h0 4) (hh1 : IOk h.a1 h1 4) (hh2 : IOk h.a2 h2 4) (hh3 : IOk h.a3 h3 4) (hh4 : IOk h.a4 h4 4) (hh5 : IOk h.a5 h5 4) (hh6 : IOk h.a6 h6 4) (hh7 : IOk h.a7 h7 4) (hh8 : IOk h.a8 h8 4) (fx fy tx ty : Int) (f0 f1 f2 : Int) (hf : redL [fx, fy, 1] = [f0, f1, f2]) (a0 a1 a2 : Int) (ha : redL [(((h0 * f0) + (h1 * f1)) + (h2 * f2)), (((h3 * f0) + (h4 * f1)) + (h5 * f2)), (((h6 * f0) + (h7 * f1)) + (h8 * f2))] = [a0, a1, a2]) (g0 g1 g2 : Int) (hg : redL [tx, ty, 1] = [g0, g1, g2]) (hb0 : List.all [h.a0, h.a1, h.a2, h.a3, h.a4, h.a5, h.a6, h.a7, h.a8] short4 = true) (hv : valH [h.a0, h.a1, h.a2, h.a3, h.a4, h.a5, h.a6, h.a7, h.a8] (det3 h0 h1 h2 h3 h4 h5 h6 h7 h8) = true) (hfx : -1048576 ≤ fx ∧ fx ≤ 1048576) (hfy : -1048576 ≤ fy ∧ fy ≤ 1048576) (htx : -1048576 ≤ tx ∧ tx ≤ 1048576) (hty : -1048576 ≤ ty ∧ ty ≤ 1048576) (hz : (((h6 * fx) + (h7 * fy)) + (h8 * 1)) ≠ 0) (hnw : sgnL [(((h0 * f0) + (h1 * f1)) + (h2 * f2)), (((h3 * f0) + (h4 * f1)) + (h5 * f2)), (((h6 * f0) + (h7 * f1)) + (h8 * f2))] ≠ 0) (ha2 : a2 ≠ 0) (hab : ((((Rat.divInt (((h0 * fx) + (h1 * fy)) + (h2 * 1)) (((h6 * fx) + (h7 * fy)) + (h8 * 1))) - ((tx : Int) : Rat)) * ((Rat.divInt (((h0 * fx) + (h1 * fy)) + (h2 * 1)) (((h6 * fx) + (h7 * fy)) + (h8 * 1))) - ((tx : Int) : Rat))) + (((Rat.divInt (((h3 * fx) + (h4 * fy)) + (h5 * 1)) (((h6 * fx) + (h7 * fy)) + (h8 * 1))) - ((ty : Int) : Rat)) * ((Rat.divInt (((h3 * fx) + (h4 * fy)) + (h5 * 1)) (((h6 * fx) + (h7 * fy)) + (h8 * 1))) - ((ty : Int) : Rat)))) = ((((Rat.divInt a0 a2) - ((tx : Int) : Rat)) * ((Rat.divInt a0 a2) - ((tx : Int) : Rat))) + (((Rat.divInt a1 a2) - ((ty : Int) : Rat)) * ((Rat.divInt a1 a2) - ((ty : Int) : Rat))))) (hsg : signQ ((((Rat.divInt (((h0 * fx) + (h1 * fy)) + (h2 * 1)) (((h6 * fx) + (h7 * fy)) + (h8 * 1))) - ((tx : Int) : Rat)) * ((Rat.divInt (((h0 * fx) + (h1 * fy)) + (h2 * 1)) (((h6 * fx) + (h7 * fy)) + (h8 * 1))) - ((tx : Int) : Rat))) + (((Rat.divInt (((h3 * fx) + (h4 * fy)) + (h5 * 1)) (((h6 * fx) + (h7 * fy)) + (h8 * 1))) - ((ty : Int) : Rat)) * ((Rat.divInt (((h3 * fx) + (h4 * fy)) + (h5 * 1)) (((h6 * fx) + (h7 * fy)) + (h8 * 1))) - ((ty : Int) : Rat)))) = 0) (hs0 : sameI (ofZ a0) (ofZ g0) = true) (hs1 : sameI (ofZ a1) (ofZ g1) = true) (hs2 : sameI (ofZ a2) (ofZ g2) = true) : Takes Tryz.prog 10 [(encA31 h), (encPair (RPair.mk (RPix.mk fx fy) (RPix.mk tx ty)))] (.val (.bool (true))) := by
  let y3 := (ofQ ((((Rat.divInt a0 a2) - ((tx : Int) : Rat)) * ((Rat.divInt a0 a2) - ((tx : Int) : Rat))) + (((Rat.divInt a1 a2) - ((ty : Int) : Rat)) * ((Rat.divInt a1 a2) - ((ty : Int) : Rat)))))
  let y2 := (ofQ ((((Rat.divInt (((h0 * fx) + (h1 * fy)) + (h2 * 1)) (((h6 * fx) + (h7 * fy)) + (h8 * 1))) - ((tx : Int) : Rat)) * ((Rat.divInt (((h0 * fx) + (h1 * fy)) + (h2 * 1)) (((h6 * fx) + (h7 * fy)) + (h8 * 1))) - ((tx : Int) : Rat))) + (((Rat.divInt (((h3 * fx) + (h4 * fy)) + (h5 * 1)) (((h6 * fx) + (h7 * fy)) + (h8 * 1))) - ((ty : Int) : Rat)) * ((Rat.divInt (((h3 * fx) + (h4 * fy)) + (h5 * 1)) (((h6 * fx) + (h7 * fy)) + (h8 * 1))) - ((ty : Int) : Rat)))))
  let y1 := (bx (encR y2))
  refine fn_intro Tryz.func10 rfl cb10 rfl ?_
  show PWp _ _ _ _ ⟨[(0, (.d (encA31 h))), (1, (.d (encPair (RPair.mk (RPix.mk fx fy) (RPix.mk tx ty)))))], []⟩
  refine pwp_seq <| kx [(2, (.ref 0 0)), (3, (.ref 1 0))] [(0, some (bx (encA31 h))), (1, some (bx (encPair (RPair.mk (RPix.mk fx fy) (RPix.mk tx ty)))))] (zN (oBx 0) <| zN (oBx 1) <| zM <| zZ) ?_
  refine pwp_seq <| pwp_seq <| kx [(17, (vb false))] [] (zE (oCl l_known27) <| zE oNt <| zZ) ?_
  refine pwp_cond (b := false) (by kernel_rfl) (fun h => by cases h) (fun _ => ?_)
  refine pwp_skip <| pwp_seq <| pwp_seq <| kx [(21, (vb false))] [] (zR (oLa sh32) <| zE (oCl (l_map1 h h0 h1 h2 h3 h4 h5 h6 h7 h8 (iu hh0) (iu hh1) (iu hh2) (iu hh3) (iu hh4) (iu hh5) (iu hh6) (iu hh7) (iu hh8))) <| zE (oCl (tk_nil (l_briefT10 h h0 h1 h2 h3 h4 h5 h6 h7 h8 (iu hh0) (iu hh1) (iu hh2) (iu hh3) (iu hh4) (iu hh5) (iu hh6) (iu hh7) (iu hh8) hb0) (.same (.cut 44 6 .nil)))) <| zE oNt <| zZ) ?_
  refine pwp_cond (b := false) (by kernel_rfl) (fun h => by cases h) (fun _ => ?_)
  refine pwp_skip <| pwp_seq ?_
  have bn1 : QL ((((Rat.divInt (((h0 * fx) + (h1 * fy)) + (h2 * 1)) (((h6 * fx) + (h7 * fy)) + (h8 * 1))) - ((tx : Int) : Rat)) * ((Rat.divInt (((h0 * fx) + (h1 * fy)) + (h2 * 1)) (((h6 * fx) + (h7 * fy)) + (h8 * 1))) - ((tx : Int) : Rat))) + (((Rat.divInt (((h3 * fx) + (h4 * fy)) + (h5 * 1)) (((h6 * fx) + (h7 * fy)) + (h8 * 1))) - ((ty : Int) : Rat)) * ((Rat.divInt (((h3 * fx) + (h4 * fy)) + (h5 * 1)) (((h6 * fx) + (h7 * fy)) + (h8 * 1))) - ((ty : Int) : Rat)))) 45 := (ql_add (k := 45) (ql_mul (k := 22) (ql_sub (k := 11) (ql_divInt (n := 7) (Nat.le_trans (IOk.ln (iok_add (k := 7) (iok_add (k := 6) (iok_mul (k := 5) hh0 (iok_small (z := fx) (by omega)) (by decide)) (iok_mul (k := 5) hh1 (iok_small (z := fy) (by omega)) (by decide)) (by decide)) (iok_mul (k := 5) hh2 (iok_small (z := 1) (by decide)) (by decide)) (by decide))) (by decide)) (Nat.le_trans (IOk.ln (iok_add (k := 7) (iok_add (k := 6) (iok_mul (k := 5) hh6 (iok_small (z := fx) (by omega)) (by decide)) (iok_mul (k := 5) hh7 (iok_small (z := fy) (by omega)) (by decide)) (by decide)) (iok_mul (k := 5) hh8 (iok_small (z := 1) (by decide)) (by decide)) (by decide))) (by decide)) (by decide)) (ql_int (z := tx) (lenZ_int (by omega) (by omega)) (by decide)) (by decide)) (ql_sub (k := 11) (ql_divInt (n := 7) (Nat.le_trans (IOk.ln (iok_add (k := 7) (iok_add (k := 6) (iok_mul (k := 5) hh0 (iok_small (z := fx) (by omega)) (by decide)) (iok_mul (k := 5) hh1 (iok_small (z := fy) (by omega)) (by decide)) (by decide)) (iok_mul (k := 5) hh2 (iok_small (z := 1) (by decide)) (by decide)) (by decide))) (by decide)) (Nat.le_trans (IOk.ln (iok_add (k := 7) (iok_add (k := 6) (iok_mul (k := 5) hh6 (iok_small (z := fx) (by omega)) (by decide)) (iok_mul (k := 5) hh7 (iok_small (z := fy) (by omega)) (by decide)) (by decide)) (iok_mul (k := 5) hh8 (iok_small (z := 1) (by decide)) (by decide)) (by decide))) (by decide)) (by decide)) (ql_int (z := tx) (lenZ_int (by omega) (by omega)) (by decide)) (by decide)) (by decide)) (ql_mul (k := 22) (ql_sub (k := 11) (ql_divInt (n := 7) (Nat.le_trans (IOk.ln (iok_add (k := 7) (iok_add (k := 6) (iok_mul (k := 5) hh3 (iok_small (z := fx) (by omega)) (by decide)) (iok_mul (k := 5) hh4 (iok_small (z := fy) (by omega)) (by decide)) (by decide)) (iok_mul (k := 5) hh5 (iok_small (z := 1) (by decide)) (by decide)) (by decide))) (by decide)) (Nat.le_trans (IOk.ln (iok_add (k := 7) (iok_add (k := 6) (iok_mul (k := 5) hh6 (iok_small (z := fx) (by omega)) (by decide)) (iok_mul (k := 5) hh7 (iok_small (z := fy) (by omega)) (by decide)) (by decide)) (iok_mul (k := 5) hh8 (iok_small (z := 1) (by decide)) (by decide)) (by decide))) (by decide)) (by decide)) (ql_int (z := ty) (lenZ_int (by omega) (by omega)) (by decide)) (by decide)) (ql_sub (k := 11) (ql_divInt (n := 7) (Nat.le_trans (IOk.ln (iok_add (k := 7) (iok_add (k := 6) (iok_mul (k := 5) hh3 (iok_small (z := fx) (by omega)) (by decide)) (iok_mul (k := 5) hh4 (iok_small (z := fy) (by omega)) (by decide)) (by decide)) (iok_mul (k := 5) hh5 (iok_small (z := 1) (by decide)) (by decide)) (by decide))) (by decide)) (Nat.le_trans (IOk.ln (iok_add (k := 7) (iok_add (k := 6) (iok_mul (k := 5) hh6 (iok_small (z := fx) (by omega)) (by decide)) (iok_mul (k := 5) hh7 (iok_small (z := fy) (by omega)) (by decide)) (by decide)) (iok_mul (k := 5) hh8 (iok_small (z := 1) (by decide)) (by decide)) (by decide))) (by decide)) (by decide)) (ql_int (z := ty) (lenZ_int (by omega) (by omega)) (by decide)) (by decide)) (by decide)) (by decide))
  refine kx [(5, (.ref 2 0)), (6, (vi 0))] [(2, some y1)] (zR (oLa sh32) <| zR (oLa sh25) <| zE (oCl (d_err h h0 h1 h2 h3 h4 h5 h6 h7 h8 (iu hh0) (iu hh1) (iu hh2) (iu hh3) (iu hh4) (iu hh5) (iu hh6) (iu hh7) (iu hh8) fx fy tx ty hv hfx hfy htx hty hz)) <| zM <| zE oEx <| zE oEx <| zN (oAl 2 ze67 zo67) <| zT (oSt sh67) <| zM <| zZ) ?_
  refine pwp_seq <| kx [(7, (vin 0))] [] (zM <| zZ) ?_
  refine pwp_seq <| pwp_seq <| kx [(30, (vb false))] [] (zR (oLa sh32) <| zE (oBk true (oCl (l_valid h h0 h1 h2 h3 h4 h5 h6 h7 h8 (iu hh0) (iu hh1) (iu hh2) (iu hh3) (iu hh4) (iu hh5) (iu hh6) (iu hh7) (iu hh8))) (by exact hv)) <| zE oNt <| zZ) ?_
  refine pwp_cond (b := false) (by kernel_rfl) (fun h => by cases h) (fun _ => ?_)
  refine pwp_skip <| pwp_seq <| pwp_seq <| kx [(43, (vl 3 1 enc_i64 [fx, fy, tx, ty])), (44, (vin 4)), (45, (vin 0))] [] (zE (oFr fo25_0) <| zE (oFr fo23_0) <| zR (oL1 sh3) <| zE (oFr fo25_0) <| zE (oFr fo23_1) <| zR (oL1 sh3) <| zE (oFr fo25_1) <| zE (oFr fo23_0) <| zR (oL1 sh3) <| zE (oFr fo25_1) <| zE (oFr fo23_1) <| zR (oL1 sh3) <| zE (oBs el36 ze3 zo3) <| zE (oLn el36 4) <| zM <| zZ) ?_
  refine pwp_block <| pwp_rounds 20 ?_
  refine pwp_round <| pwp_seq <| kx [(46, (vb true))] [] (zE (oBk true oLt) <| zZ) ?_
  refine pwp_seq <| pwp_cond (b := true) (by kernel_rfl) (fun _ => ?_) (fun h => by cases h)
  refine pwp_skip <| pwp_seq <| pwp_block <| pwp_seq <| kx [(9, (vi fx))] [] (zE (oXs el36 0) <| zE (oC1 sh3) <| zM <| zZ) ?_
  refine pwp_seq <| kx [(58, (vb false))] [] (zM <| zE oEq <| zM <| zM <| zE (oBk false oLt (by exact decide_eq_false (by omega))) <| zM <| zM <| zE (oBk false oGt (by exact decide_eq_false (by omega))) <| zE oPf <| zE oPt <| zZ) ?_
  refine pwp_cond (b := false) (by kernel_rfl) (fun h => by cases h) (fun _ => ?_)
  refine pwp_skip <| kx [(45, (vin 1))] [] (zE (oAd 1 (hr := by decide)) <| zM <| zZ) ?_
  refine pwp_again (SimImp.refl _) ?_
  refine pwp_seq <| kx [(46, (vb true))] [] (zE (oBk true oLt) <| zZ) ?_
  refine pwp_seq <| pwp_cond (b := true) (by kernel_rfl) (fun _ => ?_) (fun h => by cases h)
  refine pwp_skip <| pwp_seq <| pwp_block <| pwp_seq <| kx [(9, (vi fy))] [] (zE (oXs el36 1) <| zE (oC1 sh3) <| zM <| zZ) ?_
  refine pwp_seq <| kx [(58, (vb false))] [] (zM <| zE oEq <| zM <| zM <| zE (oBk false oLt (by exact decide_eq_false (by omega))) <| zM <| zM <| zE (oBk false oGt (by exact decide_eq_false (by omega))) <| zE oPf <| zE oPt <| zZ) ?_
  refine pwp_cond (b := false) (by kernel_rfl) (fun h => by cases h) (fun _ => ?_)
  refine pwp_skip <| pwp_sim (wk (l := [(2, (.ref 0 0)), (3, (.ref 1 0)), (5, (.ref 2 0)), (6, (vi 0)), (7, (vin 0)), (43, (vl 3 1 enc_i64 [fx, fy, tx, ty])), (44, (vin 4)), (45, (vin 1)), (58, (vb false))]) (b := [(0, some (bx (encA31 h))), (1, some (bx (encPair (RPair.mk (RPix.mk fx fy) (RPix.mk tx ty))))), (2, some y1)])) ?_
  refine kx [(45, (vin 2))] [] (zE (oAd 2 (hr := by decide)) <| zM <| zZ) ?_
  refine pwp_again (SimImp.refl _) ?_
  refine pwp_seq <| kx [(46, (vb true))] [] (zE (oBk true oLt) <| zZ) ?_
  refine pwp_seq <| pwp_cond (b := true) (by kernel_rfl) (fun _ => ?_) (fun h => by cases h)
  refine pwp_skip <| pwp_seq <| pwp_block <| pwp_seq <| kx [(9, (vi tx))] [] (zE (oXs el36 2) <| zE (oC1 sh3) <| zM <| zZ) ?_
  refine pwp_seq <| kx [(58, (vb false))] [] (zM <| zE oEq <| zM <| zM <| zE (oBk false oLt (by exact decide_eq_false (by omega))) <| zM <| zM <| zE (oBk false oGt (by exact decide_eq_false (by omega))) <| zE oPf <| zE oPt <| zZ) ?_
  refine pwp_cond (b := false) (by kernel_rfl) (fun h => by cases h) (fun _ => ?_)
  refine pwp_skip <| kx [(45, (vin 3))] [] (zE (oAd 3 (hr := by decide)) <| zM <| zZ) ?_
  refine pwp_again (SimImp.refl _) ?_
  refine pwp_seq <| kx [(46, (vb true))] [] (zE (oBk true oLt) <| zZ) ?_
  refine pwp_seq <| pwp_cond (b := true) (by kernel_rfl) (fun _ => ?_) (fun h => by cases h)
  refine pwp_skip <| pwp_seq <| pwp_block <| pwp_seq <| kx [(9, (vi ty))] [] (zE (oXs el36 3) <| zE (oC1 sh3) <| zM <| zZ) ?_
  refine pwp_seq <| kx [(58, (vb false))] [] (zM <| zE oEq <| zM <| zM <| zE (oBk false oLt (by exact decide_eq_false (by omega))) <| zM <| zM <| zE (oBk false oGt (by exact decide_eq_false (by omega))) <| zE oPf <| zE oPt <| zZ) ?_
  refine pwp_cond (b := false) (by kernel_rfl) (fun h => by cases h) (fun _ => ?_)
  refine pwp_skip <| kx [(45, (vin 4))] [] (zE (oAd 4 (hr := by decide)) <| zM <| zZ) ?_
  refine pwp_again (SimImp.refl _) ?_
  refine pwp_seq <| kx [(46, (vb false))] [] (zE (oBk false oLt) <| zZ) ?_
  refine pwp_seq <| pwp_cond (b := false) (by kernel_rfl) (fun h => by cases h) (fun _ => ?_)
  refine pwp_exit <| pwp_seq <| kx [(10, (.ref 3 0))] [(3, some (bx (encPlace (RPlace.mk (RRat.mk (RInt.mk false []) (RInt.mk false [])) (RRat.mk (RInt.mk false []) (RInt.mk false []))))))] (zE (oBd pl91 ze91 zo91) <| zN (oAl 3 ze91 zo91) <| zT (oSt sh91) <| zZ) ?_
  refine pwp_seq <| pwp_seq <| kx [(62, (vb true))] [] (zM <| zE oEq <| zZ) ?_
  refine pwp_cond (b := true) (by kernel_rfl) (fun _ => ?_) (fun h => by cases h)
  refine pwp_seq ?_
  have bn2 : ∀ c ∈ [f0, f1, f2], IOk (ofZ c) c 1 := red_iok (n := 1) (.cons (iok_small (z := fx) (by omega)) (.cons (iok_small (z := fy) (by omega)) (.cons (iok_small (z := 1) (by decide)) .nil))) hf
  have bn3 : ∀ c ∈ [a0, a1, a2], IOk (ofZ c) c 7 := red_iok (n := 7) (.cons (iok_add (k := 7) (iok_add (k := 6) (iok_mul (k := 5) hh0 (bn2 f0 (by simp)) (by decide)) (iok_mul (k := 5) hh1 (bn2 f1 (by simp)) (by decide)) (by decide)) (iok_mul (k := 5) hh2 (bn2 f2 (by simp)) (by decide)) (by decide)) (.cons (iok_add (k := 7) (iok_add (k := 6) (iok_mul (k := 5) hh3 (bn2 f0 (by simp)) (by decide)) (iok_mul (k := 5) hh4 (bn2 f1 (by simp)) (by decide)) (by decide)) (iok_mul (k := 5) hh5 (bn2 f2 (by simp)) (by decide)) (by decide)) (.cons (iok_add (k := 7) (iok_add (k := 6) (iok_mul (k := 5) hh6 (bn2 f0 (by simp)) (by decide)) (iok_mul (k := 5) hh7 (bn2 f1 (by simp)) (by decide)) (by decide)) (iok_mul (k := 5) hh8 (bn2 f2 (by simp)) (by decide)) (by decide)) .nil))) ha
  have bn4 : QL (Rat.divInt a0 a2) 7 := (ql_divInt (n := 7) (Nat.le_trans (IOk.ln (bn3 a0 (by simp))) (by decide)) (Nat.le_trans (IOk.ln (bn3 a2 (by simp))) (by decide)) (by decide))
  have bn5 : QL (Rat.divInt a1 a2) 7 := (ql_divInt (n := 7) (Nat.le_trans (IOk.ln (bn3 a1 (by simp))) (by decide)) (Nat.le_trans (IOk.ln (bn3 a2 (by simp))) (by decide)) (by decide))
  refine kd [(11, (.ref 4 0)), (12, (vb true))] [(4, some (bx (encPlace (RPlace.mk (ofQ (Rat.divInt a0 a2)) (ofQ (Rat.divInt a1 a2))))))] mo (wR (oLa sh32) <| wE (oFr fo25_0) <| wR (oLa sh23) <| wE (oCl (l_pix fx fy hfx hfy f0 f1 f2 hf)) <| wE (oCl (l_apply h h0 h1 h2 h3 h4 h5 h6 h7 h8 (iu hh0) (iu hh1) (iu hh2) (iu hh3) (iu hh4) (iu hh5) (iu hh6) (iu hh7) (iu hh8) (A3.mk (ofZ f0) (ofZ f1) (ofZ f2)) f0 f1 f2 (iok_up (bn2 f0 (by simp)) (by decide)) (iok_up (bn2 f1 (by simp)) (by decide)) (iok_up (bn2 f2 (by simp)) (by decide)) a0 a1 a2 ha hnw)) <| wE (oCl (l_placeO (A3.mk (ofZ a0) (ofZ a1) (ofZ a2)) a0 a1 a2 (iok_up (bn3 a0 (by simp)) (by decide)) (iok_up (bn3 a1 (by simp)) (by decide)) (iok_up (bn3 a2 (by simp)) (by decide)) ha2)) <| wM <| wE oEx <| wE oEx <| wN (oAl 4 ze91 zo91) <| wT (oSt sh91) <| wM <| wZ) ?_
  refine pwp_seq <| kx [] [(3, some (bx (encPlace (RPlace.mk (ofQ (Rat.divInt a0 a2)) (ofQ (Rat.divInt a1 a2))))))] (zR (oLa sh91) <| zT (oSt sh91) <| zZ) ?_
  refine pwp_seq <| pwp_sim (wk (l := [(2, (.ref 0 0)), (3, (.ref 1 0)), (5, (.ref 2 0)), (6, (vi 0)), (7, (vin 0)), (10, (.ref 3 0)), (12, (vb true))]) (b := [(0, some (bx (encA31 h))), (1, some (bx (encPair (RPair.mk (RPix.mk fx fy) (RPix.mk tx ty))))), (2, some y1), (3, some (bx (encPlace (RPlace.mk (ofQ (Rat.divInt a0 a2)) (ofQ (Rat.divInt a1 a2))))))])) ?_
  refine kx [(74, (vb false))] [] (zM <| zE oNt <| zZ) ?_
  refine pwp_cond (b := false) (by kernel_rfl) (fun h => by cases h) (fun _ => ?_)
  refine pwp_skip <| pwp_seq <| pwp_seq <| kx [(76, (vb false))] [] (zM <| zE oNe <| zZ) ?_
  refine pwp_cond (b := false) (by kernel_rfl) (fun h => by cases h) (fun _ => ?_)
  refine pwp_skip <| pwp_seq ?_
  have bn6 : QL ((tx : Int) : Rat) 3 := (ql_int (z := tx) (lenZ_int (by omega) (by omega)) (by decide))
  have bn7 : QL ((ty : Int) : Rat) 3 := (ql_int (z := ty) (lenZ_int (by omega) (by omega)) (by decide))
  refine kd [(13, (.ref 5 0)), (14, (.ref 6 0))] [(5, some (bx (encR (ofQ ((Rat.divInt a0 a2) - ((tx : Int) : Rat)))))), (6, some (bx (encR (ofQ ((Rat.divInt a1 a2) - ((ty : Int) : Rat))))))] mo (wE (oFr fo91_0) <| wR (oLa sh67) <| wE (oFr fo25_1) <| wE (oFr fo23_0) <| wR (oL1 sh3) <| wE (oCl (g_whole tx (by omega) (by omega))) <| wE (oCl (g_sub (ofQ (Rat.divInt a0 a2)) (ofQ ((tx : Int) : Rat)) (Rat.divInt a0 a2) ((tx : Int) : Rat) (qok_up (qok_of bn4) (by decide)) (qok_up (qok_of bn6) (by decide)))) <| wE (oFr fo91_1) <| wR (oLa sh67) <| wE (oFr fo25_1) <| wE (oFr fo23_1) <| wR (oL1 sh3) <| wE (oCl (g_whole ty (by omega) (by omega))) <| wE (oCl (g_sub (ofQ (Rat.divInt a1 a2)) (ofQ ((ty : Int) : Rat)) (Rat.divInt a1 a2) ((ty : Int) : Rat) (qok_up (qok_of bn5) (by decide)) (qok_up (qok_of bn7) (by decide)))) <| wN (oAl 5 ze67 zo67) <| wN (oAl 6 ze67 zo67) <| wT (oSt sh67) <| wT (oSt sh67) <| wZ) ?_
  refine pwp_seq ?_
  have bn8 : QL (((Rat.divInt a0 a2) - ((tx : Int) : Rat)) * ((Rat.divInt a0 a2) - ((tx : Int) : Rat))) 22 := (ql_mul (k := 22) (ql_sub (k := 11) bn4 bn6 (by decide)) (ql_sub (k := 11) bn4 bn6 (by decide)) (by decide))
  have bn9 : QL (((Rat.divInt a1 a2) - ((ty : Int) : Rat)) * ((Rat.divInt a1 a2) - ((ty : Int) : Rat))) 22 := (ql_mul (k := 22) (ql_sub (k := 11) bn5 bn7 (by decide)) (ql_sub (k := 11) bn5 bn7 (by decide)) (by decide))
  refine kd [(15, (.ref 7 0))] [(7, some (bx (encR y3)))] mo (wR (oLa sh67) <| wR (oLa sh67) <| wE (oCl (g_mul (ofQ ((Rat.divInt a0 a2) - ((tx : Int) : Rat))) (ofQ ((Rat.divInt a0 a2) - ((tx : Int) : Rat))) ((Rat.divInt a0 a2) - ((tx : Int) : Rat)) ((Rat.divInt a0 a2) - ((tx : Int) : Rat)) (qok_up (qok_of (ql_sub (k := 11) bn4 bn6 (by decide))) (by decide)) (qok_up (qok_of (ql_sub (k := 11) bn4 bn6 (by decide))) (by decide)))) <| wR (oLa sh67) <| wR (oLa sh67) <| wE (oCl (g_mul (ofQ ((Rat.divInt a1 a2) - ((ty : Int) : Rat))) (ofQ ((Rat.divInt a1 a2) - ((ty : Int) : Rat))) ((Rat.divInt a1 a2) - ((ty : Int) : Rat)) ((Rat.divInt a1 a2) - ((ty : Int) : Rat)) (qok_up (qok_of (ql_sub (k := 11) bn5 bn7 (by decide))) (by decide)) (qok_up (qok_of (ql_sub (k := 11) bn5 bn7 (by decide))) (by decide)))) <| wE (oCl (g_add (ofQ (((Rat.divInt a0 a2) - ((tx : Int) : Rat)) * ((Rat.divInt a0 a2) - ((tx : Int) : Rat)))) (ofQ (((Rat.divInt a1 a2) - ((ty : Int) : Rat)) * ((Rat.divInt a1 a2) - ((ty : Int) : Rat)))) (((Rat.divInt a0 a2) - ((tx : Int) : Rat)) * ((Rat.divInt a0 a2) - ((tx : Int) : Rat))) (((Rat.divInt a1 a2) - ((ty : Int) : Rat)) * ((Rat.divInt a1 a2) - ((ty : Int) : Rat))) (qok_up (qok_of bn8) (by decide)) (qok_up (qok_of bn9) (by decide)))) <| wN (oAl 7 ze67 zo67) <| wT (oSt sh67) <| wZ) ?_
  refine pwp_seq ?_
  have bn10 : ∀ c ∈ [g0, g1, g2], IOk (ofZ c) c 1 := red_iok (n := 1) (.cons (iok_small (z := tx) (by omega)) (.cons (iok_small (z := ty) (by omega)) (.cons (iok_small (z := 1) (by decide)) .nil))) hg
  refine kd [(4, (vb true))] [] mo (wM <| wE oEq <| wM <| wR (oLa sh67) <| wR (oLa sh67) <| wE (oBk true (oCl (by have h := g_same y2 y3 ((((Rat.divInt (((h0 * fx) + (h1 * fy)) + (h2 * 1)) (((h6 * fx) + (h7 * fy)) + (h8 * 1))) - ((tx : Int) : Rat)) * ((Rat.divInt (((h0 * fx) + (h1 * fy)) + (h2 * 1)) (((h6 * fx) + (h7 * fy)) + (h8 * 1))) - ((tx : Int) : Rat))) + (((Rat.divInt (((h3 * fx) + (h4 * fy)) + (h5 * 1)) (((h6 * fx) + (h7 * fy)) + (h8 * 1))) - ((ty : Int) : Rat)) * ((Rat.divInt (((h3 * fx) + (h4 * fy)) + (h5 * 1)) (((h6 * fx) + (h7 * fy)) + (h8 * 1))) - ((ty : Int) : Rat)))) ((((Rat.divInt a0 a2) - ((tx : Int) : Rat)) * ((Rat.divInt a0 a2) - ((tx : Int) : Rat))) + (((Rat.divInt a1 a2) - ((ty : Int) : Rat)) * ((Rat.divInt a1 a2) - ((ty : Int) : Rat)))) (qok_up (qok_of bn1) (by decide)) (qok_up (qok_of (ql_add (k := 45) bn8 bn9 (by decide))) (by decide)); rw [sameR_of] at h; exact h)) (by exact decide_eq_true hab)) <| wE oPt <| wM <| wR (oLa sh67) <| wE (oCl (g_sign y2 ((((Rat.divInt (((h0 * fx) + (h1 * fy)) + (h2 * 1)) (((h6 * fx) + (h7 * fy)) + (h8 * 1))) - ((tx : Int) : Rat)) * ((Rat.divInt (((h0 * fx) + (h1 * fy)) + (h2 * 1)) (((h6 * fx) + (h7 * fy)) + (h8 * 1))) - ((tx : Int) : Rat))) + (((Rat.divInt (((h3 * fx) + (h4 * fy)) + (h5 * 1)) (((h6 * fx) + (h7 * fy)) + (h8 * 1))) - ((ty : Int) : Rat)) * ((Rat.divInt (((h3 * fx) + (h4 * fy)) + (h5 * 1)) (((h6 * fx) + (h7 * fy)) + (h8 * 1))) - ((ty : Int) : Rat)))) (qok_up (qok_of bn1) (by decide)))) <| wE (oBk true oEq (by exact beq_iff_eq.2 hsg)) <| wR (oLa sh32) <| wE (oFr fo25_0) <| wR (oLa sh23) <| wE (oCl (l_pix fx fy hfx hfy f0 f1 f2 hf)) <| wE (oCl (l_apply h h0 h1 h2 h3 h4 h5 h6 h7 h8 (iu hh0) (iu hh1) (iu hh2) (iu hh3) (iu hh4) (iu hh5) (iu hh6) (iu hh7) (iu hh8) (A3.mk (ofZ f0) (ofZ f1) (ofZ f2)) f0 f1 f2 (iok_up (bn2 f0 (by simp)) (by decide)) (iok_up (bn2 f1 (by simp)) (by decide)) (iok_up (bn2 f2 (by simp)) (by decide)) a0 a1 a2 ha hnw)) <| wE (oFr fo25_1) <| wR (oLa sh23) <| wE (oCl (l_pix tx ty htx hty g0 g1 g2 hg)) <| wE (oCl (l_sameT3 (A3.mk (ofZ a0) (ofZ a1) (ofZ a2)) a0 a1 a2 (iok_up (bn3 a0 (by simp)) (by decide)) (iok_up (bn3 a1 (by simp)) (by decide)) (iok_up (bn3 a2 (by simp)) (by decide)) (A3.mk (ofZ g0) (ofZ g1) (ofZ g2)) g0 g1 g2 (iok_up (bn10 g0 (by simp)) (by decide)) (iok_up (bn10 g1 (by simp)) (by decide)) (iok_up (bn10 g2 (by simp)) (by decide)) (validI_ofZ _) (validI_ofZ _) (validI_ofZ _) hs0 hs1 hs2)) <| wE (oBk true (oEb bo4) (by exact beq_self_eq_true _)) <| wE oPt <| wM <| wZ) ?_
  refine pwp_ret ⟨_, (.tmp (d := (.val (.bool (true)))) rfl .nil), ?_⟩
  rfl
theorem w_err_0 (h : A9 RInt) (h0 h1 h2 h3 h4 h5 h6 h7 h8 : Int) (hh0 : IOk h.a0 h0 4) (hh1 : IOk h.a1 h1 4) (hh2 : IOk h.a2 h2 4) (hh3 : IOk h.a3 h3 4) (hh4 : IOk h.a4 h4 4) (hh5 : IOk h.a5 h5 4) (hh6 : IOk h.a6 h6 4) (hh7 : IOk h.a7 h7 4) (hh8 : IOk h.a8 h8 4) (fx fy tx ty : Int) (f0 f1 f2 : Int) (hf : redL [fx, fy, 1] = [f0, f1, f2]) (a0 a1 a2 : Int) (ha : redL [(((h0 * f0) + (h1 * f1)) + (h2 * f2)), (((h3 * f0) + (h4 * f1)) + (h5 * f2)), (((h6 * f0) + (h7 * f1)) + (h8 * f2))] = [a0, a1, a2]) (g0 g1 g2 : Int) (hg : redL [tx, ty, 1] = [g0, g1, g2]) (hb0 : List.all [h.a0, h.a1, h.a2, h.a3, h.a4, h.a5, h.a6, h.a7, h.a8] short4 = true) (hv : valH [h.a0, h.a1, h.a2, h.a3, h.a4, h.a5, h.a6, h.a7, h.a8] (det3 h0 h1 h2 h3 h4 h5 h6 h7 h8) = true) (hfx : -1048576 ≤ fx ∧ fx ≤ 1048576) (hfy : -1048576 ≤ fy ∧ fy ≤ 1048576) (htx : -1048576 ≤ tx ∧ tx ≤ 1048576) (hty : -1048576 ≤ ty ∧ ty ≤ 1048576) (hz : (((h6 * fx) + (h7 * fy)) + (h8 * 1)) ≠ 0) (hnw : sgnL [(((h0 * f0) + (h1 * f1)) + (h2 * f2)), (((h3 * f0) + (h4 * f1)) + (h5 * f2)), (((h6 * f0) + (h7 * f1)) + (h8 * f2))] ≠ 0) (ha2 : a2 ≠ 0) (hab : ((((Rat.divInt (((h0 * fx) + (h1 * fy)) + (h2 * 1)) (((h6 * fx) + (h7 * fy)) + (h8 * 1))) - ((tx : Int) : Rat)) * ((Rat.divInt (((h0 * fx) + (h1 * fy)) + (h2 * 1)) (((h6 * fx) + (h7 * fy)) + (h8 * 1))) - ((tx : Int) : Rat))) + (((Rat.divInt (((h3 * fx) + (h4 * fy)) + (h5 * 1)) (((h6 * fx) + (h7 * fy)) + (h8 * 1))) - ((ty : Int) : Rat)) * ((Rat.divInt (((h3 * fx) + (h4 * fy)) + (h5 * 1)) (((h6 * fx) + (h7 * fy)) + (h8 * 1))) - ((ty : Int) : Rat)))) = ((((Rat.divInt a0 a2) - ((tx : Int) : Rat)) * ((Rat.divInt a0 a2) - ((tx : Int) : Rat))) + (((Rat.divInt a1 a2) - ((ty : Int) : Rat)) * ((Rat.divInt a1 a2) - ((ty : Int) : Rat))))) (hsg : signQ ((((Rat.divInt (((h0 * fx) + (h1 * fy)) + (h2 * 1)) (((h6 * fx) + (h7 * fy)) + (h8 * 1))) - ((tx : Int) : Rat)) * ((Rat.divInt (((h0 * fx) + (h1 * fy)) + (h2 * 1)) (((h6 * fx) + (h7 * fy)) + (h8 * 1))) - ((tx : Int) : Rat))) + (((Rat.divInt (((h3 * fx) + (h4 * fy)) + (h5 * 1)) (((h6 * fx) + (h7 * fy)) + (h8 * 1))) - ((ty : Int) : Rat)) * ((Rat.divInt (((h3 * fx) + (h4 * fy)) + (h5 * 1)) (((h6 * fx) + (h7 * fy)) + (h8 * 1))) - ((ty : Int) : Rat)))) ≠ 0) (hsx : sameI (ofZ a0) (ofZ g0) = false) : Takes Tryz.prog 10 [(encA31 h), (encPair (RPair.mk (RPix.mk fx fy) (RPix.mk tx ty)))] (.val (.bool (true))) := by
  let y3 := (ofQ ((((Rat.divInt a0 a2) - ((tx : Int) : Rat)) * ((Rat.divInt a0 a2) - ((tx : Int) : Rat))) + (((Rat.divInt a1 a2) - ((ty : Int) : Rat)) * ((Rat.divInt a1 a2) - ((ty : Int) : Rat)))))
  let y2 := (ofQ ((((Rat.divInt (((h0 * fx) + (h1 * fy)) + (h2 * 1)) (((h6 * fx) + (h7 * fy)) + (h8 * 1))) - ((tx : Int) : Rat)) * ((Rat.divInt (((h0 * fx) + (h1 * fy)) + (h2 * 1)) (((h6 * fx) + (h7 * fy)) + (h8 * 1))) - ((tx : Int) : Rat))) + (((Rat.divInt (((h3 * fx) + (h4 * fy)) + (h5 * 1)) (((h6 * fx) + (h7 * fy)) + (h8 * 1))) - ((ty : Int) : Rat)) * ((Rat.divInt (((h3 * fx) + (h4 * fy)) + (h5 * 1)) (((h6 * fx) + (h7 * fy)) + (h8 * 1))) - ((ty : Int) : Rat)))))
  let y1 := (bx (encR y2))
  refine fn_intro Tryz.func10 rfl cb10 rfl ?_
  show PWp _ _ _ _ ⟨[(0, (.d (encA31 h))), (1, (.d (encPair (RPair.mk (RPix.mk fx fy) (RPix.mk tx ty)))))], []⟩
  refine pwp_seq <| kx [(2, (.ref 0 0)), (3, (.ref 1 0))] [(0, some (bx (encA31 h))), (1, some (bx (encPair (RPair.mk (RPix.mk fx fy) (RPix.mk tx ty)))))] (zN (oBx 0) <| zN (oBx 1) <| zM <| zZ) ?_
  refine pwp_seq <| pwp_seq <| kx [(17, (vb false))] [] (zE (oCl l_known27) <| zE oNt <| zZ) ?_
  refine pwp_cond (b := false) (by kernel_rfl) (fun h => by cases h) (fun _ => ?_)
  refine pwp_skip <| pwp_seq <| pwp_seq <| kx [(21, (vb false))] [] (zR (oLa sh32) <| zE (oCl (l_map1 h h0 h1 h2 h3 h4 h5 h6 h7 h8 (iu hh0) (iu hh1) (iu hh2) (iu hh3) (iu hh4) (iu hh5) (iu hh6) (iu hh7) (iu hh8))) <| zE (oCl (tk_nil (l_briefT10 h h0 h1 h2 h3 h4 h5 h6 h7 h8 (iu hh0) (iu hh1) (iu hh2) (iu hh3) (iu hh4) (iu hh5) (iu hh6) (iu hh7) (iu hh8) hb0) (.same (.cut 44 6 .nil)))) <| zE oNt <| zZ) ?_
  refine pwp_cond (b := false) (by kernel_rfl) (fun h => by cases h) (fun _ => ?_)
  refine pwp_skip <| pwp_seq ?_
  have bn1 : QL ((((Rat.divInt (((h0 * fx) + (h1 * fy)) + (h2 * 1)) (((h6 * fx) + (h7 * fy)) + (h8 * 1))) - ((tx : Int) : Rat)) * ((Rat.divInt (((h0 * fx) + (h1 * fy)) + (h2 * 1)) (((h6 * fx) + (h7 * fy)) + (h8 * 1))) - ((tx : Int) : Rat))) + (((Rat.divInt (((h3 * fx) + (h4 * fy)) + (h5 * 1)) (((h6 * fx) + (h7 * fy)) + (h8 * 1))) - ((ty : Int) : Rat)) * ((Rat.divInt (((h3 * fx) + (h4 * fy)) + (h5 * 1)) (((h6 * fx) + (h7 * fy)) + (h8 * 1))) - ((ty : Int) : Rat)))) 45 := (ql_add (k := 45) (ql_mul (k := 22) (ql_sub (k := 11) (ql_divInt (n := 7) (Nat.le_trans (IOk.ln (iok_add (k := 7) (iok_add (k := 6) (iok_mul (k := 5) hh0 (iok_small (z := fx) (by omega)) (by decide)) (iok_mul (k := 5) hh1 (iok_small (z := fy) (by omega)) (by decide)) (by decide)) (iok_mul (k := 5) hh2 (iok_small (z := 1) (by decide)) (by decide)) (by decide))) (by decide)) (Nat.le_trans (IOk.ln (iok_add (k := 7) (iok_add (k := 6) (iok_mul (k := 5) hh6 (iok_small (z := fx) (by omega)) (by decide)) (iok_mul (k := 5) hh7 (iok_small (z := fy) (by omega)) (by decide)) (by decide)) (iok_mul (k := 5) hh8 (iok_small (z := 1) (by decide)) (by decide)) (by decide))) (by decide)) (by decide)) (ql_int (z := tx) (lenZ_int (by omega) (by omega)) (by decide)) (by decide)) (ql_sub (k := 11) (ql_divInt (n := 7) (Nat.le_trans (IOk.ln (iok_add (k := 7) (iok_add (k := 6) (iok_mul (k := 5) hh0 (iok_small (z := fx) (by omega)) (by decide)) (iok_mul (k := 5) hh1 (iok_small (z := fy) (by omega)) (by decide)) (by decide)) (iok_mul (k := 5) hh2 (iok_small (z := 1) (by decide)) (by decide)) (by decide))) (by decide)) (Nat.le_trans (IOk.ln (iok_add (k := 7) (iok_add (k := 6) (iok_mul (k := 5) hh6 (iok_small (z := fx) (by omega)) (by decide)) (iok_mul (k := 5) hh7 (iok_small (z := fy) (by omega)) (by decide)) (by decide)) (iok_mul (k := 5) hh8 (iok_small (z := 1) (by decide)) (by decide)) (by decide))) (by decide)) (by decide)) (ql_int (z := tx) (lenZ_int (by omega) (by omega)) (by decide)) (by decide)) (by decide)) (ql_mul (k := 22) (ql_sub (k := 11) (ql_divInt (n := 7) (Nat.le_trans (IOk.ln (iok_add (k := 7) (iok_add (k := 6) (iok_mul (k := 5) hh3 (iok_small (z := fx) (by omega)) (by decide)) (iok_mul (k := 5) hh4 (iok_small (z := fy) (by omega)) (by decide)) (by decide)) (iok_mul (k := 5) hh5 (iok_small (z := 1) (by decide)) (by decide)) (by decide))) (by decide)) (Nat.le_trans (IOk.ln (iok_add (k := 7) (iok_add (k := 6) (iok_mul (k := 5) hh6 (iok_small (z := fx) (by omega)) (by decide)) (iok_mul (k := 5) hh7 (iok_small (z := fy) (by omega)) (by decide)) (by decide)) (iok_mul (k := 5) hh8 (iok_small (z := 1) (by decide)) (by decide)) (by decide))) (by decide)) (by decide)) (ql_int (z := ty) (lenZ_int (by omega) (by omega)) (by decide)) (by decide)) (ql_sub (k := 11) (ql_divInt (n := 7) (Nat.le_trans (IOk.ln (iok_add (k := 7) (iok_add (k := 6) (iok_mul (k := 5) hh3 (iok_small (z := fx) (by omega)) (by decide)) (iok_mul (k := 5) hh4 (iok_small (z := fy) (by omega)) (by decide)) (by decide)) (iok_mul (k := 5) hh5 (iok_small (z := 1) (by decide)) (by decide)) (by decide))) (by decide)) (Nat.le_trans (IOk.ln (iok_add (k := 7) (iok_add (k := 6) (iok_mul (k := 5) hh6 (iok_small (z := fx) (by omega)) (by decide)) (iok_mul (k := 5) hh7 (iok_small (z := fy) (by omega)) (by decide)) (by decide)) (iok_mul (k := 5) hh8 (iok_small (z := 1) (by decide)) (by decide)) (by decide))) (by decide)) (by decide)) (ql_int (z := ty) (lenZ_int (by omega) (by omega)) (by decide)) (by decide)) (by decide)) (by decide))
  refine kx [(5, (.ref 2 0)), (6, (vi 0))] [(2, some y1)] (zR (oLa sh32) <| zR (oLa sh25) <| zE (oCl (d_err h h0 h1 h2 h3 h4 h5 h6 h7 h8 (iu hh0) (iu hh1) (iu hh2) (iu hh3) (iu hh4) (iu hh5) (iu hh6) (iu hh7) (iu hh8) fx fy tx ty hv hfx hfy htx hty hz)) <| zM <| zE oEx <| zE oEx <| zN (oAl 2 ze67 zo67) <| zT (oSt sh67) <| zM <| zZ) ?_
  refine pwp_seq <| kx [(7, (vin 0))] [] (zM <| zZ) ?_
  refine pwp_seq <| pwp_seq <| kx [(30, (vb false))] [] (zR (oLa sh32) <| zE (oBk true (oCl (l_valid h h0 h1 h2 h3 h4 h5 h6 h7 h8 (iu hh0) (iu hh1) (iu hh2) (iu hh3) (iu hh4) (iu hh5) (iu hh6) (iu hh7) (iu hh8))) (by exact hv)) <| zE oNt <| zZ) ?_
  refine pwp_cond (b := false) (by kernel_rfl) (fun h => by cases h) (fun _ => ?_)
  refine pwp_skip <| pwp_seq <| pwp_seq <| kx [(43, (vl 3 1 enc_i64 [fx, fy, tx, ty])), (44, (vin 4)), (45, (vin 0))] [] (zE (oFr fo25_0) <| zE (oFr fo23_0) <| zR (oL1 sh3) <| zE (oFr fo25_0) <| zE (oFr fo23_1) <| zR (oL1 sh3) <| zE (oFr fo25_1) <| zE (oFr fo23_0) <| zR (oL1 sh3) <| zE (oFr fo25_1) <| zE (oFr fo23_1) <| zR (oL1 sh3) <| zE (oBs el36 ze3 zo3) <| zE (oLn el36 4) <| zM <| zZ) ?_
  refine pwp_block <| pwp_rounds 20 ?_
  refine pwp_round <| pwp_seq <| kx [(46, (vb true))] [] (zE (oBk true oLt) <| zZ) ?_
  refine pwp_seq <| pwp_cond (b := true) (by kernel_rfl) (fun _ => ?_) (fun h => by cases h)
  refine pwp_skip <| pwp_seq <| pwp_block <| pwp_seq <| kx [(9, (vi fx))] [] (zE (oXs el36 0) <| zE (oC1 sh3) <| zM <| zZ) ?_
  refine pwp_seq <| kx [(58, (vb false))] [] (zM <| zE oEq <| zM <| zM <| zE (oBk false oLt (by exact decide_eq_false (by omega))) <| zM <| zM <| zE (oBk false oGt (by exact decide_eq_false (by omega))) <| zE oPf <| zE oPt <| zZ) ?_
  refine pwp_cond (b := false) (by kernel_rfl) (fun h => by cases h) (fun _ => ?_)
  refine pwp_skip <| kx [(45, (vin 1))] [] (zE (oAd 1 (hr := by decide)) <| zM <| zZ) ?_
  refine pwp_again (SimImp.refl _) ?_
  refine pwp_seq <| kx [(46, (vb true))] [] (zE (oBk true oLt) <| zZ) ?_
  refine pwp_seq <| pwp_cond (b := true) (by kernel_rfl) (fun _ => ?_) (fun h => by cases h)
  refine pwp_skip <| pwp_seq <| pwp_block <| pwp_seq <| kx [(9, (vi fy))] [] (zE (oXs el36 1) <| zE (oC1 sh3) <| zM <| zZ) ?_
  refine pwp_seq <| kx [(58, (vb false))] [] (zM <| zE oEq <| zM <| zM <| zE (oBk false oLt (by exact decide_eq_false (by omega))) <| zM <| zM <| zE (oBk false oGt (by exact decide_eq_false (by omega))) <| zE oPf <| zE oPt <| zZ) ?_
  refine pwp_cond (b := false) (by kernel_rfl) (fun h => by cases h) (fun _ => ?_)
  refine pwp_skip <| pwp_sim (wk (l := [(2, (.ref 0 0)), (3, (.ref 1 0)), (5, (.ref 2 0)), (6, (vi 0)), (7, (vin 0)), (43, (vl 3 1 enc_i64 [fx, fy, tx, ty])), (44, (vin 4)), (45, (vin 1)), (58, (vb false))]) (b := [(0, some (bx (encA31 h))), (1, some (bx (encPair (RPair.mk (RPix.mk fx fy) (RPix.mk tx ty))))), (2, some y1)])) ?_
  refine kx [(45, (vin 2))] [] (zE (oAd 2 (hr := by decide)) <| zM <| zZ) ?_
  refine pwp_again (SimImp.refl _) ?_
  refine pwp_seq <| kx [(46, (vb true))] [] (zE (oBk true oLt) <| zZ) ?_
  refine pwp_seq <| pwp_cond (b := true) (by kernel_rfl) (fun _ => ?_) (fun h => by cases h)
  refine pwp_skip <| pwp_seq <| pwp_block <| pwp_seq <| kx [(9, (vi tx))] [] (zE (oXs el36 2) <| zE (oC1 sh3) <| zM <| zZ) ?_
  refine pwp_seq <| kx [(58, (vb false))] [] (zM <| zE oEq <| zM <| zM <| zE (oBk false oLt (by exact decide_eq_false (by omega))) <| zM <| zM <| zE (oBk false oGt (by exact decide_eq_false (by omega))) <| zE oPf <| zE oPt <| zZ) ?_
  refine pwp_cond (b := false) (by kernel_rfl) (fun h => by cases h) (fun _ => ?_)
  refine pwp_skip <| kx [(45, (vin 3))] [] (zE (oAd 3 (hr := by decide)) <| zM <| zZ) ?_
  refine pwp_again (SimImp.refl _) ?_
  refine pwp_seq <| kx [(46, (vb true))] [] (zE (oBk true oLt) <| zZ) ?_
  refine pwp_seq <| pwp_cond (b := true) (by kernel_rfl) (fun _ => ?_) (fun h => by cases h)
  refine pwp_skip <| pwp_seq <| pwp_block <| pwp_seq <| kx [(9, (vi ty))] [] (zE (oXs el36 3) <| zE (oC1 sh3) <| zM <| zZ) ?_
  refine pwp_seq <| kx [(58, (vb false))] [] (zM <| zE oEq <| zM <| zM <| zE (oBk false oLt (by exact decide_eq_false (by omega))) <| zM <| zM <| zE (oBk false oGt (by exact decide_eq_false (by omega))) <| zE oPf <| zE oPt <| zZ) ?_
  refine pwp_cond (b := false) (by kernel_rfl) (fun h => by cases h) (fun _ => ?_)
  refine pwp_skip <| kx [(45, (vin 4))] [] (zE (oAd 4 (hr := by decide)) <| zM <| zZ) ?_
  refine pwp_again (SimImp.refl _) ?_
  refine pwp_seq <| kx [(46, (vb false))] [] (zE (oBk false oLt) <| zZ) ?_
  refine pwp_seq <| pwp_cond (b := false) (by kernel_rfl) (fun h => by cases h) (fun _ => ?_)
  refine pwp_exit <| pwp_seq <| kx [(10, (.ref 3 0))] [(3, some (bx (encPlace (RPlace.mk (RRat.mk (RInt.mk false []) (RInt.mk false [])) (RRat.mk (RInt.mk false []) (RInt.mk false []))))))] (zE (oBd pl91 ze91 zo91) <| zN (oAl 3 ze91 zo91) <| zT (oSt sh91) <| zZ) ?_
  refine pwp_seq <| pwp_seq <| kx [(62, (vb true))] [] (zM <| zE oEq <| zZ) ?_
  refine pwp_cond (b := true) (by kernel_rfl) (fun _ => ?_) (fun h => by cases h)
  refine pwp_seq ?_
  have bn2 : ∀ c ∈ [f0, f1, f2], IOk (ofZ c) c 1 := red_iok (n := 1) (.cons (iok_small (z := fx) (by omega)) (.cons (iok_small (z := fy) (by omega)) (.cons (iok_small (z := 1) (by decide)) .nil))) hf
  have bn3 : ∀ c ∈ [a0, a1, a2], IOk (ofZ c) c 7 := red_iok (n := 7) (.cons (iok_add (k := 7) (iok_add (k := 6) (iok_mul (k := 5) hh0 (bn2 f0 (by simp)) (by decide)) (iok_mul (k := 5) hh1 (bn2 f1 (by simp)) (by decide)) (by decide)) (iok_mul (k := 5) hh2 (bn2 f2 (by simp)) (by decide)) (by decide)) (.cons (iok_add (k := 7) (iok_add (k := 6) (iok_mul (k := 5) hh3 (bn2 f0 (by simp)) (by decide)) (iok_mul (k := 5) hh4 (bn2 f1 (by simp)) (by decide)) (by decide)) (iok_mul (k := 5) hh5 (bn2 f2 (by simp)) (by decide)) (by decide)) (.cons (iok_add (k := 7) (iok_add (k := 6) (iok_mul (k := 5) hh6 (bn2 f0 (by simp)) (by decide)) (iok_mul (k := 5) hh7 (bn2 f1 (by simp)) (by decide)) (by decide)) (iok_mul (k := 5) hh8 (bn2 f2 (by simp)) (by decide)) (by decide)) .nil))) ha
  have bn4 : QL (Rat.divInt a0 a2) 7 := (ql_divInt (n := 7) (Nat.le_trans (IOk.ln (bn3 a0 (by simp))) (by decide)) (Nat.le_trans (IOk.ln (bn3 a2 (by simp))) (by decide)) (by decide))
  have bn5 : QL (Rat.divInt a1 a2) 7 := (ql_divInt (n := 7) (Nat.le_trans (IOk.ln (bn3 a1 (by simp))) (by decide)) (Nat.le_trans (IOk.ln (bn3 a2 (by simp))) (by decide)) (by decide))
  refine kd [(11, (.ref 4 0)), (12, (vb true))] [(4, some (bx (encPlace (RPlace.mk (ofQ (Rat.divInt a0 a2)) (ofQ (Rat.divInt a1 a2))))))] mo (wR (oLa sh32) <| wE (oFr fo25_0) <| wR (oLa sh23) <| wE (oCl (l_pix fx fy hfx hfy f0 f1 f2 hf)) <| wE (oCl (l_apply h h0 h1 h2 h3 h4 h5 h6 h7 h8 (iu hh0) (iu hh1) (iu hh2) (iu hh3) (iu hh4) (iu hh5) (iu hh6) (iu hh7) (iu hh8) (A3.mk (ofZ f0) (ofZ f1) (ofZ f2)) f0 f1 f2 (iok_up (bn2 f0 (by simp)) (by decide)) (iok_up (bn2 f1 (by simp)) (by decide)) (iok_up (bn2 f2 (by simp)) (by decide)) a0 a1 a2 ha hnw)) <| wE (oCl (l_placeO (A3.mk (ofZ a0) (ofZ a1) (ofZ a2)) a0 a1 a2 (iok_up (bn3 a0 (by simp)) (by decide)) (iok_up (bn3 a1 (by simp)) (by decide)) (iok_up (bn3 a2 (by simp)) (by decide)) ha2)) <| wM <| wE oEx <| wE oEx <| wN (oAl 4 ze91 zo91) <| wT (oSt sh91) <| wM <| wZ) ?_
  refine pwp_seq <| kx [] [(3, some (bx (encPlace (RPlace.mk (ofQ (Rat.divInt a0 a2)) (ofQ (Rat.divInt a1 a2))))))] (zR (oLa sh91) <| zT (oSt sh91) <| zZ) ?_
  refine pwp_seq <| pwp_sim (wk (l := [(2, (.ref 0 0)), (3, (.ref 1 0)), (5, (.ref 2 0)), (6, (vi 0)), (7, (vin 0)), (10, (.ref 3 0)), (12, (vb true))]) (b := [(0, some (bx (encA31 h))), (1, some (bx (encPair (RPair.mk (RPix.mk fx fy) (RPix.mk tx ty))))), (2, some y1), (3, some (bx (encPlace (RPlace.mk (ofQ (Rat.divInt a0 a2)) (ofQ (Rat.divInt a1 a2))))))])) ?_
  refine kx [(74, (vb false))] [] (zM <| zE oNt <| zZ) ?_
  refine pwp_cond (b := false) (by kernel_rfl) (fun h => by cases h) (fun _ => ?_)
  refine pwp_skip <| pwp_seq <| pwp_seq <| kx [(76, (vb false))] [] (zM <| zE oNe <| zZ) ?_
  refine pwp_cond (b := false) (by kernel_rfl) (fun h => by cases h) (fun _ => ?_)
  refine pwp_skip <| pwp_seq ?_
  have bn6 : QL ((tx : Int) : Rat) 3 := (ql_int (z := tx) (lenZ_int (by omega) (by omega)) (by decide))
  have bn7 : QL ((ty : Int) : Rat) 3 := (ql_int (z := ty) (lenZ_int (by omega) (by omega)) (by decide))
  refine kd [(13, (.ref 5 0)), (14, (.ref 6 0))] [(5, some (bx (encR (ofQ ((Rat.divInt a0 a2) - ((tx : Int) : Rat)))))), (6, some (bx (encR (ofQ ((Rat.divInt a1 a2) - ((ty : Int) : Rat))))))] mo (wE (oFr fo91_0) <| wR (oLa sh67) <| wE (oFr fo25_1) <| wE (oFr fo23_0) <| wR (oL1 sh3) <| wE (oCl (g_whole tx (by omega) (by omega))) <| wE (oCl (g_sub (ofQ (Rat.divInt a0 a2)) (ofQ ((tx : Int) : Rat)) (Rat.divInt a0 a2) ((tx : Int) : Rat) (qok_up (qok_of bn4) (by decide)) (qok_up (qok_of bn6) (by decide)))) <| wE (oFr fo91_1) <| wR (oLa sh67) <| wE (oFr fo25_1) <| wE (oFr fo23_1) <| wR (oL1 sh3) <| wE (oCl (g_whole ty (by omega) (by omega))) <| wE (oCl (g_sub (ofQ (Rat.divInt a1 a2)) (ofQ ((ty : Int) : Rat)) (Rat.divInt a1 a2) ((ty : Int) : Rat) (qok_up (qok_of bn5) (by decide)) (qok_up (qok_of bn7) (by decide)))) <| wN (oAl 5 ze67 zo67) <| wN (oAl 6 ze67 zo67) <| wT (oSt sh67) <| wT (oSt sh67) <| wZ) ?_
  refine pwp_seq ?_
  have bn8 : QL (((Rat.divInt a0 a2) - ((tx : Int) : Rat)) * ((Rat.divInt a0 a2) - ((tx : Int) : Rat))) 22 := (ql_mul (k := 22) (ql_sub (k := 11) bn4 bn6 (by decide)) (ql_sub (k := 11) bn4 bn6 (by decide)) (by decide))
  have bn9 : QL (((Rat.divInt a1 a2) - ((ty : Int) : Rat)) * ((Rat.divInt a1 a2) - ((ty : Int) : Rat))) 22 := (ql_mul (k := 22) (ql_sub (k := 11) bn5 bn7 (by decide)) (ql_sub (k := 11) bn5 bn7 (by decide)) (by decide))
  refine kd [(15, (.ref 7 0))] [(7, some (bx (encR y3)))] mo (wR (oLa sh67) <| wR (oLa sh67) <| wE (oCl (g_mul (ofQ ((Rat.divInt a0 a2) - ((tx : Int) : Rat))) (ofQ ((Rat.divInt a0 a2) - ((tx : Int) : Rat))) ((Rat.divInt a0 a2) - ((tx : Int) : Rat)) ((Rat.divInt a0 a2) - ((tx : Int) : Rat)) (qok_up (qok_of (ql_sub (k := 11) bn4 bn6 (by decide))) (by decide)) (qok_up (qok_of (ql_sub (k := 11) bn4 bn6 (by decide))) (by decide)))) <| wR (oLa sh67) <| wR (oLa sh67) <| wE (oCl (g_mul (ofQ ((Rat.divInt a1 a2) - ((ty : Int) : Rat))) (ofQ ((Rat.divInt a1 a2) - ((ty : Int) : Rat))) ((Rat.divInt a1 a2) - ((ty : Int) : Rat)) ((Rat.divInt a1 a2) - ((ty : Int) : Rat)) (qok_up (qok_of (ql_sub (k := 11) bn5 bn7 (by decide))) (by decide)) (qok_up (qok_of (ql_sub (k := 11) bn5 bn7 (by decide))) (by decide)))) <| wE (oCl (g_add (ofQ (((Rat.divInt a0 a2) - ((tx : Int) : Rat)) * ((Rat.divInt a0 a2) - ((tx : Int) : Rat)))) (ofQ (((Rat.divInt a1 a2) - ((ty : Int) : Rat)) * ((Rat.divInt a1 a2) - ((ty : Int) : Rat)))) (((Rat.divInt a0 a2) - ((tx : Int) : Rat)) * ((Rat.divInt a0 a2) - ((tx : Int) : Rat))) (((Rat.divInt a1 a2) - ((ty : Int) : Rat)) * ((Rat.divInt a1 a2) - ((ty : Int) : Rat))) (qok_up (qok_of bn8) (by decide)) (qok_up (qok_of bn9) (by decide)))) <| wN (oAl 7 ze67 zo67) <| wT (oSt sh67) <| wZ) ?_
  refine pwp_seq ?_
  have bn10 : ∀ c ∈ [g0, g1, g2], IOk (ofZ c) c 1 := red_iok (n := 1) (.cons (iok_small (z := tx) (by omega)) (.cons (iok_small (z := ty) (by omega)) (.cons (iok_small (z := 1) (by decide)) .nil))) hg
  refine kd [(4, (vb true))] [] mo (wM <| wE oEq <| wM <| wR (oLa sh67) <| wR (oLa sh67) <| wE (oBk true (oCl (by have h := g_same y2 y3 ((((Rat.divInt (((h0 * fx) + (h1 * fy)) + (h2 * 1)) (((h6 * fx) + (h7 * fy)) + (h8 * 1))) - ((tx : Int) : Rat)) * ((Rat.divInt (((h0 * fx) + (h1 * fy)) + (h2 * 1)) (((h6 * fx) + (h7 * fy)) + (h8 * 1))) - ((tx : Int) : Rat))) + (((Rat.divInt (((h3 * fx) + (h4 * fy)) + (h5 * 1)) (((h6 * fx) + (h7 * fy)) + (h8 * 1))) - ((ty : Int) : Rat)) * ((Rat.divInt (((h3 * fx) + (h4 * fy)) + (h5 * 1)) (((h6 * fx) + (h7 * fy)) + (h8 * 1))) - ((ty : Int) : Rat)))) ((((Rat.divInt a0 a2) - ((tx : Int) : Rat)) * ((Rat.divInt a0 a2) - ((tx : Int) : Rat))) + (((Rat.divInt a1 a2) - ((ty : Int) : Rat)) * ((Rat.divInt a1 a2) - ((ty : Int) : Rat)))) (qok_up (qok_of bn1) (by decide)) (qok_up (qok_of (ql_add (k := 45) bn8 bn9 (by decide))) (by decide)); rw [sameR_of] at h; exact h)) (by exact decide_eq_true hab)) <| wE oPt <| wM <| wR (oLa sh67) <| wE (oCl (g_sign y2 ((((Rat.divInt (((h0 * fx) + (h1 * fy)) + (h2 * 1)) (((h6 * fx) + (h7 * fy)) + (h8 * 1))) - ((tx : Int) : Rat)) * ((Rat.divInt (((h0 * fx) + (h1 * fy)) + (h2 * 1)) (((h6 * fx) + (h7 * fy)) + (h8 * 1))) - ((tx : Int) : Rat))) + (((Rat.divInt (((h3 * fx) + (h4 * fy)) + (h5 * 1)) (((h6 * fx) + (h7 * fy)) + (h8 * 1))) - ((ty : Int) : Rat)) * ((Rat.divInt (((h3 * fx) + (h4 * fy)) + (h5 * 1)) (((h6 * fx) + (h7 * fy)) + (h8 * 1))) - ((ty : Int) : Rat)))) (qok_up (qok_of bn1) (by decide)))) <| wE (oBk false oEq (by exact beq_eq_false_iff_ne.2 hsg)) <| wR (oLa sh32) <| wE (oFr fo25_0) <| wR (oLa sh23) <| wE (oCl (l_pix fx fy hfx hfy f0 f1 f2 hf)) <| wE (oCl (l_apply h h0 h1 h2 h3 h4 h5 h6 h7 h8 (iu hh0) (iu hh1) (iu hh2) (iu hh3) (iu hh4) (iu hh5) (iu hh6) (iu hh7) (iu hh8) (A3.mk (ofZ f0) (ofZ f1) (ofZ f2)) f0 f1 f2 (iok_up (bn2 f0 (by simp)) (by decide)) (iok_up (bn2 f1 (by simp)) (by decide)) (iok_up (bn2 f2 (by simp)) (by decide)) a0 a1 a2 ha hnw)) <| wE (oFr fo25_1) <| wR (oLa sh23) <| wE (oCl (l_pix tx ty htx hty g0 g1 g2 hg)) <| wE (oCl (l_sameF3_0 (A3.mk (ofZ a0) (ofZ a1) (ofZ a2)) a0 a1 a2 (iok_up (bn3 a0 (by simp)) (by decide)) (iok_up (bn3 a1 (by simp)) (by decide)) (iok_up (bn3 a2 (by simp)) (by decide)) (A3.mk (ofZ g0) (ofZ g1) (ofZ g2)) g0 g1 g2 (iok_up (bn10 g0 (by simp)) (by decide)) (iok_up (bn10 g1 (by simp)) (by decide)) (iok_up (bn10 g2 (by simp)) (by decide)) (validI_ofZ _) hsx)) <| wE (oBk true (oEb bo4) (by exact beq_self_eq_true _)) <| wE oPt <| wM <| wZ) ?_
  refine pwp_ret ⟨_, (.tmp (d := (.val (.bool (true)))) rfl .nil), ?_⟩
  rfl
theorem w_err_1 (h : A9 RInt) (h0 h1 h2 h3 h4 h5 h6 h7 h8 : Int) (hh0 : IOk h.a0 h0 4) (hh1 : IOk h.a1 h1 4) (hh2 : IOk h.a2 h2 4) (hh3 : IOk h.a3 h3 4) (hh4 : IOk h.a4 h4 4) (hh5 : IOk h.a5 h5 4) (hh6 : IOk h.a6 h6 4) (hh7 : IOk h.a7 h7 4) (hh8 : IOk h.a8 h8 4) (fx fy tx ty : Int) (f0 f1 f2 : Int) (hf : redL [fx, fy, 1] = [f0, f1, f2]) (a0 a1 a2 : Int) (ha : redL [(((h0 * f0) + (h1 * f1)) + (h2 * f2)), (((h3 * f0) + (h4 * f1)) + (h5 * f2)), (((h6 * f0) + (h7 * f1)) + (h8 * f2))] = [a0, a1, a2]) (g0 g1 g2 : Int) (hg : redL [tx, ty, 1] = [g0, g1, g2]) (hb0 : List.all [h.a0, h.a1, h.a2, h.a3, h.a4, h.a5, h.a6, h.a7, h.a8] short4 = true) (hv : valH [h.a0, h.a1, h.a2, h.a3, h.a4, h.a5, h.a6, h.a7, h.a8] (det3 h0 h1 h2 h3 h4 h5 h6 h7 h8) = true) (hfx : -1048576 ≤ fx ∧ fx ≤ 1048576) (hfy : -1048576 ≤ fy ∧ fy ≤ 1048576) (htx : -1048576 ≤ tx ∧ tx ≤ 1048576) (hty : -1048576 ≤ ty ∧ ty ≤ 1048576) (hz : (((h6 * fx) + (h7 * fy)) + (h8 * 1)) ≠ 0) (hnw : sgnL [(((h0 * f0) + (h1 * f1)) + (h2 * f2)), (((h3 * f0) + (h4 * f1)) + (h5 * f2)), (((h6 * f0) + (h7 * f1)) + (h8 * f2))] ≠ 0) (ha2 : a2 ≠ 0) (hab : ((((Rat.divInt (((h0 * fx) + (h1 * fy)) + (h2 * 1)) (((h6 * fx) + (h7 * fy)) + (h8 * 1))) - ((tx : Int) : Rat)) * ((Rat.divInt (((h0 * fx) + (h1 * fy)) + (h2 * 1)) (((h6 * fx) + (h7 * fy)) + (h8 * 1))) - ((tx : Int) : Rat))) + (((Rat.divInt (((h3 * fx) + (h4 * fy)) + (h5 * 1)) (((h6 * fx) + (h7 * fy)) + (h8 * 1))) - ((ty : Int) : Rat)) * ((Rat.divInt (((h3 * fx) + (h4 * fy)) + (h5 * 1)) (((h6 * fx) + (h7 * fy)) + (h8 * 1))) - ((ty : Int) : Rat)))) = ((((Rat.divInt a0 a2) - ((tx : Int) : Rat)) * ((Rat.divInt a0 a2) - ((tx : Int) : Rat))) + (((Rat.divInt a1 a2) - ((ty : Int) : Rat)) * ((Rat.divInt a1 a2) - ((ty : Int) : Rat))))) (hsg : signQ ((((Rat.divInt (((h0 * fx) + (h1 * fy)) + (h2 * 1)) (((h6 * fx) + (h7 * fy)) + (h8 * 1))) - ((tx : Int) : Rat)) * ((Rat.divInt (((h0 * fx) + (h1 * fy)) + (h2 * 1)) (((h6 * fx) + (h7 * fy)) + (h8 * 1))) - ((tx : Int) : Rat))) + (((Rat.divInt (((h3 * fx) + (h4 * fy)) + (h5 * 1)) (((h6 * fx) + (h7 * fy)) + (h8 * 1))) - ((ty : Int) : Rat)) * ((Rat.divInt (((h3 * fx) + (h4 * fy)) + (h5 * 1)) (((h6 * fx) + (h7 * fy)) + (h8 * 1))) - ((ty : Int) : Rat)))) ≠ 0) (hs0 : sameI (ofZ a0) (ofZ g0) = true) (hsx : sameI (ofZ a1) (ofZ g1) = false) : Takes Tryz.prog 10 [(encA31 h), (encPair (RPair.mk (RPix.mk fx fy) (RPix.mk tx ty)))] (.val (.bool (true))) := by
  let y3 := (ofQ ((((Rat.divInt a0 a2) - ((tx : Int) : Rat)) * ((Rat.divInt a0 a2) - ((tx : Int) : Rat))) + (((Rat.divInt a1 a2) - ((ty : Int) : Rat)) * ((Rat.divInt a1 a2) - ((ty : Int) : Rat)))))
  let y2 := (ofQ ((((Rat.divInt (((h0 * fx) + (h1 * fy)) + (h2 * 1)) (((h6 * fx) + (h7 * fy)) + (h8 * 1))) - ((tx : Int) : Rat)) * ((Rat.divInt (((h0 * fx) + (h1 * fy)) + (h2 * 1)) (((h6 * fx) + (h7 * fy)) + (h8 * 1))) - ((tx : Int) : Rat))) + (((Rat.divInt (((h3 * fx) + (h4 * fy)) + (h5 * 1)) (((h6 * fx) + (h7 * fy)) + (h8 * 1))) - ((ty : Int) : Rat)) * ((Rat.divInt (((h3 * fx) + (h4 * fy)) + (h5 * 1)) (((h6 * fx) + (h7 * fy)) + (h8 * 1))) - ((ty : Int) : Rat)))))
  let y1 := (bx (encR y2))
  refine fn_intro Tryz.func10 rfl cb10 rfl ?_
  show PWp _ _ _ _ ⟨[(0, (.d (encA31 h))), (1, (.d (encPair (RPair.mk (RPix.mk fx fy) (RPix.mk tx ty)))))], []⟩
  refine pwp_seq <| kx [(2, (.ref 0 0)), (3, (.ref 1 0))] [(0, some (bx (encA31 h))), (1, some (bx (encPair (RPair.mk (RPix.mk fx fy) (RPix.mk tx ty)))))] (zN (oBx 0) <| zN (oBx 1) <| zM <| zZ) ?_
  refine pwp_seq <| pwp_seq <| kx [(17, (vb false))] [] (zE (oCl l_known27) <| zE oNt <| zZ) ?_
  refine pwp_cond (b := false) (by kernel_rfl) (fun h => by cases h) (fun _ => ?_)
  refine pwp_skip <| pwp_seq <| pwp_seq <| kx [(21, (vb false))] [] (zR (oLa sh32) <| zE (oCl (l_map1 h h0 h1 h2 h3 h4 h5 h6 h7 h8 (iu hh0) (iu hh1) (iu hh2) (iu hh3) (iu hh4) (iu hh5) (iu hh6) (iu hh7) (iu hh8))) <| zE (oCl (tk_nil (l_briefT10 h h0 h1 h2 h3 h4 h5 h6 h7 h8 (iu hh0) (iu hh1) (iu hh2) (iu hh3) (iu hh4) (iu hh5) (iu hh6) (iu hh7) (iu hh8) hb0) (.same (.cut 44 6 .nil)))) <| zE oNt <| zZ) ?_
  refine pwp_cond (b := false) (by kernel_rfl) (fun h => by cases h) (fun _ => ?_)
  refine pwp_skip <| pwp_seq ?_
  have bn1 : QL ((((Rat.divInt (((h0 * fx) + (h1 * fy)) + (h2 * 1)) (((h6 * fx) + (h7 * fy)) + (h8 * 1))) - ((tx : Int) : Rat)) * ((Rat.divInt (((h0 * fx) + (h1 * fy)) + (h2 * 1)) (((h6 * fx) + (h7 * fy)) + (h8 * 1))) - ((tx : Int) : Rat))) + (((Rat.divInt (((h3 * fx) + (h4 * fy)) + (h5 * 1)) (((h6 * fx) + (h7 * fy)) + (h8 * 1))) - ((ty : Int) : Rat)) * ((Rat.divInt (((h3 * fx) + (h4 * fy)) + (h5 * 1)) (((h6 * fx) + (h7 * fy)) + (h8 * 1))) - ((ty : Int) : Rat)))) 45 := (ql_add (k := 45) (ql_mul (k := 22) (ql_sub (k := 11) (ql_divInt (n := 7) (Nat.le_trans (IOk.ln (iok_add (k := 7) (iok_add (k := 6) (iok_mul (k := 5) hh0 (iok_small (z := fx) (by omega)) (by decide)) (iok_mul (k := 5) hh1 (iok_small (z := fy) (by omega)) (by decide)) (by decide)) (iok_mul (k := 5) hh2 (iok_small (z := 1) (by decide)) (by decide)) (by decide))) (by decide)) (Nat.le_trans (IOk.ln (iok_add (k := 7) (iok_add (k := 6) (iok_mul (k := 5) hh6 (iok_small (z := fx) (by omega)) (by decide)) (iok_mul (k := 5) hh7 (iok_small (z := fy) (by omega)) (by decide)) (by decide)) (iok_mul (k := 5) hh8 (iok_small (z := 1) (by decide)) (by decide)) (by decide))) (by decide)) (by decide)) (ql_int (z := tx) (lenZ_int (by omega) (by omega)) (by decide)) (by decide)) (ql_sub (k := 11) (ql_divInt (n := 7) (Nat.le_trans (IOk.ln (iok_add (k := 7) (iok_add (k := 6) (iok_mul (k := 5) hh0 (iok_small (z := fx) (by omega)) (by decide)) (iok_mul (k := 5) hh1 (iok_small (z := fy) (by omega)) (by decide)) (by decide)) (iok_mul (k := 5) hh2 (iok_small (z := 1) (by decide)) (by decide)) (by decide))) (by decide)) (Nat.le_trans (IOk.ln (iok_add (k := 7) (iok_add (k := 6) (iok_mul (k := 5) hh6 (iok_small (z := fx) (by omega)) (by decide)) (iok_mul (k := 5) hh7 (iok_small (z := fy) (by omega)) (by decide)) (by decide)) (iok_mul (k := 5) hh8 (iok_small (z := 1) (by decide)) (by decide)) (by decide))) (by decide)) (by decide)) (ql_int (z := tx) (lenZ_int (by omega) (by omega)) (by decide)) (by decide)) (by decide)) (ql_mul (k := 22) (ql_sub (k := 11) (ql_divInt (n := 7) (Nat.le_trans (IOk.ln (iok_add (k := 7) (iok_add (k := 6) (iok_mul (k := 5) hh3 (iok_small (z := fx) (by omega)) (by decide)) (iok_mul (k := 5) hh4 (iok_small (z := fy) (by omega)) (by decide)) (by decide)) (iok_mul (k := 5) hh5 (iok_small (z := 1) (by decide)) (by decide)) (by decide))) (by decide)) (Nat.le_trans (IOk.ln (iok_add (k := 7) (iok_add (k := 6) (iok_mul (k := 5) hh6 (iok_small (z := fx) (by omega)) (by decide)) (iok_mul (k := 5) hh7 (iok_small (z := fy) (by omega)) (by decide)) (by decide)) (iok_mul (k := 5) hh8 (iok_small (z := 1) (by decide)) (by decide)) (by decide))) (by decide)) (by decide)) (ql_int (z := ty) (lenZ_int (by omega) (by omega)) (by decide)) (by decide)) (ql_sub (k := 11) (ql_divInt (n := 7) (Nat.le_trans (IOk.ln (iok_add (k := 7) (iok_add (k := 6) (iok_mul (k := 5) hh3 (iok_small (z := fx) (by omega)) (by decide)) (iok_mul (k := 5) hh4 (iok_small (z := fy) (by omega)) (by decide)) (by decide)) (iok_mul (k := 5) hh5 (iok_small (z := 1) (by decide)) (by decide)) (by decide))) (by decide)) (Nat.le_trans (IOk.ln (iok_add (k := 7) (iok_add (k := 6) (iok_mul (k := 5) hh6 (iok_small (z := fx) (by omega)) (by decide)) (iok_mul (k := 5) hh7 (iok_small (z := fy) (by omega)) (by decide)) (by decide)) (iok_mul (k := 5) hh8 (iok_small (z := 1) (by decide)) (by decide)) (by decide))) (by decide)) (by decide)) (ql_int (z := ty) (lenZ_int (by omega) (by omega)) (by decide)) (by decide)) (by decide)) (by decide))
  refine kx [(5, (.ref 2 0)), (6, (vi 0))] [(2, some y1)] (zR (oLa sh32) <| zR (oLa sh25) <| zE (oCl (d_err h h0 h1 h2 h3 h4 h5 h6 h7 h8 (iu hh0) (iu hh1) (iu hh2) (iu hh3) (iu hh4) (iu hh5) (iu hh6) (iu hh7) (iu hh8) fx fy tx ty hv hfx hfy htx hty hz)) <| zM <| zE oEx <| zE oEx <| zN (oAl 2 ze67 zo67) <| zT (oSt sh67) <| zM <| zZ) ?_
  refine pwp_seq <| kx [(7, (vin 0))] [] (zM <| zZ) ?_
  refine pwp_seq <| pwp_seq <| kx [(30, (vb false))] [] (zR (oLa sh32) <| zE (oBk true (oCl (l_valid h h0 h1 h2 h3 h4 h5 h6 h7 h8 (iu hh0) (iu hh1) (iu hh2) (iu hh3) (iu hh4) (iu hh5) (iu hh6) (iu hh7) (iu hh8))) (by exact hv)) <| zE oNt <| zZ) ?_
  refine pwp_cond (b := false) (by kernel_rfl) (fun h => by cases h) (fun _ => ?_)
  refine pwp_skip <| pwp_seq <| pwp_seq <| kx [(43, (vl 3 1 enc_i64 [fx, fy, tx, ty])), (44, (vin 4)), (45, (vin 0))] [] (zE (oFr fo25_0) <| zE (oFr fo23_0) <| zR (oL1 sh3) <| zE (oFr fo25_0) <| zE (oFr fo23_1) <| zR (oL1 sh3) <| zE (oFr fo25_1) <| zE (oFr fo23_0) <| zR (oL1 sh3) <| zE (oFr fo25_1) <| zE (oFr fo23_1) <| zR (oL1 sh3) <| zE (oBs el36 ze3 zo3) <| zE (oLn el36 4) <| zM <| zZ) ?_
  refine pwp_block <| pwp_rounds 20 ?_
  refine pwp_round <| pwp_seq <| kx [(46, (vb true))] [] (zE (oBk true oLt) <| zZ) ?_
  refine pwp_seq <| pwp_cond (b := true) (by kernel_rfl) (fun _ => ?_) (fun h => by cases h)
  refine pwp_skip <| pwp_seq <| pwp_block <| pwp_seq <| kx [(9, (vi fx))] [] (zE (oXs el36 0) <| zE (oC1 sh3) <| zM <| zZ) ?_
  refine pwp_seq <| kx [(58, (vb false))] [] (zM <| zE oEq <| zM <| zM <| zE (oBk false oLt (by exact decide_eq_false (by omega))) <| zM <| zM <| zE (oBk false oGt (by exact decide_eq_false (by omega))) <| zE oPf <| zE oPt <| zZ) ?_
  refine pwp_cond (b := false) (by kernel_rfl) (fun h => by cases h) (fun _ => ?_)
  refine pwp_skip <| kx [(45, (vin 1))] [] (zE (oAd 1 (hr := by decide)) <| zM <| zZ) ?_
  refine pwp_again (SimImp.refl _) ?_
  refine pwp_seq <| kx [(46, (vb true))] [] (zE (oBk true oLt) <| zZ) ?_
  refine pwp_seq <| pwp_cond (b := true) (by kernel_rfl) (fun _ => ?_) (fun h => by cases h)
  refine pwp_skip <| pwp_seq <| pwp_block <| pwp_seq <| kx [(9, (vi fy))] [] (zE (oXs el36 1) <| zE (oC1 sh3) <| zM <| zZ) ?_
  refine pwp_seq <| kx [(58, (vb false))] [] (zM <| zE oEq <| zM <| zM <| zE (oBk false oLt (by exact decide_eq_false (by omega))) <| zM <| zM <| zE (oBk false oGt (by exact decide_eq_false (by omega))) <| zE oPf <| zE oPt <| zZ) ?_
  refine pwp_cond (b := false) (by kernel_rfl) (fun h => by cases h) (fun _ => ?_)
  refine pwp_skip <| pwp_sim (wk (l := [(2, (.ref 0 0)), (3, (.ref 1 0)), (5, (.ref 2 0)), (6, (vi 0)), (7, (vin 0)), (43, (vl 3 1 enc_i64 [fx, fy, tx, ty])), (44, (vin 4)), (45, (vin 1)), (58, (vb false))]) (b := [(0, some (bx (encA31 h))), (1, some (bx (encPair (RPair.mk (RPix.mk fx fy) (RPix.mk tx ty))))), (2, some y1)])) ?_
  refine kx [(45, (vin 2))] [] (zE (oAd 2 (hr := by decide)) <| zM <| zZ) ?_
  refine pwp_again (SimImp.refl _) ?_
  refine pwp_seq <| kx [(46, (vb true))] [] (zE (oBk true oLt) <| zZ) ?_
  refine pwp_seq <| pwp_cond (b := true) (by kernel_rfl) (fun _ => ?_) (fun h => by cases h)
  refine pwp_skip <| pwp_seq <| pwp_block <| pwp_seq <| kx [(9, (vi tx))] [] (zE (oXs el36 2) <| zE (oC1 sh3) <| zM <| zZ) ?_
  refine pwp_seq <| kx [(58, (vb false))] [] (zM <| zE oEq <| zM <| zM <| zE (oBk false oLt (by exact decide_eq_false (by omega))) <| zM <| zM <| zE (oBk false oGt (by exact decide_eq_false (by omega))) <| zE oPf <| zE oPt <| zZ) ?_
  refine pwp_cond (b := false) (by kernel_rfl) (fun h => by cases h) (fun _ => ?_)
  refine pwp_skip <| kx [(45, (vin 3))] [] (zE (oAd 3 (hr := by decide)) <| zM <| zZ) ?_
  refine pwp_again (SimImp.refl _) ?_
  refine pwp_seq <| kx [(46, (vb true))] [] (zE (oBk true oLt) <| zZ) ?_
  refine pwp_seq <| pwp_cond (b := true) (by kernel_rfl) (fun _ => ?_) (fun h => by cases h)
  refine pwp_skip <| pwp_seq <| pwp_block <| pwp_seq <| kx [(9, (vi ty))] [] (zE (oXs el36 3) <| zE (oC1 sh3) <| zM <| zZ) ?_
  refine pwp_seq <| kx [(58, (vb false))] [] (zM <| zE oEq <| zM <| zM <| zE (oBk false oLt (by exact decide_eq_false (by omega))) <| zM <| zM <| zE (oBk false oGt (by exact decide_eq_false (by omega))) <| zE oPf <| zE oPt <| zZ) ?_
  refine pwp_cond (b := false) (by kernel_rfl) (fun h => by cases h) (fun _ => ?_)
  refine pwp_skip <| kx [(45, (vin 4))] [] (zE (oAd 4 (hr := by decide)) <| zM <| zZ) ?_
  refine pwp_again (SimImp.refl _) ?_
  refine pwp_seq <| kx [(46, (vb false))] [] (zE (oBk false oLt) <| zZ) ?_
  refine pwp_seq <| pwp_cond (b := false) (by kernel_rfl) (fun h => by cases h) (fun _ => ?_)
  refine pwp_exit <| pwp_seq <| kx [(10, (.ref 3 0))] [(3, some (bx (encPlace (RPlace.mk (RRat.mk (RInt.mk false []) (RInt.mk false [])) (RRat.mk (RInt.mk false []) (RInt.mk false []))))))] (zE (oBd pl91 ze91 zo91) <| zN (oAl 3 ze91 zo91) <| zT (oSt sh91) <| zZ) ?_
  refine pwp_seq <| pwp_seq <| kx [(62, (vb true))] [] (zM <| zE oEq <| zZ) ?_
  refine pwp_cond (b := true) (by kernel_rfl) (fun _ => ?_) (fun h => by cases h)
  refine pwp_seq ?_
  have bn2 : ∀ c ∈ [f0, f1, f2], IOk (ofZ c) c 1 := red_iok (n := 1) (.cons (iok_small (z := fx) (by omega)) (.cons (iok_small (z := fy) (by omega)) (.cons (iok_small (z := 1) (by decide)) .nil))) hf
  have bn3 : ∀ c ∈ [a0, a1, a2], IOk (ofZ c) c 7 := red_iok (n := 7) (.cons (iok_add (k := 7) (iok_add (k := 6) (iok_mul (k := 5) hh0 (bn2 f0 (by simp)) (by decide)) (iok_mul (k := 5) hh1 (bn2 f1 (by simp)) (by decide)) (by decide)) (iok_mul (k := 5) hh2 (bn2 f2 (by simp)) (by decide)) (by decide)) (.cons (iok_add (k := 7) (iok_add (k := 6) (iok_mul (k := 5) hh3 (bn2 f0 (by simp)) (by decide)) (iok_mul (k := 5) hh4 (bn2 f1 (by simp)) (by decide)) (by decide)) (iok_mul (k := 5) hh5 (bn2 f2 (by simp)) (by decide)) (by decide)) (.cons (iok_add (k := 7) (iok_add (k := 6) (iok_mul (k := 5) hh6 (bn2 f0 (by simp)) (by decide)) (iok_mul (k := 5) hh7 (bn2 f1 (by simp)) (by decide)) (by decide)) (iok_mul (k := 5) hh8 (bn2 f2 (by simp)) (by decide)) (by decide)) .nil))) ha
  have bn4 : QL (Rat.divInt a0 a2) 7 := (ql_divInt (n := 7) (Nat.le_trans (IOk.ln (bn3 a0 (by simp))) (by decide)) (Nat.le_trans (IOk.ln (bn3 a2 (by simp))) (by decide)) (by decide))
  have bn5 : QL (Rat.divInt a1 a2) 7 := (ql_divInt (n := 7) (Nat.le_trans (IOk.ln (bn3 a1 (by simp))) (by decide)) (Nat.le_trans (IOk.ln (bn3 a2 (by simp))) (by decide)) (by decide))
  refine kd [(11, (.ref 4 0)), (12, (vb true))] [(4, some (bx (encPlace (RPlace.mk (ofQ (Rat.divInt a0 a2)) (ofQ (Rat.divInt a1 a2))))))] mo (wR (oLa sh32) <| wE (oFr fo25_0) <| wR (oLa sh23) <| wE (oCl (l_pix fx fy hfx hfy f0 f1 f2 hf)) <| wE (oCl (l_apply h h0 h1 h2 h3 h4 h5 h6 h7 h8 (iu hh0) (iu hh1) (iu hh2) (iu hh3) (iu hh4) (iu hh5) (iu hh6) (iu hh7) (iu hh8) (A3.mk (ofZ f0) (ofZ f1) (ofZ f2)) f0 f1 f2 (iok_up (bn2 f0 (by simp)) (by decide)) (iok_up (bn2 f1 (by simp)) (by decide)) (iok_up (bn2 f2 (by simp)) (by decide)) a0 a1 a2 ha hnw)) <| wE (oCl (l_placeO (A3.mk (ofZ a0) (ofZ a1) (ofZ a2)) a0 a1 a2 (iok_up (bn3 a0 (by simp)) (by decide)) (iok_up (bn3 a1 (by simp)) (by decide)) (iok_up (bn3 a2 (by simp)) (by decide)) ha2)) <| wM <| wE oEx <| wE oEx <| wN (oAl 4 ze91 zo91) <| wT (oSt sh91) <| wM <| wZ) ?_
  refine pwp_seq <| kx [] [(3, some (bx (encPlace (RPlace.mk (ofQ (Rat.divInt a0 a2)) (ofQ (Rat.divInt a1 a2))))))] (zR (oLa sh91) <| zT (oSt sh91) <| zZ) ?_
  refine pwp_seq <| pwp_sim (wk (l := [(2, (.ref 0 0)), (3, (.ref 1 0)), (5, (.ref 2 0)), (6, (vi 0)), (7, (vin 0)), (10, (.ref 3 0)), (12, (vb true))]) (b := [(0, some (bx (encA31 h))), (1, some (bx (encPair (RPair.mk (RPix.mk fx fy) (RPix.mk tx ty))))), (2, some y1), (3, some (bx (encPlace (RPlace.mk (ofQ (Rat.divInt a0 a2)) (ofQ (Rat.divInt a1 a2))))))])) ?_
  refine kx [(74, (vb false))] [] (zM <| zE oNt <| zZ) ?_
  refine pwp_cond (b := false) (by kernel_rfl) (fun h => by cases h) (fun _ => ?_)
  refine pwp_skip <| pwp_seq <| pwp_seq <| kx [(76, (vb false))] [] (zM <| zE oNe <| zZ) ?_
  refine pwp_cond (b := false) (by kernel_rfl) (fun h => by cases h) (fun _ => ?_)
  refine pwp_skip <| pwp_seq ?_
  have bn6 : QL ((tx : Int) : Rat) 3 := (ql_int (z := tx) (lenZ_int (by omega) (by omega)) (by decide))
  have bn7 : QL ((ty : Int) : Rat) 3 := (ql_int (z := ty) (lenZ_int (by omega) (by omega)) (by decide))
  refine kd [(13, (.ref 5 0)), (14, (.ref 6 0))] [(5, some (bx (encR (ofQ ((Rat.divInt a0 a2) - ((tx : Int) : Rat)))))), (6, some (bx (encR (ofQ ((Rat.divInt a1 a2) - ((ty : Int) : Rat))))))] mo (wE (oFr fo91_0) <| wR (oLa sh67) <| wE (oFr fo25_1) <| wE (oFr fo23_0) <| wR (oL1 sh3) <| wE (oCl (g_whole tx (by omega) (by omega))) <| wE (oCl (g_sub (ofQ (Rat.divInt a0 a2)) (ofQ ((tx : Int) : Rat)) (Rat.divInt a0 a2) ((tx : Int) : Rat) (qok_up (qok_of bn4) (by decide)) (qok_up (qok_of bn6) (by decide)))) <| wE (oFr fo91_1) <| wR (oLa sh67) <| wE (oFr fo25_1) <| wE (oFr fo23_1) <| wR (oL1 sh3) <| wE (oCl (g_whole ty (by omega) (by omega))) <| wE (oCl (g_sub (ofQ (Rat.divInt a1 a2)) (ofQ ((ty : Int) : Rat)) (Rat.divInt a1 a2) ((ty : Int) : Rat) (qok_up (qok_of bn5) (by decide)) (qok_up (qok_of bn7) (by decide)))) <| wN (oAl 5 ze67 zo67) <| wN (oAl 6 ze67 zo67) <| wT (oSt sh67) <| wT (oSt sh67) <| wZ) ?_
  refine pwp_seq ?_
  have bn8 : QL (((Rat.divInt a0 a2) - ((tx : Int) : Rat)) * ((Rat.divInt a0 a2) - ((tx : Int) : Rat))) 22 := (ql_mul (k := 22) (ql_sub (k := 11) bn4 bn6 (by decide)) (ql_sub (k := 11) bn4 bn6 (by decide)) (by decide))
  have bn9 : QL (((Rat.divInt a1 a2) - ((ty : Int) : Rat)) * ((Rat.divInt a1 a2) - ((ty : Int) : Rat))) 22 := (ql_mul (k := 22) (ql_sub (k := 11) bn5 bn7 (by decide)) (ql_sub (k := 11) bn5 bn7 (by decide)) (by decide))
  refine kd [(15, (.ref 7 0))] [(7, some (bx (encR y3)))] mo (wR (oLa sh67) <| wR (oLa sh67) <| wE (oCl (g_mul (ofQ ((Rat.divInt a0 a2) - ((tx : Int) : Rat))) (ofQ ((Rat.divInt a0 a2) - ((tx : Int) : Rat))) ((Rat.divInt a0 a2) - ((tx : Int) : Rat)) ((Rat.divInt a0 a2) - ((tx : Int) : Rat)) (qok_up (qok_of (ql_sub (k := 11) bn4 bn6 (by decide))) (by decide)) (qok_up (qok_of (ql_sub (k := 11) bn4 bn6 (by decide))) (by decide)))) <| wR (oLa sh67) <| wR (oLa sh67) <| wE (oCl (g_mul (ofQ ((Rat.divInt a1 a2) - ((ty : Int) : Rat))) (ofQ ((Rat.divInt a1 a2) - ((ty : Int) : Rat))) ((Rat.divInt a1 a2) - ((ty : Int) : Rat)) ((Rat.divInt a1 a2) - ((ty : Int) : Rat)) (qok_up (qok_of (ql_sub (k := 11) bn5 bn7 (by decide))) (by decide)) (qok_up (qok_of (ql_sub (k := 11) bn5 bn7 (by decide))) (by decide)))) <| wE (oCl (g_add (ofQ (((Rat.divInt a0 a2) - ((tx : Int) : Rat)) * ((Rat.divInt a0 a2) - ((tx : Int) : Rat)))) (ofQ (((Rat.divInt a1 a2) - ((ty : Int) : Rat)) * ((Rat.divInt a1 a2) - ((ty : Int) : Rat)))) (((Rat.divInt a0 a2) - ((tx : Int) : Rat)) * ((Rat.divInt a0 a2) - ((tx : Int) : Rat))) (((Rat.divInt a1 a2) - ((ty : Int) : Rat)) * ((Rat.divInt a1 a2) - ((ty : Int) : Rat))) (qok_up (qok_of bn8) (by decide)) (qok_up (qok_of bn9) (by decide)))) <| wN (oAl 7 ze67 zo67) <| wT (oSt sh67) <| wZ) ?_
  refine pwp_seq ?_
  have bn10 : ∀ c ∈ [g0, g1, g2], IOk (ofZ c) c 1 := red_iok (n := 1) (.cons (iok_small (z := tx) (by omega)) (.cons (iok_small (z := ty) (by omega)) (.cons (iok_small (z := 1) (by decide)) .nil))) hg
  refine kd [(4, (vb true))] [] mo (wM <| wE oEq <| wM <| wR (oLa sh67) <| wR (oLa sh67) <| wE (oBk true (oCl (by have h := g_same y2 y3 ((((Rat.divInt (((h0 * fx) + (h1 * fy)) + (h2 * 1)) (((h6 * fx) + (h7 * fy)) + (h8 * 1))) - ((tx : Int) : Rat)) * ((Rat.divInt (((h0 * fx) + (h1 * fy)) + (h2 * 1)) (((h6 * fx) + (h7 * fy)) + (h8 * 1))) - ((tx : Int) : Rat))) + (((Rat.divInt (((h3 * fx) + (h4 * fy)) + (h5 * 1)) (((h6 * fx) + (h7 * fy)) + (h8 * 1))) - ((ty : Int) : Rat)) * ((Rat.divInt (((h3 * fx) + (h4 * fy)) + (h5 * 1)) (((h6 * fx) + (h7 * fy)) + (h8 * 1))) - ((ty : Int) : Rat)))) ((((Rat.divInt a0 a2) - ((tx : Int) : Rat)) * ((Rat.divInt a0 a2) - ((tx : Int) : Rat))) + (((Rat.divInt a1 a2) - ((ty : Int) : Rat)) * ((Rat.divInt a1 a2) - ((ty : Int) : Rat)))) (qok_up (qok_of bn1) (by decide)) (qok_up (qok_of (ql_add (k := 45) bn8 bn9 (by decide))) (by decide)); rw [sameR_of] at h; exact h)) (by exact decide_eq_true hab)) <| wE oPt <| wM <| wR (oLa sh67) <| wE (oCl (g_sign y2 ((((Rat.divInt (((h0 * fx) + (h1 * fy)) + (h2 * 1)) (((h6 * fx) + (h7 * fy)) + (h8 * 1))) - ((tx : Int) : Rat)) * ((Rat.divInt (((h0 * fx) + (h1 * fy)) + (h2 * 1)) (((h6 * fx) + (h7 * fy)) + (h8 * 1))) - ((tx : Int) : Rat))) + (((Rat.divInt (((h3 * fx) + (h4 * fy)) + (h5 * 1)) (((h6 * fx) + (h7 * fy)) + (h8 * 1))) - ((ty : Int) : Rat)) * ((Rat.divInt (((h3 * fx) + (h4 * fy)) + (h5 * 1)) (((h6 * fx) + (h7 * fy)) + (h8 * 1))) - ((ty : Int) : Rat)))) (qok_up (qok_of bn1) (by decide)))) <| wE (oBk false oEq (by exact beq_eq_false_iff_ne.2 hsg)) <| wR (oLa sh32) <| wE (oFr fo25_0) <| wR (oLa sh23) <| wE (oCl (l_pix fx fy hfx hfy f0 f1 f2 hf)) <| wE (oCl (l_apply h h0 h1 h2 h3 h4 h5 h6 h7 h8 (iu hh0) (iu hh1) (iu hh2) (iu hh3) (iu hh4) (iu hh5) (iu hh6) (iu hh7) (iu hh8) (A3.mk (ofZ f0) (ofZ f1) (ofZ f2)) f0 f1 f2 (iok_up (bn2 f0 (by simp)) (by decide)) (iok_up (bn2 f1 (by simp)) (by decide)) (iok_up (bn2 f2 (by simp)) (by decide)) a0 a1 a2 ha hnw)) <| wE (oFr fo25_1) <| wR (oLa sh23) <| wE (oCl (l_pix tx ty htx hty g0 g1 g2 hg)) <| wE (oCl (l_sameF3_1 (A3.mk (ofZ a0) (ofZ a1) (ofZ a2)) a0 a1 a2 (iok_up (bn3 a0 (by simp)) (by decide)) (iok_up (bn3 a1 (by simp)) (by decide)) (iok_up (bn3 a2 (by simp)) (by decide)) (A3.mk (ofZ g0) (ofZ g1) (ofZ g2)) g0 g1 g2 (iok_up (bn10 g0 (by simp)) (by decide)) (iok_up (bn10 g1 (by simp)) (by decide)) (iok_up (bn10 g2 (by simp)) (by decide)) (validI_ofZ _) (validI_ofZ _) hs0 hsx)) <| wE (oBk true (oEb bo4) (by exact beq_self_eq_true _)) <| wE oPt <| wM <| wZ) ?_
  refine pwp_ret ⟨_, (.tmp (d := (.val (.bool (true)))) rfl .nil), ?_⟩
  rfl
theorem w_err_2 (h : A9 RInt) (h0 h1 h2 h3 h4 h5 h6 h7 h8 : Int) (hh0 : IOk h.a0 h0 4) (hh1 : IOk h.a1 h1 4) (hh2 : IOk h.a2 h2 4) (hh3 : IOk h.a3 h3 4) (hh4 : IOk h.a4 h4 4) (hh5 : IOk h.a5 h5 4) (hh6 : IOk h.a6 h6 4) (hh7 : IOk h.a7 h7 4) (hh8 : IOk h.a8 h8 4) (fx fy tx ty : Int) (f0 f1 f2 : Int) (hf : redL [fx, fy, 1] = [f0, f1, f2]) (a0 a1 a2 : Int) (ha : redL [(((h0 * f0) + (h1 * f1)) + (h2 * f2)), (((h3 * f0) + (h4 * f1)) + (h5 * f2)), (((h6 * f0) + (h7 * f1)) + (h8 * f2))] = [a0, a1, a2]) (g0 g1 g2 : Int) (hg : redL [tx, ty, 1] = [g0, g1, g2]) (hb0 : List.all [h.a0, h.a1, h.a2, h.a3, h.a4, h.a5, h.a6, h.a7, h.a8] short4 = true) (hv : valH [h.a0, h.a1, h.a2, h.a3, h.a4, h.a5, h.a6, h.a7, h.a8] (det3 h0 h1 h2 h3 h4 h5 h6 h7 h8) = true) (hfx : -1048576 ≤ fx ∧ fx ≤ 1048576) (hfy : -1048576 ≤ fy ∧ fy ≤ 1048576) (htx : -1048576 ≤ tx ∧ tx ≤ 1048576) (hty : -1048576 ≤ ty ∧ ty ≤ 1048576) (hz : (((h6 * fx) + (h7 * fy)) + (h8 * 1)) ≠ 0) (hnw : sgnL [(((h0 * f0) + (h1 * f1)) + (h2 * f2)), (((h3 * f0) + (h4 * f1)) + (h5 * f2)), (((h6 * f0) + (h7 * f1)) + (h8 * f2))] ≠ 0) (ha2 : a2 ≠ 0) (hab : ((((Rat.divInt (((h0 * fx) + (h1 * fy)) + (h2 * 1)) (((h6 * fx) + (h7 * fy)) + (h8 * 1))) - ((tx : Int) : Rat)) * ((Rat.divInt (((h0 * fx) + (h1 * fy)) + (h2 * 1)) (((h6 * fx) + (h7 * fy)) + (h8 * 1))) - ((tx : Int) : Rat))) + (((Rat.divInt (((h3 * fx) + (h4 * fy)) + (h5 * 1)) (((h6 * fx) + (h7 * fy)) + (h8 * 1))) - ((ty : Int) : Rat)) * ((Rat.divInt (((h3 * fx) + (h4 * fy)) + (h5 * 1)) (((h6 * fx) + (h7 * fy)) + (h8 * 1))) - ((ty : Int) : Rat)))) = ((((Rat.divInt a0 a2) - ((tx : Int) : Rat)) * ((Rat.divInt a0 a2) - ((tx : Int) : Rat))) + (((Rat.divInt a1 a2) - ((ty : Int) : Rat)) * ((Rat.divInt a1 a2) - ((ty : Int) : Rat))))) (hsg : signQ ((((Rat.divInt (((h0 * fx) + (h1 * fy)) + (h2 * 1)) (((h6 * fx) + (h7 * fy)) + (h8 * 1))) - ((tx : Int) : Rat)) * ((Rat.divInt (((h0 * fx) + (h1 * fy)) + (h2 * 1)) (((h6 * fx) + (h7 * fy)) + (h8 * 1))) - ((tx : Int) : Rat))) + (((Rat.divInt (((h3 * fx) + (h4 * fy)) + (h5 * 1)) (((h6 * fx) + (h7 * fy)) + (h8 * 1))) - ((ty : Int) : Rat)) * ((Rat.divInt (((h3 * fx) + (h4 * fy)) + (h5 * 1)) (((h6 * fx) + (h7 * fy)) + (h8 * 1))) - ((ty : Int) : Rat)))) ≠ 0) (hs0 : sameI (ofZ a0) (ofZ g0) = true) (hs1 : sameI (ofZ a1) (ofZ g1) = true) (hsx : sameI (ofZ a2) (ofZ g2) = false) : Takes Tryz.prog 10 [(encA31 h), (encPair (RPair.mk (RPix.mk fx fy) (RPix.mk tx ty)))] (.val (.bool (true))) := by
  let y3 := (ofQ ((((Rat.divInt a0 a2) - ((tx : Int) : Rat)) * ((Rat.divInt a0 a2) - ((tx : Int) : Rat))) + (((Rat.divInt a1 a2) - ((ty : Int) : Rat)) * ((Rat.divInt a1 a2) - ((ty : Int) : Rat)))))
  let y2 := (ofQ ((((Rat.divInt (((h0 * fx) + (h1 * fy)) + (h2 * 1)) (((h6 * fx) + (h7 * fy)) + (h8 * 1))) - ((tx : Int) : Rat)) * ((Rat.divInt (((h0 * fx) + (h1 * fy)) + (h2 * 1)) (((h6 * fx) + (h7 * fy)) + (h8 * 1))) - ((tx : Int) : Rat))) + (((Rat.divInt (((h3 * fx) + (h4 * fy)) + (h5 * 1)) (((h6 * fx) + (h7 * fy)) + (h8 * 1))) - ((ty : Int) : Rat)) * ((Rat.divInt (((h3 * fx) + (h4 * fy)) + (h5 * 1)) (((h6 * fx) + (h7 * fy)) + (h8 * 1))) - ((ty : Int) : Rat)))))
  let y1 := (bx (encR y2))
  refine fn_intro Tryz.func10 rfl cb10 rfl ?_
  show PWp _ _ _ _ ⟨[(0, (.d (encA31 h))), (1, (.d (encPair (RPair.mk (RPix.mk fx fy) (RPix.mk tx ty)))))], []⟩
  refine pwp_seq <| kx [(2, (.ref 0 0)), (3, (.ref 1 0))] [(0, some (bx (encA31 h))), (1, some (bx (encPair (RPair.mk (RPix.mk fx fy) (RPix.mk tx ty)))))] (zN (oBx 0) <| zN (oBx 1) <| zM <| zZ) ?_
  refine pwp_seq <| pwp_seq <| kx [(17, (vb false))] [] (zE (oCl l_known27) <| zE oNt <| zZ) ?_
  refine pwp_cond (b := false) (by kernel_rfl) (fun h => by cases h) (fun _ => ?_)
  refine pwp_skip <| pwp_seq <| pwp_seq <| kx [(21, (vb false))] [] (zR (oLa sh32) <| zE (oCl (l_map1 h h0 h1 h2 h3 h4 h5 h6 h7 h8 (iu hh0) (iu hh1) (iu hh2) (iu hh3) (iu hh4) (iu hh5) (iu hh6) (iu hh7) (iu hh8))) <| zE (oCl (tk_nil (l_briefT10 h h0 h1 h2 h3 h4 h5 h6 h7 h8 (iu hh0) (iu hh1) (iu hh2) (iu hh3) (iu hh4) (iu hh5) (iu hh6) (iu hh7) (iu hh8) hb0) (.same (.cut 44 6 .nil)))) <| zE oNt <| zZ) ?_
  refine pwp_cond (b := false) (by kernel_rfl) (fun h => by cases h) (fun _ => ?_)
  refine pwp_skip <| pwp_seq ?_
  have bn1 : QL ((((Rat.divInt (((h0 * fx) + (h1 * fy)) + (h2 * 1)) (((h6 * fx) + (h7 * fy)) + (h8 * 1))) - ((tx : Int) : Rat)) * ((Rat.divInt (((h0 * fx) + (h1 * fy)) + (h2 * 1)) (((h6 * fx) + (h7 * fy)) + (h8 * 1))) - ((tx : Int) : Rat))) + (((Rat.divInt (((h3 * fx) + (h4 * fy)) + (h5 * 1)) (((h6 * fx) + (h7 * fy)) + (h8 * 1))) - ((ty : Int) : Rat)) * ((Rat.divInt (((h3 * fx) + (h4 * fy)) + (h5 * 1)) (((h6 * fx) + (h7 * fy)) + (h8 * 1))) - ((ty : Int) : Rat)))) 45 := (ql_add (k := 45) (ql_mul (k := 22) (ql_sub (k := 11) (ql_divInt (n := 7) (Nat.le_trans (IOk.ln (iok_add (k := 7) (iok_add (k := 6) (iok_mul (k := 5) hh0 (iok_small (z := fx) (by omega)) (by decide)) (iok_mul (k := 5) hh1 (iok_small (z := fy) (by omega)) (by decide)) (by decide)) (iok_mul (k := 5) hh2 (iok_small (z := 1) (by decide)) (by decide)) (by decide))) (by decide)) (Nat.le_trans (IOk.ln (iok_add (k := 7) (iok_add (k := 6) (iok_mul (k := 5) hh6 (iok_small (z := fx) (by omega)) (by decide)) (iok_mul (k := 5) hh7 (iok_small (z := fy) (by omega)) (by decide)) (by decide)) (iok_mul (k := 5) hh8 (iok_small (z := 1) (by decide)) (by decide)) (by decide))) (by decide)) (by decide)) (ql_int (z := tx) (lenZ_int (by omega) (by omega)) (by decide)) (by decide)) (ql_sub (k := 11) (ql_divInt (n := 7) (Nat.le_trans (IOk.ln (iok_add (k := 7) (iok_add (k := 6) (iok_mul (k := 5) hh0 (iok_small (z := fx) (by omega)) (by decide)) (iok_mul (k := 5) hh1 (iok_small (z := fy) (by omega)) (by decide)) (by decide)) (iok_mul (k := 5) hh2 (iok_small (z := 1) (by decide)) (by decide)) (by decide))) (by decide)) (Nat.le_trans (IOk.ln (iok_add (k := 7) (iok_add (k := 6) (iok_mul (k := 5) hh6 (iok_small (z := fx) (by omega)) (by decide)) (iok_mul (k := 5) hh7 (iok_small (z := fy) (by omega)) (by decide)) (by decide)) (iok_mul (k := 5) hh8 (iok_small (z := 1) (by decide)) (by decide)) (by decide))) (by decide)) (by decide)) (ql_int (z := tx) (lenZ_int (by omega) (by omega)) (by decide)) (by decide)) (by decide)) (ql_mul (k := 22) (ql_sub (k := 11) (ql_divInt (n := 7) (Nat.le_trans (IOk.ln (iok_add (k := 7) (iok_add (k := 6) (iok_mul (k := 5) hh3 (iok_small (z := fx) (by omega)) (by decide)) (iok_mul (k := 5) hh4 (iok_small (z := fy) (by omega)) (by decide)) (by decide)) (iok_mul (k := 5) hh5 (iok_small (z := 1) (by decide)) (by decide)) (by decide))) (by decide)) (Nat.le_trans (IOk.ln (iok_add (k := 7) (iok_add (k := 6) (iok_mul (k := 5) hh6 (iok_small (z := fx) (by omega)) (by decide)) (iok_mul (k := 5) hh7 (iok_small (z := fy) (by omega)) (by decide)) (by decide)) (iok_mul (k := 5) hh8 (iok_small (z := 1) (by decide)) (by decide)) (by decide))) (by decide)) (by decide)) (ql_int (z := ty) (lenZ_int (by omega) (by omega)) (by decide)) (by decide)) (ql_sub (k := 11) (ql_divInt (n := 7) (Nat.le_trans (IOk.ln (iok_add (k := 7) (iok_add (k := 6) (iok_mul (k := 5) hh3 (iok_small (z := fx) (by omega)) (by decide)) (iok_mul (k := 5) hh4 (iok_small (z := fy) (by omega)) (by decide)) (by decide)) (iok_mul (k := 5) hh5 (iok_small (z := 1) (by decide)) (by decide)) (by decide))) (by decide)) (Nat.le_trans (IOk.ln (iok_add (k := 7) (iok_add (k := 6) (iok_mul (k := 5) hh6 (iok_small (z := fx) (by omega)) (by decide)) (iok_mul (k := 5) hh7 (iok_small (z := fy) (by omega)) (by decide)) (by decide)) (iok_mul (k := 5) hh8 (iok_small (z := 1) (by decide)) (by decide)) (by decide))) (by decide)) (by decide)) (ql_int (z := ty) (lenZ_int (by omega) (by omega)) (by decide)) (by decide)) (by decide)) (by decide))
  refine kx [(5, (.ref 2 0)), (6, (vi 0))] [(2, some y1)] (zR (oLa sh32) <| zR (oLa sh25) <| zE (oCl (d_err h h0 h1 h2 h3 h4 h5 h6 h7 h8 (iu hh0) (iu hh1) (iu hh2) (iu hh3) (iu hh4) (iu hh5) (iu hh6) (iu hh7) (iu hh8) fx fy tx ty hv hfx hfy htx hty hz)) <| zM <| zE oEx <| zE oEx <| zN (oAl 2 ze67 zo67) <| zT (oSt sh67) <| zM <| zZ) ?_
  refine pwp_seq <| kx [(7, (vin 0))] [] (zM <| zZ) ?_
  refine pwp_seq <| pwp_seq <| kx [(30, (vb false))] [] (zR (oLa sh32) <| zE (oBk true (oCl (l_valid h h0 h1 h2 h3 h4 h5 h6 h7 h8 (iu hh0) (iu hh1) (iu hh2) (iu hh3) (iu hh4) (iu hh5) (iu hh6) (iu hh7) (iu hh8))) (by exact hv)) <| zE oNt <| zZ) ?_
  refine pwp_cond (b := false) (by kernel_rfl) (fun h => by cases h) (fun _ => ?_)
  refine pwp_skip <| pwp_seq <| pwp_seq <| kx [(43, (vl 3 1 enc_i64 [fx, fy, tx, ty])), (44, (vin 4)), (45, (vin 0))] [] (zE (oFr fo25_0) <| zE (oFr fo23_0) <| zR (oL1 sh3) <| zE (oFr fo25_0) <| zE (oFr fo23_1) <| zR (oL1 sh3) <| zE (oFr fo25_1) <| zE (oFr fo23_0) <| zR (oL1 sh3) <| zE (oFr fo25_1) <| zE (oFr fo23_1) <| zR (oL1 sh3) <| zE (oBs el36 ze3 zo3) <| zE (oLn el36 4) <| zM <| zZ) ?_
  refine pwp_block <| pwp_rounds 20 ?_
  refine pwp_round <| pwp_seq <| kx [(46, (vb true))] [] (zE (oBk true oLt) <| zZ) ?_
  refine pwp_seq <| pwp_cond (b := true) (by kernel_rfl) (fun _ => ?_) (fun h => by cases h)
  refine pwp_skip <| pwp_seq <| pwp_block <| pwp_seq <| kx [(9, (vi fx))] [] (zE (oXs el36 0) <| zE (oC1 sh3) <| zM <| zZ) ?_
  refine pwp_seq <| kx [(58, (vb false))] [] (zM <| zE oEq <| zM <| zM <| zE (oBk false oLt (by exact decide_eq_false (by omega))) <| zM <| zM <| zE (oBk false oGt (by exact decide_eq_false (by omega))) <| zE oPf <| zE oPt <| zZ) ?_
  refine pwp_cond (b := false) (by kernel_rfl) (fun h => by cases h) (fun _ => ?_)
  refine pwp_skip <| kx [(45, (vin 1))] [] (zE (oAd 1 (hr := by decide)) <| zM <| zZ) ?_
  refine pwp_again (SimImp.refl _) ?_
  refine pwp_seq <| kx [(46, (vb true))] [] (zE (oBk true oLt) <| zZ) ?_
  refine pwp_seq <| pwp_cond (b := true) (by kernel_rfl) (fun _ => ?_) (fun h => by cases h)
  refine pwp_skip <| pwp_seq <| pwp_block <| pwp_seq <| kx [(9, (vi fy))] [] (zE (oXs el36 1) <| zE (oC1 sh3) <| zM <| zZ) ?_
  refine pwp_seq <| kx [(58, (vb false))] [] (zM <| zE oEq <| zM <| zM <| zE (oBk false oLt (by exact decide_eq_false (by omega))) <| zM <| zM <| zE (oBk false oGt (by exact decide_eq_false (by omega))) <| zE oPf <| zE oPt <| zZ) ?_
  refine pwp_cond (b := false) (by kernel_rfl) (fun h => by cases h) (fun _ => ?_)
  refine pwp_skip <| pwp_sim (wk (l := [(2, (.ref 0 0)), (3, (.ref 1 0)), (5, (.ref 2 0)), (6, (vi 0)), (7, (vin 0)), (43, (vl 3 1 enc_i64 [fx, fy, tx, ty])), (44, (vin 4)), (45, (vin 1)), (58, (vb false))]) (b := [(0, some (bx (encA31 h))), (1, some (bx (encPair (RPair.mk (RPix.mk fx fy) (RPix.mk tx ty))))), (2, some y1)])) ?_
  refine kx [(45, (vin 2))] [] (zE (oAd 2 (hr := by decide)) <| zM <| zZ) ?_
  refine pwp_again (SimImp.refl _) ?_
  refine pwp_seq <| kx [(46, (vb true))] [] (zE (oBk true oLt) <| zZ) ?_
  refine pwp_seq <| pwp_cond (b := true) (by kernel_rfl) (fun _ => ?_) (fun h => by cases h)
  refine pwp_skip <| pwp_seq <| pwp_block <| pwp_seq <| kx [(9, (vi tx))] [] (zE (oXs el36 2) <| zE (oC1 sh3) <| zM <| zZ) ?_
  refine pwp_seq <| kx [(58, (vb false))] [] (zM <| zE oEq <| zM <| zM <| zE (oBk false oLt (by exact decide_eq_false (by omega))) <| zM <| zM <| zE (oBk false oGt (by exact decide_eq_false (by omega))) <| zE oPf <| zE oPt <| zZ) ?_
  refine pwp_cond (b := false) (by kernel_rfl) (fun h => by cases h) (fun _ => ?_)
  refine pwp_skip <| kx [(45, (vin 3))] [] (zE (oAd 3 (hr := by decide)) <| zM <| zZ) ?_
  refine pwp_again (SimImp.refl _) ?_
  refine pwp_seq <| kx [(46, (vb true))] [] (zE (oBk true oLt) <| zZ) ?_
  refine pwp_seq <| pwp_cond (b := true) (by kernel_rfl) (fun _ => ?_) (fun h => by cases h)
  refine pwp_skip <| pwp_seq <| pwp_block <| pwp_seq <| kx [(9, (vi ty))] [] (zE (oXs el36 3) <| zE (oC1 sh3) <| zM <| zZ) ?_
  refine pwp_seq <| kx [(58, (vb false))] [] (zM <| zE oEq <| zM <| zM <| zE (oBk false oLt (by exact decide_eq_false (by omega))) <| zM <| zM <| zE (oBk false oGt (by exact decide_eq_false (by omega))) <| zE oPf <| zE oPt <| zZ) ?_
  refine pwp_cond (b := false) (by kernel_rfl) (fun h => by cases h) (fun _ => ?_)
  refine pwp_skip <| kx [(45, (vin 4))] [] (zE (oAd 4 (hr := by decide)) <| zM <| zZ) ?_
  refine pwp_again (SimImp.refl _) ?_
  refine pwp_seq <| kx [(46, (vb false))] [] (zE (oBk false oLt) <| zZ) ?_
  refine pwp_seq <| pwp_cond (b := false) (by kernel_rfl) (fun h => by cases h) (fun _ => ?_)
  refine pwp_exit <| pwp_seq <| kx [(10, (.ref 3 0))] [(3, some (bx (encPlace (RPlace.mk (RRat.mk (RInt.mk false []) (RInt.mk false [])) (RRat.mk (RInt.mk false []) (RInt.mk false []))))))] (zE (oBd pl91 ze91 zo91) <| zN (oAl 3 ze91 zo91) <| zT (oSt sh91) <| zZ) ?_
  refine pwp_seq <| pwp_seq <| kx [(62, (vb true))] [] (zM <| zE oEq <| zZ) ?_
  refine pwp_cond (b := true) (by kernel_rfl) (fun _ => ?_) (fun h => by cases h)
  refine pwp_seq ?_
  have bn2 : ∀ c ∈ [f0, f1, f2], IOk (ofZ c) c 1 := red_iok (n := 1) (.cons (iok_small (z := fx) (by omega)) (.cons (iok_small (z := fy) (by omega)) (.cons (iok_small (z := 1) (by decide)) .nil))) hf
  have bn3 : ∀ c ∈ [a0, a1, a2], IOk (ofZ c) c 7 := red_iok (n := 7) (.cons (iok_add (k := 7) (iok_add (k := 6) (iok_mul (k := 5) hh0 (bn2 f0 (by simp)) (by decide)) (iok_mul (k := 5) hh1 (bn2 f1 (by simp)) (by decide)) (by decide)) (iok_mul (k := 5) hh2 (bn2 f2 (by simp)) (by decide)) (by decide)) (.cons (iok_add (k := 7) (iok_add (k := 6) (iok_mul (k := 5) hh3 (bn2 f0 (by simp)) (by decide)) (iok_mul (k := 5) hh4 (bn2 f1 (by simp)) (by decide)) (by decide)) (iok_mul (k := 5) hh5 (bn2 f2 (by simp)) (by decide)) (by decide)) (.cons (iok_add (k := 7) (iok_add (k := 6) (iok_mul (k := 5) hh6 (bn2 f0 (by simp)) (by decide)) (iok_mul (k := 5) hh7 (bn2 f1 (by simp)) (by decide)) (by decide)) (iok_mul (k := 5) hh8 (bn2 f2 (by simp)) (by decide)) (by decide)) .nil))) ha
  have bn4 : QL (Rat.divInt a0 a2) 7 := (ql_divInt (n := 7) (Nat.le_trans (IOk.ln (bn3 a0 (by simp))) (by decide)) (Nat.le_trans (IOk.ln (bn3 a2 (by simp))) (by decide)) (by decide))
  have bn5 : QL (Rat.divInt a1 a2) 7 := (ql_divInt (n := 7) (Nat.le_trans (IOk.ln (bn3 a1 (by simp))) (by decide)) (Nat.le_trans (IOk.ln (bn3 a2 (by simp))) (by decide)) (by decide))
  refine kd [(11, (.ref 4 0)), (12, (vb true))] [(4, some (bx (encPlace (RPlace.mk (ofQ (Rat.divInt a0 a2)) (ofQ (Rat.divInt a1 a2))))))] mo (wR (oLa sh32) <| wE (oFr fo25_0) <| wR (oLa sh23) <| wE (oCl (l_pix fx fy hfx hfy f0 f1 f2 hf)) <| wE (oCl (l_apply h h0 h1 h2 h3 h4 h5 h6 h7 h8 (iu hh0) (iu hh1) (iu hh2) (iu hh3) (iu hh4) (iu hh5) (iu hh6) (iu hh7) (iu hh8) (A3.mk (ofZ f0) (ofZ f1) (ofZ f2)) f0 f1 f2 (iok_up (bn2 f0 (by simp)) (by decide)) (iok_up (bn2 f1 (by simp)) (by decide)) (iok_up (bn2 f2 (by simp)) (by decide)) a0 a1 a2 ha hnw)) <| wE (oCl (l_placeO (A3.mk (ofZ a0) (ofZ a1) (ofZ a2)) a0 a1 a2 (iok_up (bn3 a0 (by simp)) (by decide)) (iok_up (bn3 a1 (by simp)) (by decide)) (iok_up (bn3 a2 (by simp)) (by decide)) ha2)) <| wM <| wE oEx <| wE oEx <| wN (oAl 4 ze91 zo91) <| wT (oSt sh91) <| wM <| wZ) ?_
  refine pwp_seq <| kx [] [(3, some (bx (encPlace (RPlace.mk (ofQ (Rat.divInt a0 a2)) (ofQ (Rat.divInt a1 a2))))))] (zR (oLa sh91) <| zT (oSt sh91) <| zZ) ?_
  refine pwp_seq <| pwp_sim (wk (l := [(2, (.ref 0 0)), (3, (.ref 1 0)), (5, (.ref 2 0)), (6, (vi 0)), (7, (vin 0)), (10, (.ref 3 0)), (12, (vb true))]) (b := [(0, some (bx (encA31 h))), (1, some (bx (encPair (RPair.mk (RPix.mk fx fy) (RPix.mk tx ty))))), (2, some y1), (3, some (bx (encPlace (RPlace.mk (ofQ (Rat.divInt a0 a2)) (ofQ (Rat.divInt a1 a2))))))])) ?_
  refine kx [(74, (vb false))] [] (zM <| zE oNt <| zZ) ?_
  refine pwp_cond (b := false) (by kernel_rfl) (fun h => by cases h) (fun _ => ?_)
  refine pwp_skip <| pwp_seq <| pwp_seq <| kx [(76, (vb false))] [] (zM <| zE oNe <| zZ) ?_
  refine pwp_cond (b := false) (by kernel_rfl) (fun h => by cases h) (fun _ => ?_)
  refine pwp_skip <| pwp_seq ?_
  have bn6 : QL ((tx : Int) : Rat) 3 := (ql_int (z := tx) (lenZ_int (by omega) (by omega)) (by decide))
  have bn7 : QL ((ty : Int) : Rat) 3 := (ql_int (z := ty) (lenZ_int (by omega) (by omega)) (by decide))
  refine kd [(13, (.ref 5 0)), (14, (.ref 6 0))] [(5, some (bx (encR (ofQ ((Rat.divInt a0 a2) - ((tx : Int) : Rat)))))), (6, some (bx (encR (ofQ ((Rat.divInt a1 a2) - ((ty : Int) : Rat))))))] mo (wE (oFr fo91_0) <| wR (oLa sh67) <| wE (oFr fo25_1) <| wE (oFr fo23_0) <| wR (oL1 sh3) <| wE (oCl (g_whole tx (by omega) (by omega))) <| wE (oCl (g_sub (ofQ (Rat.divInt a0 a2)) (ofQ ((tx : Int) : Rat)) (Rat.divInt a0 a2) ((tx : Int) : Rat) (qok_up (qok_of bn4) (by decide)) (qok_up (qok_of bn6) (by decide)))) <| wE (oFr fo91_1) <| wR (oLa sh67) <| wE (oFr fo25_1) <| wE (oFr fo23_1) <| wR (oL1 sh3) <| wE (oCl (g_whole ty (by omega) (by omega))) <| wE (oCl (g_sub (ofQ (Rat.divInt a1 a2)) (ofQ ((ty : Int) : Rat)) (Rat.divInt a1 a2) ((ty : Int) : Rat) (qok_up (qok_of bn5) (by decide)) (qok_up (qok_of bn7) (by decide)))) <| wN (oAl 5 ze67 zo67) <| wN (oAl 6 ze67 zo67) <| wT (oSt sh67) <| wT (oSt sh67) <| wZ) ?_
  refine pwp_seq ?_
  have bn8 : QL (((Rat.divInt a0 a2) - ((tx : Int) : Rat)) * ((Rat.divInt a0 a2) - ((tx : Int) : Rat))) 22 := (ql_mul (k := 22) (ql_sub (k := 11) bn4 bn6 (by decide)) (ql_sub (k := 11) bn4 bn6 (by decide)) (by decide))
  have bn9 : QL (((Rat.divInt a1 a2) - ((ty : Int) : Rat)) * ((Rat.divInt a1 a2) - ((ty : Int) : Rat))) 22 := (ql_mul (k := 22) (ql_sub (k := 11) bn5 bn7 (by decide)) (ql_sub (k := 11) bn5 bn7 (by decide)) (by decide))
  refine kd [(15, (.ref 7 0))] [(7, some (bx (encR y3)))] mo (wR (oLa sh67) <| wR (oLa sh67) <| wE (oCl (g_mul (ofQ ((Rat.divInt a0 a2) - ((tx : Int) : Rat))) (ofQ ((Rat.divInt a0 a2) - ((tx : Int) : Rat))) ((Rat.divInt a0 a2) - ((tx : Int) : Rat)) ((Rat.divInt a0 a2) - ((tx : Int) : Rat)) (qok_up (qok_of (ql_sub (k := 11) bn4 bn6 (by decide))) (by decide)) (qok_up (qok_of (ql_sub (k := 11) bn4 bn6 (by decide))) (by decide)))) <| wR (oLa sh67) <| wR (oLa sh67) <| wE (oCl (g_mul (ofQ ((Rat.divInt a1 a2) - ((ty : Int) : Rat))) (ofQ ((Rat.divInt a1 a2) - ((ty : Int) : Rat))) ((Rat.divInt a1 a2) - ((ty : Int) : Rat)) ((Rat.divInt a1 a2) - ((ty : Int) : Rat)) (qok_up (qok_of (ql_sub (k := 11) bn5 bn7 (by decide))) (by decide)) (qok_up (qok_of (ql_sub (k := 11) bn5 bn7 (by decide))) (by decide)))) <| wE (oCl (g_add (ofQ (((Rat.divInt a0 a2) - ((tx : Int) : Rat)) * ((Rat.divInt a0 a2) - ((tx : Int) : Rat)))) (ofQ (((Rat.divInt a1 a2) - ((ty : Int) : Rat)) * ((Rat.divInt a1 a2) - ((ty : Int) : Rat)))) (((Rat.divInt a0 a2) - ((tx : Int) : Rat)) * ((Rat.divInt a0 a2) - ((tx : Int) : Rat))) (((Rat.divInt a1 a2) - ((ty : Int) : Rat)) * ((Rat.divInt a1 a2) - ((ty : Int) : Rat))) (qok_up (qok_of bn8) (by decide)) (qok_up (qok_of bn9) (by decide)))) <| wN (oAl 7 ze67 zo67) <| wT (oSt sh67) <| wZ) ?_
  refine pwp_seq ?_
  have bn10 : ∀ c ∈ [g0, g1, g2], IOk (ofZ c) c 1 := red_iok (n := 1) (.cons (iok_small (z := tx) (by omega)) (.cons (iok_small (z := ty) (by omega)) (.cons (iok_small (z := 1) (by decide)) .nil))) hg
  refine kd [(4, (vb true))] [] mo (wM <| wE oEq <| wM <| wR (oLa sh67) <| wR (oLa sh67) <| wE (oBk true (oCl (by have h := g_same y2 y3 ((((Rat.divInt (((h0 * fx) + (h1 * fy)) + (h2 * 1)) (((h6 * fx) + (h7 * fy)) + (h8 * 1))) - ((tx : Int) : Rat)) * ((Rat.divInt (((h0 * fx) + (h1 * fy)) + (h2 * 1)) (((h6 * fx) + (h7 * fy)) + (h8 * 1))) - ((tx : Int) : Rat))) + (((Rat.divInt (((h3 * fx) + (h4 * fy)) + (h5 * 1)) (((h6 * fx) + (h7 * fy)) + (h8 * 1))) - ((ty : Int) : Rat)) * ((Rat.divInt (((h3 * fx) + (h4 * fy)) + (h5 * 1)) (((h6 * fx) + (h7 * fy)) + (h8 * 1))) - ((ty : Int) : Rat)))) ((((Rat.divInt a0 a2) - ((tx : Int) : Rat)) * ((Rat.divInt a0 a2) - ((tx : Int) : Rat))) + (((Rat.divInt a1 a2) - ((ty : Int) : Rat)) * ((Rat.divInt a1 a2) - ((ty : Int) : Rat)))) (qok_up (qok_of bn1) (by decide)) (qok_up (qok_of (ql_add (k := 45) bn8 bn9 (by decide))) (by decide)); rw [sameR_of] at h; exact h)) (by exact decide_eq_true hab)) <| wE oPt <| wM <| wR (oLa sh67) <| wE (oCl (g_sign y2 ((((Rat.divInt (((h0 * fx) + (h1 * fy)) + (h2 * 1)) (((h6 * fx) + (h7 * fy)) + (h8 * 1))) - ((tx : Int) : Rat)) * ((Rat.divInt (((h0 * fx) + (h1 * fy)) + (h2 * 1)) (((h6 * fx) + (h7 * fy)) + (h8 * 1))) - ((tx : Int) : Rat))) + (((Rat.divInt (((h3 * fx) + (h4 * fy)) + (h5 * 1)) (((h6 * fx) + (h7 * fy)) + (h8 * 1))) - ((ty : Int) : Rat)) * ((Rat.divInt (((h3 * fx) + (h4 * fy)) + (h5 * 1)) (((h6 * fx) + (h7 * fy)) + (h8 * 1))) - ((ty : Int) : Rat)))) (qok_up (qok_of bn1) (by decide)))) <| wE (oBk false oEq (by exact beq_eq_false_iff_ne.2 hsg)) <| wR (oLa sh32) <| wE (oFr fo25_0) <| wR (oLa sh23) <| wE (oCl (l_pix fx fy hfx hfy f0 f1 f2 hf)) <| wE (oCl (l_apply h h0 h1 h2 h3 h4 h5 h6 h7 h8 (iu hh0) (iu hh1) (iu hh2) (iu hh3) (iu hh4) (iu hh5) (iu hh6) (iu hh7) (iu hh8) (A3.mk (ofZ f0) (ofZ f1) (ofZ f2)) f0 f1 f2 (iok_up (bn2 f0 (by simp)) (by decide)) (iok_up (bn2 f1 (by simp)) (by decide)) (iok_up (bn2 f2 (by simp)) (by decide)) a0 a1 a2 ha hnw)) <| wE (oFr fo25_1) <| wR (oLa sh23) <| wE (oCl (l_pix tx ty htx hty g0 g1 g2 hg)) <| wE (oCl (l_sameF3_2 (A3.mk (ofZ a0) (ofZ a1) (ofZ a2)) a0 a1 a2 (iok_up (bn3 a0 (by simp)) (by decide)) (iok_up (bn3 a1 (by simp)) (by decide)) (iok_up (bn3 a2 (by simp)) (by decide)) (A3.mk (ofZ g0) (ofZ g1) (ofZ g2)) g0 g1 g2 (iok_up (bn10 g0 (by simp)) (by decide)) (iok_up (bn10 g1 (by simp)) (by decide)) (iok_up (bn10 g2 (by simp)) (by decide)) (validI_ofZ _) (validI_ofZ _) (validI_ofZ _) hs0 hs1 hsx)) <| wE (oBk true (oEb bo4) (by exact beq_self_eq_true _)) <| wE oPt <| wM <| wZ) ?_
  refine pwp_ret ⟨_, (.tmp (d := (.val (.bool (true)))) rfl .nil), ?_⟩
  rfl
end Go.Proofs.YtadkkhdnccljcaaGreat
