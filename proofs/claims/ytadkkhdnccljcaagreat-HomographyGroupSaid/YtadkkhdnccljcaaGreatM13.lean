/- Part 13 of a proof: rules, plain facts, and functions walked. -/
import Derived.Test.YtadkkhdnccljcaaGreatM12
import Derived.Test.YtadkkhdnccljcaaGreatM8
import Derived.OpenShut
import Derived.Test.YtadkkhdnccljcaaGreatM2
import Derived.ChangeArms
import Derived.SizedLaws
import Derived.ChangeShapes
import Derived.WideShapes
import Derived.RowKit
import Derived.Carry
import Derived.ChangeOld
import Derived.WideKeyElems2
import Derived.Seven
namespace Go.Proofs.YtadkkhdnccljcaaGreat
open Go.Fid
set_option maxRecDepth 4000
set_option linter.unusedVariables false
set_option linter.unusedSimpArgs false
theorem cb6 : callB Tryz.prog 6 = true := by kernel_rfl
theorem w_grpN0 (f : A9 RInt) (f0 f1 f2 f3 f4 f5 f6 f7 f8 : Int) (hf0 : IOk f.a0 f0 140737488355328) (hf1 : IOk f.a1 f1 140737488355328) (hf2 : IOk f.a2 f2 140737488355328) (hf3 : IOk f.a3 f3 140737488355328) (hf4 : IOk f.a4 f4 140737488355328) (hf5 : IOk f.a5 f5 140737488355328) (hf6 : IOk f.a6 f6 140737488355328) (hf7 : IOk f.a7 f7 140737488355328) (hf8 : IOk f.a8 f8 140737488355328) (g : A9 RInt) (g0 g1 g2 g3 g4 g5 g6 g7 g8 : Int) (hg0 : IOk g.a0 g0 140737488355328) (hg1 : IOk g.a1 g1 140737488355328) (hg2 : IOk g.a2 g2 140737488355328) (hg3 : IOk g.a3 g3 140737488355328) (hg4 : IOk g.a4 g4 140737488355328) (hg5 : IOk g.a5 g5 140737488355328) (hg6 : IOk g.a6 g6 140737488355328) (hg7 : IOk g.a7 g7 140737488355328) (hg8 : IOk g.a8 g8 140737488355328) (h : A9 RInt) (h0 h1 h2 h3 h4 h5 h6 h7 h8 : Int) (hh0 : IOk h.a0 h0 140737488355328) (hh1 : IOk h.a1 h1 140737488355328) (hh2 : IOk h.a2 h2 140737488355328) (hh3 : IOk h.a3 h3 140737488355328) (hh4 : IOk h.a4 h4 140737488355328) (hh5 : IOk h.a5 h5 140737488355328) (hh6 : IOk h.a6 h6 140737488355328) (hh7 : IOk h.a7 h7 140737488355328) (hh8 : IOk h.a8 h8 140737488355328) (hbx : List.all [f.a0, f.a1, f.a2, f.a3, f.a4, f.a5, f.a6, f.a7, f.a8] short4 = false) : Takes Tryz.prog 6 [(encA31 f), (encA31 g), (encA31 h)] (.val (.bool (true))) := by
  refine fn_intro Tryz.func6 rfl cb6 rfl ?_
  show PWp _ _ _ _ ⟨[(0, (.d (encA31 f))), (1, (.d (encA31 g))), (2, (.d (encA31 h)))], []⟩
  refine pwp_seq <| kx [(3, (.ref 0 0)), (4, (.ref 1 0)), (5, (.ref 2 0))] [(0, some (bx (encA31 f))), (1, some (bx (encA31 g))), (2, some (bx (encA31 h)))] (zN (oBx 0) <| zN (oBx 1) <| zN (oBx 2) <| zM <| zZ) ?_
  refine pwp_seq <| pwp_seq <| kx [(20, (vb false))] [] (zE (oCl l_known27) <| zE oNt <| zZ) ?_
  refine pwp_cond (b := false) (by kernel_rfl) (fun h => by cases h) (fun _ => ?_)
  refine pwp_skip <| pwp_seq <| pwp_seq <| kx [(26, (vb true))] [] (zR (oLa sh32) <| zR (oLa sh32) <| zR (oLa sh32) <| zE (oBs el49 ze32 zo32) <| zE (oCl (tk_nil (l_briefF30_0 f f0 f1 f2 f3 f4 f5 f6 f7 f8 hf0 hf1 hf2 hf3 hf4 hf5 hf6 hf7 hf8 g g0 g1 g2 g3 g4 g5 g6 g7 g8 hg0 hg1 hg2 hg3 hg4 hg5 hg6 hg7 hg8 h h0 h1 h2 h3 h4 h5 h6 h7 h8 hh0 hh1 hh2 hh3 hh4 hh5 hh6 hh7 hh8 hbx) (.same (.cut 44 6 .nil)))) <| zE oNt <| zZ) ?_
  refine pwp_cond (b := true) (by kernel_rfl) (fun _ => ?_) (fun h => by cases h)
  refine pwp_seq <| kx [(6, (vb true))] [] (zM <| zZ) ?_
  refine pwp_ret ⟨_, (.tmp (d := (.val (.bool (true)))) rfl .nil), ?_⟩
  rfl
theorem w_grpN1 (f : A9 RInt) (f0 f1 f2 f3 f4 f5 f6 f7 f8 : Int) (hf0 : IOk f.a0 f0 140737488355328) (hf1 : IOk f.a1 f1 140737488355328) (hf2 : IOk f.a2 f2 140737488355328) (hf3 : IOk f.a3 f3 140737488355328) (hf4 : IOk f.a4 f4 140737488355328) (hf5 : IOk f.a5 f5 140737488355328) (hf6 : IOk f.a6 f6 140737488355328) (hf7 : IOk f.a7 f7 140737488355328) (hf8 : IOk f.a8 f8 140737488355328) (g : A9 RInt) (g0 g1 g2 g3 g4 g5 g6 g7 g8 : Int) (hg0 : IOk g.a0 g0 140737488355328) (hg1 : IOk g.a1 g1 140737488355328) (hg2 : IOk g.a2 g2 140737488355328) (hg3 : IOk g.a3 g3 140737488355328) (hg4 : IOk g.a4 g4 140737488355328) (hg5 : IOk g.a5 g5 140737488355328) (hg6 : IOk g.a6 g6 140737488355328) (hg7 : IOk g.a7 g7 140737488355328) (hg8 : IOk g.a8 g8 140737488355328) (h : A9 RInt) (h0 h1 h2 h3 h4 h5 h6 h7 h8 : Int) (hh0 : IOk h.a0 h0 140737488355328) (hh1 : IOk h.a1 h1 140737488355328) (hh2 : IOk h.a2 h2 140737488355328) (hh3 : IOk h.a3 h3 140737488355328) (hh4 : IOk h.a4 h4 140737488355328) (hh5 : IOk h.a5 h5 140737488355328) (hh6 : IOk h.a6 h6 140737488355328) (hh7 : IOk h.a7 h7 140737488355328) (hh8 : IOk h.a8 h8 140737488355328) (hb0 : List.all [f.a0, f.a1, f.a2, f.a3, f.a4, f.a5, f.a6, f.a7, f.a8] short4 = true) (hbx : List.all [g.a0, g.a1, g.a2, g.a3, g.a4, g.a5, g.a6, g.a7, g.a8] short4 = false) : Takes Tryz.prog 6 [(encA31 f), (encA31 g), (encA31 h)] (.val (.bool (true))) := by
  refine fn_intro Tryz.func6 rfl cb6 rfl ?_
  show PWp _ _ _ _ ⟨[(0, (.d (encA31 f))), (1, (.d (encA31 g))), (2, (.d (encA31 h)))], []⟩
  refine pwp_seq <| kx [(3, (.ref 0 0)), (4, (.ref 1 0)), (5, (.ref 2 0))] [(0, some (bx (encA31 f))), (1, some (bx (encA31 g))), (2, some (bx (encA31 h)))] (zN (oBx 0) <| zN (oBx 1) <| zN (oBx 2) <| zM <| zZ) ?_
  refine pwp_seq <| pwp_seq <| kx [(20, (vb false))] [] (zE (oCl l_known27) <| zE oNt <| zZ) ?_
  refine pwp_cond (b := false) (by kernel_rfl) (fun h => by cases h) (fun _ => ?_)
  refine pwp_skip <| pwp_seq <| pwp_seq <| kx [(26, (vb true))] [] (zR (oLa sh32) <| zR (oLa sh32) <| zR (oLa sh32) <| zE (oBs el49 ze32 zo32) <| zE (oCl (tk_nil (l_briefF30_1 f f0 f1 f2 f3 f4 f5 f6 f7 f8 hf0 hf1 hf2 hf3 hf4 hf5 hf6 hf7 hf8 g g0 g1 g2 g3 g4 g5 g6 g7 g8 hg0 hg1 hg2 hg3 hg4 hg5 hg6 hg7 hg8 h h0 h1 h2 h3 h4 h5 h6 h7 h8 hh0 hh1 hh2 hh3 hh4 hh5 hh6 hh7 hh8 hb0 hbx) (.same (.cut 44 6 .nil)))) <| zE oNt <| zZ) ?_
  refine pwp_cond (b := true) (by kernel_rfl) (fun _ => ?_) (fun h => by cases h)
  refine pwp_seq <| kx [(6, (vb true))] [] (zM <| zZ) ?_
  refine pwp_ret ⟨_, (.tmp (d := (.val (.bool (true)))) rfl .nil), ?_⟩
  rfl
theorem w_grpN2 (f : A9 RInt) (f0 f1 f2 f3 f4 f5 f6 f7 f8 : Int) (hf0 : IOk f.a0 f0 140737488355328) (hf1 : IOk f.a1 f1 140737488355328) (hf2 : IOk f.a2 f2 140737488355328) (hf3 : IOk f.a3 f3 140737488355328) (hf4 : IOk f.a4 f4 140737488355328) (hf5 : IOk f.a5 f5 140737488355328) (hf6 : IOk f.a6 f6 140737488355328) (hf7 : IOk f.a7 f7 140737488355328) (hf8 : IOk f.a8 f8 140737488355328) (g : A9 RInt) (g0 g1 g2 g3 g4 g5 g6 g7 g8 : Int) (hg0 : IOk g.a0 g0 140737488355328) (hg1 : IOk g.a1 g1 140737488355328) (hg2 : IOk g.a2 g2 140737488355328) (hg3 : IOk g.a3 g3 140737488355328) (hg4 : IOk g.a4 g4 140737488355328) (hg5 : IOk g.a5 g5 140737488355328) (hg6 : IOk g.a6 g6 140737488355328) (hg7 : IOk g.a7 g7 140737488355328) (hg8 : IOk g.a8 g8 140737488355328) (h : A9 RInt) (h0 h1 h2 h3 h4 h5 h6 h7 h8 : Int) (hh0 : IOk h.a0 h0 140737488355328) (hh1 : IOk h.a1 h1 140737488355328) (hh2 : IOk h.a2 h2 140737488355328) (hh3 : IOk h.a3 h3 140737488355328) (hh4 : IOk h.a4 h4 140737488355328) (hh5 : IOk h.a5 h5 140737488355328) (hh6 : IOk h.a6 h6 140737488355328) (hh7 : IOk h.a7 h7 140737488355328) (hh8 : IOk h.a8 h8 140737488355328) (hb0 : List.all [f.a0, f.a1, f.a2, f.a3, f.a4, f.a5, f.a6, f.a7, f.a8] short4 = true) (hb1 : List.all [g.a0, g.a1, g.a2, g.a3, g.a4, g.a5, g.a6, g.a7, g.a8] short4 = true) (hbx : List.all [h.a0, h.a1, h.a2, h.a3, h.a4, h.a5, h.a6, h.a7, h.a8] short4 = false) : Takes Tryz.prog 6 [(encA31 f), (encA31 g), (encA31 h)] (.val (.bool (true))) := by
  refine fn_intro Tryz.func6 rfl cb6 rfl ?_
  show PWp _ _ _ _ ⟨[(0, (.d (encA31 f))), (1, (.d (encA31 g))), (2, (.d (encA31 h)))], []⟩
  refine pwp_seq <| kx [(3, (.ref 0 0)), (4, (.ref 1 0)), (5, (.ref 2 0))] [(0, some (bx (encA31 f))), (1, some (bx (encA31 g))), (2, some (bx (encA31 h)))] (zN (oBx 0) <| zN (oBx 1) <| zN (oBx 2) <| zM <| zZ) ?_
  refine pwp_seq <| pwp_seq <| kx [(20, (vb false))] [] (zE (oCl l_known27) <| zE oNt <| zZ) ?_
  refine pwp_cond (b := false) (by kernel_rfl) (fun h => by cases h) (fun _ => ?_)
  refine pwp_skip <| pwp_seq <| pwp_seq <| kx [(26, (vb true))] [] (zR (oLa sh32) <| zR (oLa sh32) <| zR (oLa sh32) <| zE (oBs el49 ze32 zo32) <| zE (oCl (tk_nil (l_briefF30_2 f f0 f1 f2 f3 f4 f5 f6 f7 f8 hf0 hf1 hf2 hf3 hf4 hf5 hf6 hf7 hf8 g g0 g1 g2 g3 g4 g5 g6 g7 g8 hg0 hg1 hg2 hg3 hg4 hg5 hg6 hg7 hg8 h h0 h1 h2 h3 h4 h5 h6 h7 h8 hh0 hh1 hh2 hh3 hh4 hh5 hh6 hh7 hh8 hb0 hb1 hbx) (.same (.cut 44 6 .nil)))) <| zE oNt <| zZ) ?_
  refine pwp_cond (b := true) (by kernel_rfl) (fun _ => ?_) (fun h => by cases h)
  refine pwp_seq <| kx [(6, (vb true))] [] (zM <| zZ) ?_
  refine pwp_ret ⟨_, (.tmp (d := (.val (.bool (true)))) rfl .nil), ?_⟩
  rfl
theorem w_grpE (f : A9 RInt) (f0 f1 f2 f3 f4 f5 f6 f7 f8 : Int) (hf0 : IOk f.a0 f0 4) (hf1 : IOk f.a1 f1 4) (hf2 : IOk f.a2 f2 4) (hf3 : IOk f.a3 f3 4) (hf4 : IOk f.a4 f4 4) (hf5 : IOk f.a5 f5 4) (hf6 : IOk f.a6 f6 4) (hf7 : IOk f.a7 f7 4) (hf8 : IOk f.a8 f8 4) (g : A9 RInt) (g0 g1 g2 g3 g4 g5 g6 g7 g8 : Int) (hg0 : IOk g.a0 g0 4) (hg1 : IOk g.a1 g1 4) (hg2 : IOk g.a2 g2 4) (hg3 : IOk g.a3 g3 4) (hg4 : IOk g.a4 g4 4) (hg5 : IOk g.a5 g5 4) (hg6 : IOk g.a6 g6 4) (hg7 : IOk g.a7 g7 4) (hg8 : IOk g.a8 g8 4) (h : A9 RInt) (h0 h1 h2 h3 h4 h5 h6 h7 h8 : Int) (hh0 : IOk h.a0 h0 4) (hh1 : IOk h.a1 h1 4) (hh2 : IOk h.a2 h2 4) (hh3 : IOk h.a3 h3 4) (hh4 : IOk h.a4 h4 4) (hh5 : IOk h.a5 h5 4) (hh6 : IOk h.a6 h6 4) (hh7 : IOk h.a7 h7 4) (hh8 : IOk h.a8 h8 4) (hb0 : List.all [f.a0, f.a1, f.a2, f.a3, f.a4, f.a5, f.a6, f.a7, f.a8] short4 = true) (hb1 : List.all [g.a0, g.a1, g.a2, g.a3, g.a4, g.a5, g.a6, g.a7, g.a8] short4 = true) (hb2 : List.all [h.a0, h.a1, h.a2, h.a3, h.a4, h.a5, h.a6, h.a7, h.a8] short4 = true) (hvf : valH [f.a0, f.a1, f.a2, f.a3, f.a4, f.a5, f.a6, f.a7, f.a8] (det3 f0 f1 f2 f3 f4 f5 f6 f7 f8) = false) : Takes Tryz.prog 6 [(encA31 f), (encA31 g), (encA31 h)] (.val (.bool (true))) := by
  let y2 := [(RInt.mk false []), (RInt.mk false []), (RInt.mk false []), (RInt.mk false []), (RInt.mk false []), (RInt.mk false []), (RInt.mk false []), (RInt.mk false []), (RInt.mk false [])]
  let y1 := (bx (encA31 (A9.mk (RInt.mk false []) (RInt.mk false []) (RInt.mk false []) (RInt.mk false []) (RInt.mk false []) (RInt.mk false []) (RInt.mk false []) (RInt.mk false []) (RInt.mk false []))))
  refine fn_intro Tryz.func6 rfl cb6 rfl ?_
  show PWp _ _ _ _ ⟨[(0, (.d (encA31 f))), (1, (.d (encA31 g))), (2, (.d (encA31 h)))], []⟩
  refine pwp_seq <| kx [(3, (.ref 0 0)), (4, (.ref 1 0)), (5, (.ref 2 0))] [(0, some (bx (encA31 f))), (1, some (bx (encA31 g))), (2, some (bx (encA31 h)))] (zN (oBx 0) <| zN (oBx 1) <| zN (oBx 2) <| zM <| zZ) ?_
  refine pwp_seq <| pwp_seq <| kx [(20, (vb false))] [] (zE (oCl l_known27) <| zE oNt <| zZ) ?_
  refine pwp_cond (b := false) (by kernel_rfl) (fun h => by cases h) (fun _ => ?_)
  refine pwp_skip <| pwp_seq <| pwp_seq <| kx [(26, (vb false))] [] (zR (oLa sh32) <| zR (oLa sh32) <| zR (oLa sh32) <| zE (oBs el49 ze32 zo32) <| zE (oCl (tk_nil (l_briefT30 f f0 f1 f2 f3 f4 f5 f6 f7 f8 (iu hf0) (iu hf1) (iu hf2) (iu hf3) (iu hf4) (iu hf5) (iu hf6) (iu hf7) (iu hf8) g g0 g1 g2 g3 g4 g5 g6 g7 g8 (iu hg0) (iu hg1) (iu hg2) (iu hg3) (iu hg4) (iu hg5) (iu hg6) (iu hg7) (iu hg8) h h0 h1 h2 h3 h4 h5 h6 h7 h8 (iu hh0) (iu hh1) (iu hh2) (iu hh3) (iu hh4) (iu hh5) (iu hh6) (iu hh7) (iu hh8) hb0 hb1 hb2) (.same (.cut 44 6 .nil)))) <| zE oNt <| zZ) ?_
  refine pwp_cond (b := false) (by kernel_rfl) (fun h => by cases h) (fun _ => ?_)
  refine pwp_skip <| pwp_seq <| kx [(7, (.ref 3 0)), (8, (vi 1))] [(3, some y1)] (zR (oLa sh32) <| zR (oLa sh32) <| zE (oCl (d_compE f f0 f1 f2 f3 f4 f5 f6 f7 f8 (iu hf0) (iu hf1) (iu hf2) (iu hf3) (iu hf4) (iu hf5) (iu hf6) (iu hf7) (iu hf8) g g0 g1 g2 g3 g4 g5 g6 g7 g8 (iu hg0) (iu hg1) (iu hg2) (iu hg3) (iu hg4) (iu hg5) (iu hg6) (iu hg7) (iu hg8) (by rw [hvf]; rfl))) <| zM <| zE oEx <| zE oEx <| zN (oAl 3 ze32 zo32) <| zT (oSt sh32) <| zM <| zZ) ?_
  refine pwp_seq <| kx [(9, (.ref 4 0)), (10, (vi 1))] [(4, some y1)] (zR (oLa sh32) <| zE (oCl (d_invE f f0 f1 f2 f3 f4 f5 f6 f7 f8 (iu hf0) (iu hf1) (iu hf2) (iu hf3) (iu hf4) (iu hf5) (iu hf6) (iu hf7) (iu hf8) hvf)) <| zM <| zE oEx <| zE oEx <| zN (oAl 4 ze32 zo32) <| zT (oSt sh32) <| zM <| zZ) ?_
  refine pwp_seq <| pwp_seq <| kx [(40, (vb true))] [] (zR (oLa sh32) <| zE (oBk false (oCl (l_valid f f0 f1 f2 f3 f4 f5 f6 f7 f8 (iu hf0) (iu hf1) (iu hf2) (iu hf3) (iu hf4) (iu hf5) (iu hf6) (iu hf7) (iu hf8))) (by exact hvf)) <| zE oNt <| zZ) ?_
  refine pwp_cond (b := true) (by kernel_rfl) (fun _ => ?_) (fun h => by cases h)
  refine pwp_seq <| kx [(6, (vb true))] [] (zM <| zE oEq <| zM <| zM <| zE oEq <| zE oPt <| zM <| zE (e_slv (by exact rfl) ar32 (by exact rfl) (by kernel_rfl) (by kernel_rfl)) <| zR ⟨y1, e_clv (es := List.map encI y2) (l_empty 1000000 y2 [0, 0, 0, 0, 0, 0, 0, 0, 0] (.cons (iu iok_zero) (.cons (iu iok_zero) (.cons (iu iok_zero) (.cons (iu iok_zero) (.cons (iu iok_zero) (.cons (iu iok_zero) (.cons (iu iok_zero) (.cons (iu iok_zero) (.cons (iu iok_zero) .nil))))))))) (Nat.le_of_ble_eq_true rfl) (allnil_of rfl)) (by exact rfl) (by kernel_rfl) (by exact rfl) (.v .nil) (pubs_cells _ _ (fun _ => rfl)) (by kernel_rfl) (by kernel_rfl) (.val _), by kernel_rfl⟩ <| zE oPt <| zM <| zE (e_slv (by exact rfl) ar32 (by exact rfl) (by kernel_rfl) (by kernel_rfl)) <| zR ⟨y1, e_clv (es := List.map encI y2) (l_empty 1000000 y2 [0, 0, 0, 0, 0, 0, 0, 0, 0] (.cons (iu iok_zero) (.cons (iu iok_zero) (.cons (iu iok_zero) (.cons (iu iok_zero) (.cons (iu iok_zero) (.cons (iu iok_zero) (.cons (iu iok_zero) (.cons (iu iok_zero) (.cons (iu iok_zero) .nil))))))))) (Nat.le_of_ble_eq_true rfl) (allnil_of rfl)) (by exact rfl) (by kernel_rfl) (by exact rfl) (.v .nil) (pubs_cells _ _ (fun _ => rfl)) (by kernel_rfl) (by kernel_rfl) (.val _), by kernel_rfl⟩ <| zE oPt <| zM <| zZ) ?_
  refine pwp_ret ⟨_, (.tmp (d := (.val (.bool (true)))) rfl .nil), ?_⟩
  rfl
theorem w_grpG (f : A9 RInt) (f0 f1 f2 f3 f4 f5 f6 f7 f8 : Int) (hf0 : IOk f.a0 f0 4) (hf1 : IOk f.a1 f1 4) (hf2 : IOk f.a2 f2 4) (hf3 : IOk f.a3 f3 4) (hf4 : IOk f.a4 f4 4) (hf5 : IOk f.a5 f5 4) (hf6 : IOk f.a6 f6 4) (hf7 : IOk f.a7 f7 4) (hf8 : IOk f.a8 f8 4) (g : A9 RInt) (g0 g1 g2 g3 g4 g5 g6 g7 g8 : Int) (hg0 : IOk g.a0 g0 4) (hg1 : IOk g.a1 g1 4) (hg2 : IOk g.a2 g2 4) (hg3 : IOk g.a3 g3 4) (hg4 : IOk g.a4 g4 4) (hg5 : IOk g.a5 g5 4) (hg6 : IOk g.a6 g6 4) (hg7 : IOk g.a7 g7 4) (hg8 : IOk g.a8 g8 4) (h : A9 RInt) (h0 h1 h2 h3 h4 h5 h6 h7 h8 : Int) (hh0 : IOk h.a0 h0 4) (hh1 : IOk h.a1 h1 4) (hh2 : IOk h.a2 h2 4) (hh3 : IOk h.a3 h3 4) (hh4 : IOk h.a4 h4 4) (hh5 : IOk h.a5 h5 4) (hh6 : IOk h.a6 h6 4) (hh7 : IOk h.a7 h7 4) (hh8 : IOk h.a8 h8 4) (b0 b1 b2 b3 b4 b5 b6 b7 b8 : Int) (hb : redL [((f4 * f8) - (f5 * f7)), ((f7 * f2) - (f8 * f1)), ((f1 * f5) - (f2 * f4)), ((f5 * f6) - (f3 * f8)), ((f8 * f0) - (f6 * f2)), ((f2 * f3) - (f0 * f5)), ((f3 * f7) - (f4 * f6)), ((f6 * f1) - (f7 * f0)), ((f0 * f4) - (f1 * f3))] = [b0, b1, b2, b3, b4, b5, b6, b7, b8]) (hb0 : List.all [f.a0, f.a1, f.a2, f.a3, f.a4, f.a5, f.a6, f.a7, f.a8] short4 = true) (hb1 : List.all [g.a0, g.a1, g.a2, g.a3, g.a4, g.a5, g.a6, g.a7, g.a8] short4 = true) (hb2 : List.all [h.a0, h.a1, h.a2, h.a3, h.a4, h.a5, h.a6, h.a7, h.a8] short4 = true) (hvf : valH [f.a0, f.a1, f.a2, f.a3, f.a4, f.a5, f.a6, f.a7, f.a8] (det3 f0 f1 f2 f3 f4 f5 f6 f7 f8) = true) (hvg : valH [g.a0, g.a1, g.a2, g.a3, g.a4, g.a5, g.a6, g.a7, g.a8] (det3 g0 g1 g2 g3 g4 g5 g6 g7 g8) = false) (hnf : sgnL [((f4 * f8) - (f5 * f7)), ((f7 * f2) - (f8 * f1)), ((f1 * f5) - (f2 * f4)), ((f5 * f6) - (f3 * f8)), ((f8 * f0) - (f6 * f2)), ((f2 * f3) - (f0 * f5)), ((f3 * f7) - (f4 * f6)), ((f6 * f1) - (f7 * f0)), ((f0 * f4) - (f1 * f3))] ≠ 0) (hdf : signI (det3 ((f4 * f8) - (f5 * f7)) ((f7 * f2) - (f8 * f1)) ((f1 * f5) - (f2 * f4)) ((f5 * f6) - (f3 * f8)) ((f8 * f0) - (f6 * f2)) ((f2 * f3) - (f0 * f5)) ((f3 * f7) - (f4 * f6)) ((f6 * f1) - (f7 * f0)) ((f0 * f4) - (f1 * f3))) ≠ 0) : Takes Tryz.prog 6 [(encA31 f), (encA31 g), (encA31 h)] (.val (.bool (true))) := by
  let y3 := (A9.mk (ofZ b0) (ofZ b1) (ofZ b2) (ofZ b3) (ofZ b4) (ofZ b5) (ofZ b6) (ofZ b7) (ofZ b8))
  let y2 := [(RInt.mk false []), (RInt.mk false []), (RInt.mk false []), (RInt.mk false []), (RInt.mk false []), (RInt.mk false []), (RInt.mk false []), (RInt.mk false []), (RInt.mk false [])]
  let y1 := (bx (encA31 (A9.mk (RInt.mk false []) (RInt.mk false []) (RInt.mk false []) (RInt.mk false []) (RInt.mk false []) (RInt.mk false []) (RInt.mk false []) (RInt.mk false []) (RInt.mk false []))))
  refine fn_intro Tryz.func6 rfl cb6 rfl ?_
  show PWp _ _ _ _ ⟨[(0, (.d (encA31 f))), (1, (.d (encA31 g))), (2, (.d (encA31 h)))], []⟩
  refine pwp_seq <| kx [(3, (.ref 0 0)), (4, (.ref 1 0)), (5, (.ref 2 0))] [(0, some (bx (encA31 f))), (1, some (bx (encA31 g))), (2, some (bx (encA31 h)))] (zN (oBx 0) <| zN (oBx 1) <| zN (oBx 2) <| zM <| zZ) ?_
  refine pwp_seq <| pwp_seq <| kx [(20, (vb false))] [] (zE (oCl l_known27) <| zE oNt <| zZ) ?_
  refine pwp_cond (b := false) (by kernel_rfl) (fun h => by cases h) (fun _ => ?_)
  refine pwp_skip <| pwp_seq <| pwp_seq <| kx [(26, (vb false))] [] (zR (oLa sh32) <| zR (oLa sh32) <| zR (oLa sh32) <| zE (oBs el49 ze32 zo32) <| zE (oCl (tk_nil (l_briefT30 f f0 f1 f2 f3 f4 f5 f6 f7 f8 (iu hf0) (iu hf1) (iu hf2) (iu hf3) (iu hf4) (iu hf5) (iu hf6) (iu hf7) (iu hf8) g g0 g1 g2 g3 g4 g5 g6 g7 g8 (iu hg0) (iu hg1) (iu hg2) (iu hg3) (iu hg4) (iu hg5) (iu hg6) (iu hg7) (iu hg8) h h0 h1 h2 h3 h4 h5 h6 h7 h8 (iu hh0) (iu hh1) (iu hh2) (iu hh3) (iu hh4) (iu hh5) (iu hh6) (iu hh7) (iu hh8) hb0 hb1 hb2) (.same (.cut 44 6 .nil)))) <| zE oNt <| zZ) ?_
  refine pwp_cond (b := false) (by kernel_rfl) (fun h => by cases h) (fun _ => ?_)
  refine pwp_skip <| pwp_seq <| kx [(7, (.ref 3 0)), (8, (vi 1))] [(3, some y1)] (zR (oLa sh32) <| zR (oLa sh32) <| zE (oCl (d_compE f f0 f1 f2 f3 f4 f5 f6 f7 f8 (iu hf0) (iu hf1) (iu hf2) (iu hf3) (iu hf4) (iu hf5) (iu hf6) (iu hf7) (iu hf8) g g0 g1 g2 g3 g4 g5 g6 g7 g8 (iu hg0) (iu hg1) (iu hg2) (iu hg3) (iu hg4) (iu hg5) (iu hg6) (iu hg7) (iu hg8) (by rw [hvg]; exact Bool.and_false _))) <| zM <| zE oEx <| zE oEx <| zN (oAl 3 ze32 zo32) <| zT (oSt sh32) <| zM <| zZ) ?_
  refine pwp_seq ?_
  have bn1 : ∀ c ∈ [b0, b1, b2, b3, b4, b5, b6, b7, b8], IOk (ofZ c) c 9 := red_iok (n := 9) (.cons (iok_sub (k := 9) (iok_mul (k := 8) hf4 hf8 (by decide)) (iok_mul (k := 8) hf5 hf7 (by decide)) (by decide)) (.cons (iok_sub (k := 9) (iok_mul (k := 8) hf7 hf2 (by decide)) (iok_mul (k := 8) hf8 hf1 (by decide)) (by decide)) (.cons (iok_sub (k := 9) (iok_mul (k := 8) hf1 hf5 (by decide)) (iok_mul (k := 8) hf2 hf4 (by decide)) (by decide)) (.cons (iok_sub (k := 9) (iok_mul (k := 8) hf5 hf6 (by decide)) (iok_mul (k := 8) hf3 hf8 (by decide)) (by decide)) (.cons (iok_sub (k := 9) (iok_mul (k := 8) hf8 hf0 (by decide)) (iok_mul (k := 8) hf6 hf2 (by decide)) (by decide)) (.cons (iok_sub (k := 9) (iok_mul (k := 8) hf2 hf3 (by decide)) (iok_mul (k := 8) hf0 hf5 (by decide)) (by decide)) (.cons (iok_sub (k := 9) (iok_mul (k := 8) hf3 hf7 (by decide)) (iok_mul (k := 8) hf4 hf6 (by decide)) (by decide)) (.cons (iok_sub (k := 9) (iok_mul (k := 8) hf6 hf1 (by decide)) (iok_mul (k := 8) hf7 hf0 (by decide)) (by decide)) (.cons (iok_sub (k := 9) (iok_mul (k := 8) hf0 hf4 (by decide)) (iok_mul (k := 8) hf1 hf3 (by decide)) (by decide)) .nil))))))))) hb
  refine kx [(9, (.ref 4 0)), (10, (vi 0))] [(4, some (bx (encA31 y3)))] (zR (oLa sh32) <| zE (oCl (d_inv f f0 f1 f2 f3 f4 f5 f6 f7 f8 (iu hf0) (iu hf1) (iu hf2) (iu hf3) (iu hf4) (iu hf5) (iu hf6) (iu hf7) (iu hf8) b0 b1 b2 b3 b4 b5 b6 b7 b8 hb hvf hnf)) <| zM <| zE oEx <| zE oEx <| zN (oAl 4 ze32 zo32) <| zT (oSt sh32) <| zM <| zZ) ?_
  refine pwp_seq <| pwp_seq <| kx [(40, (vb false))] [] (zR (oLa sh32) <| zE (oBk true (oCl (l_valid f f0 f1 f2 f3 f4 f5 f6 f7 f8 (iu hf0) (iu hf1) (iu hf2) (iu hf3) (iu hf4) (iu hf5) (iu hf6) (iu hf7) (iu hf8))) (by exact hvf)) <| zE oNt <| zZ) ?_
  refine pwp_cond (b := false) (by kernel_rfl) (fun h => by cases h) (fun _ => ?_)
  refine pwp_skip <| pwp_seq <| pwp_seq <| kd [(63, (vb false))] [] mo (wM <| wE oNe <| wM <| wR (oLa sh32) <| wR (oLa sh32) <| wE (oCl (l_inverse f f0 f1 f2 f3 f4 f5 f6 f7 f8 (iu hf0) (iu hf1) (iu hf2) (iu hf3) (iu hf4) (iu hf5) (iu hf6) (iu hf7) (iu hf8) b0 b1 b2 b3 b4 b5 b6 b7 b8 hb hnf hdf)) <| wE (oCl (l_sameT9 y3 b0 b1 b2 b3 b4 b5 b6 b7 b8 (iok_up (bn1 b0 (by simp)) (by decide)) (iok_up (bn1 b1 (by simp)) (by decide)) (iok_up (bn1 b2 (by simp)) (by decide)) (iok_up (bn1 b3 (by simp)) (by decide)) (iok_up (bn1 b4 (by simp)) (by decide)) (iok_up (bn1 b5 (by simp)) (by decide)) (iok_up (bn1 b6 (by simp)) (by decide)) (iok_up (bn1 b7 (by simp)) (by decide)) (iok_up (bn1 b8 (by simp)) (by decide)) y3 b0 b1 b2 b3 b4 b5 b6 b7 b8 (iok_up (bn1 b0 (by simp)) (by decide)) (iok_up (bn1 b1 (by simp)) (by decide)) (iok_up (bn1 b2 (by simp)) (by decide)) (iok_up (bn1 b3 (by simp)) (by decide)) (iok_up (bn1 b4 (by simp)) (by decide)) (iok_up (bn1 b5 (by simp)) (by decide)) (iok_up (bn1 b6 (by simp)) (by decide)) (iok_up (bn1 b7 (by simp)) (by decide)) (iok_up (bn1 b8 (by simp)) (by decide)) (validI_ofZ _) (validI_ofZ _) (validI_ofZ _) (validI_ofZ _) (validI_ofZ _) (validI_ofZ _) (validI_ofZ _) (validI_ofZ _) (validI_ofZ _) (sameI_self _) (sameI_self _) (sameI_self _) (sameI_self _) (sameI_self _) (sameI_self _) (sameI_self _) (sameI_self _) (sameI_self _))) <| wE oNt <| wE oPf <| wZ) ?_
  refine pwp_cond (b := false) (by kernel_rfl) (fun h => by cases h) (fun _ => ?_)
  refine pwp_skip <| pwp_seq <| pwp_seq <| kx [(66, (vb true))] [] (zR (oLa sh32) <| zE (oBk false (oCl (l_valid g g0 g1 g2 g3 g4 g5 g6 g7 g8 (iu hg0) (iu hg1) (iu hg2) (iu hg3) (iu hg4) (iu hg5) (iu hg6) (iu hg7) (iu hg8))) (by exact hvg)) <| zE oNt <| zZ) ?_
  refine pwp_cond (b := true) (by kernel_rfl) (fun _ => ?_) (fun h => by cases h)
  refine pwp_seq <| kx [(6, (vb true))] [] (zM <| zE oEq <| zM <| zE (e_slv (by exact rfl) ar32 (by exact rfl) (by kernel_rfl) (by kernel_rfl)) <| zR ⟨y1, e_clv (es := List.map encI y2) (l_empty 1000000 y2 [0, 0, 0, 0, 0, 0, 0, 0, 0] (.cons (iu iok_zero) (.cons (iu iok_zero) (.cons (iu iok_zero) (.cons (iu iok_zero) (.cons (iu iok_zero) (.cons (iu iok_zero) (.cons (iu iok_zero) (.cons (iu iok_zero) (.cons (iu iok_zero) .nil))))))))) (Nat.le_of_ble_eq_true rfl) (allnil_of rfl)) (by exact rfl) (by kernel_rfl) (by exact rfl) (.v .nil) (pubs_cells _ _ (fun _ => rfl)) (by kernel_rfl) (by kernel_rfl) (.val _), by kernel_rfl⟩ <| zE oPt <| zM <| zZ) ?_
  refine pwp_ret ⟨_, (.tmp (d := (.val (.bool (true)))) rfl .nil), ?_⟩
  rfl
theorem w_grpH (f : A9 RInt) (f0 f1 f2 f3 f4 f5 f6 f7 f8 : Int) (hf0 : IOk f.a0 f0 4) (hf1 : IOk f.a1 f1 4) (hf2 : IOk f.a2 f2 4) (hf3 : IOk f.a3 f3 4) (hf4 : IOk f.a4 f4 4) (hf5 : IOk f.a5 f5 4) (hf6 : IOk f.a6 f6 4) (hf7 : IOk f.a7 f7 4) (hf8 : IOk f.a8 f8 4) (g : A9 RInt) (g0 g1 g2 g3 g4 g5 g6 g7 g8 : Int) (hg0 : IOk g.a0 g0 4) (hg1 : IOk g.a1 g1 4) (hg2 : IOk g.a2 g2 4) (hg3 : IOk g.a3 g3 4) (hg4 : IOk g.a4 g4 4) (hg5 : IOk g.a5 g5 4) (hg6 : IOk g.a6 g6 4) (hg7 : IOk g.a7 g7 4) (hg8 : IOk g.a8 g8 4) (h : A9 RInt) (h0 h1 h2 h3 h4 h5 h6 h7 h8 : Int) (hh0 : IOk h.a0 h0 4) (hh1 : IOk h.a1 h1 4) (hh2 : IOk h.a2 h2 4) (hh3 : IOk h.a3 h3 4) (hh4 : IOk h.a4 h4 4) (hh5 : IOk h.a5 h5 4) (hh6 : IOk h.a6 h6 4) (hh7 : IOk h.a7 h7 4) (hh8 : IOk h.a8 h8 4) (b0 b1 b2 b3 b4 b5 b6 b7 b8 : Int) (hb : redL [((f4 * f8) - (f5 * f7)), ((f7 * f2) - (f8 * f1)), ((f1 * f5) - (f2 * f4)), ((f5 * f6) - (f3 * f8)), ((f8 * f0) - (f6 * f2)), ((f2 * f3) - (f0 * f5)), ((f3 * f7) - (f4 * f6)), ((f6 * f1) - (f7 * f0)), ((f0 * f4) - (f1 * f3))] = [b0, b1, b2, b3, b4, b5, b6, b7, b8]) (a0 a1 a2 a3 a4 a5 a6 a7 a8 : Int) (ha : redL [(((f0 * g0) + (f1 * g3)) + (f2 * g6)), (((f0 * g1) + (f1 * g4)) + (f2 * g7)), (((f0 * g2) + (f1 * g5)) + (f2 * g8)), (((f3 * g0) + (f4 * g3)) + (f5 * g6)), (((f3 * g1) + (f4 * g4)) + (f5 * g7)), (((f3 * g2) + (f4 * g5)) + (f5 * g8)), (((f6 * g0) + (f7 * g3)) + (f8 * g6)), (((f6 * g1) + (f7 * g4)) + (f8 * g7)), (((f6 * g2) + (f7 * g5)) + (f8 * g8))] = [a0, a1, a2, a3, a4, a5, a6, a7, a8]) (hb0 : List.all [f.a0, f.a1, f.a2, f.a3, f.a4, f.a5, f.a6, f.a7, f.a8] short4 = true) (hb1 : List.all [g.a0, g.a1, g.a2, g.a3, g.a4, g.a5, g.a6, g.a7, g.a8] short4 = true) (hb2 : List.all [h.a0, h.a1, h.a2, h.a3, h.a4, h.a5, h.a6, h.a7, h.a8] short4 = true) (hvf : valH [f.a0, f.a1, f.a2, f.a3, f.a4, f.a5, f.a6, f.a7, f.a8] (det3 f0 f1 f2 f3 f4 f5 f6 f7 f8) = true) (hvg : valH [g.a0, g.a1, g.a2, g.a3, g.a4, g.a5, g.a6, g.a7, g.a8] (det3 g0 g1 g2 g3 g4 g5 g6 g7 g8) = true) (hvh : valH [h.a0, h.a1, h.a2, h.a3, h.a4, h.a5, h.a6, h.a7, h.a8] (det3 h0 h1 h2 h3 h4 h5 h6 h7 h8) = false) (hnf : sgnL [((f4 * f8) - (f5 * f7)), ((f7 * f2) - (f8 * f1)), ((f1 * f5) - (f2 * f4)), ((f5 * f6) - (f3 * f8)), ((f8 * f0) - (f6 * f2)), ((f2 * f3) - (f0 * f5)), ((f3 * f7) - (f4 * f6)), ((f6 * f1) - (f7 * f0)), ((f0 * f4) - (f1 * f3))] ≠ 0) (hdf : signI (det3 ((f4 * f8) - (f5 * f7)) ((f7 * f2) - (f8 * f1)) ((f1 * f5) - (f2 * f4)) ((f5 * f6) - (f3 * f8)) ((f8 * f0) - (f6 * f2)) ((f2 * f3) - (f0 * f5)) ((f3 * f7) - (f4 * f6)) ((f6 * f1) - (f7 * f0)) ((f0 * f4) - (f1 * f3))) ≠ 0) (hnp : sgnL [(((f0 * g0) + (f1 * g3)) + (f2 * g6)), (((f0 * g1) + (f1 * g4)) + (f2 * g7)), (((f0 * g2) + (f1 * g5)) + (f2 * g8)), (((f3 * g0) + (f4 * g3)) + (f5 * g6)), (((f3 * g1) + (f4 * g4)) + (f5 * g7)), (((f3 * g2) + (f4 * g5)) + (f5 * g8)), (((f6 * g0) + (f7 * g3)) + (f8 * g6)), (((f6 * g1) + (f7 * g4)) + (f8 * g7)), (((f6 * g2) + (f7 * g5)) + (f8 * g8))] ≠ 0) (hdp : signI (det3 (((f0 * g0) + (f1 * g3)) + (f2 * g6)) (((f0 * g1) + (f1 * g4)) + (f2 * g7)) (((f0 * g2) + (f1 * g5)) + (f2 * g8)) (((f3 * g0) + (f4 * g3)) + (f5 * g6)) (((f3 * g1) + (f4 * g4)) + (f5 * g7)) (((f3 * g2) + (f4 * g5)) + (f5 * g8)) (((f6 * g0) + (f7 * g3)) + (f8 * g6)) (((f6 * g1) + (f7 * g4)) + (f8 * g7)) (((f6 * g2) + (f7 * g5)) + (f8 * g8))) ≠ 0) (hvb : valH [(ofZ b0), (ofZ b1), (ofZ b2), (ofZ b3), (ofZ b4), (ofZ b5), (ofZ b6), (ofZ b7), (ofZ b8)] (det3 b0 b1 b2 b3 b4 b5 b6 b7 b8) = true) (hnb : sgnL [(((f0 * b0) + (f1 * b3)) + (f2 * b6)), (((f0 * b1) + (f1 * b4)) + (f2 * b7)), (((f0 * b2) + (f1 * b5)) + (f2 * b8)), (((f3 * b0) + (f4 * b3)) + (f5 * b6)), (((f3 * b1) + (f4 * b4)) + (f5 * b7)), (((f3 * b2) + (f4 * b5)) + (f5 * b8)), (((f6 * b0) + (f7 * b3)) + (f8 * b6)), (((f6 * b1) + (f7 * b4)) + (f8 * b7)), (((f6 * b2) + (f7 * b5)) + (f8 * b8))] ≠ 0) (hone : redL [(((f0 * b0) + (f1 * b3)) + (f2 * b6)), (((f0 * b1) + (f1 * b4)) + (f2 * b7)), (((f0 * b2) + (f1 * b5)) + (f2 * b8)), (((f3 * b0) + (f4 * b3)) + (f5 * b6)), (((f3 * b1) + (f4 * b4)) + (f5 * b7)), (((f3 * b2) + (f4 * b5)) + (f5 * b8)), (((f6 * b0) + (f7 * b3)) + (f8 * b6)), (((f6 * b1) + (f7 * b4)) + (f8 * b7)), (((f6 * b2) + (f7 * b5)) + (f8 * b8))] = [1, 0, 0, 0, 1, 0, 0, 0, 1]) : Takes Tryz.prog 6 [(encA31 f), (encA31 g), (encA31 h)] (.val (.bool (true))) := by
  let y2 := (A9.mk (ofZ b0) (ofZ b1) (ofZ b2) (ofZ b3) (ofZ b4) (ofZ b5) (ofZ b6) (ofZ b7) (ofZ b8))
  let y1 := (A9.mk (ofZ a0) (ofZ a1) (ofZ a2) (ofZ a3) (ofZ a4) (ofZ a5) (ofZ a6) (ofZ a7) (ofZ a8))
  refine fn_intro Tryz.func6 rfl cb6 rfl ?_
  show PWp _ _ _ _ ⟨[(0, (.d (encA31 f))), (1, (.d (encA31 g))), (2, (.d (encA31 h)))], []⟩
  refine pwp_seq <| kx [(3, (.ref 0 0)), (4, (.ref 1 0)), (5, (.ref 2 0))] [(0, some (bx (encA31 f))), (1, some (bx (encA31 g))), (2, some (bx (encA31 h)))] (zN (oBx 0) <| zN (oBx 1) <| zN (oBx 2) <| zM <| zZ) ?_
  refine pwp_seq <| pwp_seq <| kx [(20, (vb false))] [] (zE (oCl l_known27) <| zE oNt <| zZ) ?_
  refine pwp_cond (b := false) (by kernel_rfl) (fun h => by cases h) (fun _ => ?_)
  refine pwp_skip <| pwp_seq <| pwp_seq <| kx [(26, (vb false))] [] (zR (oLa sh32) <| zR (oLa sh32) <| zR (oLa sh32) <| zE (oBs el49 ze32 zo32) <| zE (oCl (tk_nil (l_briefT30 f f0 f1 f2 f3 f4 f5 f6 f7 f8 (iu hf0) (iu hf1) (iu hf2) (iu hf3) (iu hf4) (iu hf5) (iu hf6) (iu hf7) (iu hf8) g g0 g1 g2 g3 g4 g5 g6 g7 g8 (iu hg0) (iu hg1) (iu hg2) (iu hg3) (iu hg4) (iu hg5) (iu hg6) (iu hg7) (iu hg8) h h0 h1 h2 h3 h4 h5 h6 h7 h8 (iu hh0) (iu hh1) (iu hh2) (iu hh3) (iu hh4) (iu hh5) (iu hh6) (iu hh7) (iu hh8) hb0 hb1 hb2) (.same (.cut 44 6 .nil)))) <| zE oNt <| zZ) ?_
  refine pwp_cond (b := false) (by kernel_rfl) (fun h => by cases h) (fun _ => ?_)
  refine pwp_skip <| pwp_seq ?_
  have bn1 : ∀ c ∈ [a0, a1, a2, a3, a4, a5, a6, a7, a8], IOk (ofZ c) c 10 := red_iok (n := 10) (.cons (iok_add (k := 10) (iok_add (k := 9) (iok_mul (k := 8) hf0 hg0 (by decide)) (iok_mul (k := 8) hf1 hg3 (by decide)) (by decide)) (iok_mul (k := 8) hf2 hg6 (by decide)) (by decide)) (.cons (iok_add (k := 10) (iok_add (k := 9) (iok_mul (k := 8) hf0 hg1 (by decide)) (iok_mul (k := 8) hf1 hg4 (by decide)) (by decide)) (iok_mul (k := 8) hf2 hg7 (by decide)) (by decide)) (.cons (iok_add (k := 10) (iok_add (k := 9) (iok_mul (k := 8) hf0 hg2 (by decide)) (iok_mul (k := 8) hf1 hg5 (by decide)) (by decide)) (iok_mul (k := 8) hf2 hg8 (by decide)) (by decide)) (.cons (iok_add (k := 10) (iok_add (k := 9) (iok_mul (k := 8) hf3 hg0 (by decide)) (iok_mul (k := 8) hf4 hg3 (by decide)) (by decide)) (iok_mul (k := 8) hf5 hg6 (by decide)) (by decide)) (.cons (iok_add (k := 10) (iok_add (k := 9) (iok_mul (k := 8) hf3 hg1 (by decide)) (iok_mul (k := 8) hf4 hg4 (by decide)) (by decide)) (iok_mul (k := 8) hf5 hg7 (by decide)) (by decide)) (.cons (iok_add (k := 10) (iok_add (k := 9) (iok_mul (k := 8) hf3 hg2 (by decide)) (iok_mul (k := 8) hf4 hg5 (by decide)) (by decide)) (iok_mul (k := 8) hf5 hg8 (by decide)) (by decide)) (.cons (iok_add (k := 10) (iok_add (k := 9) (iok_mul (k := 8) hf6 hg0 (by decide)) (iok_mul (k := 8) hf7 hg3 (by decide)) (by decide)) (iok_mul (k := 8) hf8 hg6 (by decide)) (by decide)) (.cons (iok_add (k := 10) (iok_add (k := 9) (iok_mul (k := 8) hf6 hg1 (by decide)) (iok_mul (k := 8) hf7 hg4 (by decide)) (by decide)) (iok_mul (k := 8) hf8 hg7 (by decide)) (by decide)) (.cons (iok_add (k := 10) (iok_add (k := 9) (iok_mul (k := 8) hf6 hg2 (by decide)) (iok_mul (k := 8) hf7 hg5 (by decide)) (by decide)) (iok_mul (k := 8) hf8 hg8 (by decide)) (by decide)) .nil))))))))) ha
  refine kx [(7, (.ref 3 0)), (8, (vi 0))] [(3, some (bx (encA31 y1)))] (zR (oLa sh32) <| zR (oLa sh32) <| zE (oCl (d_comp f f0 f1 f2 f3 f4 f5 f6 f7 f8 (iu hf0) (iu hf1) (iu hf2) (iu hf3) (iu hf4) (iu hf5) (iu hf6) (iu hf7) (iu hf8) g g0 g1 g2 g3 g4 g5 g6 g7 g8 (iu hg0) (iu hg1) (iu hg2) (iu hg3) (iu hg4) (iu hg5) (iu hg6) (iu hg7) (iu hg8) a0 a1 a2 a3 a4 a5 a6 a7 a8 ha hvf hvg hnp)) <| zM <| zE oEx <| zE oEx <| zN (oAl 3 ze32 zo32) <| zT (oSt sh32) <| zM <| zZ) ?_
  refine pwp_seq ?_
  have bn2 : ∀ c ∈ [b0, b1, b2, b3, b4, b5, b6, b7, b8], IOk (ofZ c) c 9 := red_iok (n := 9) (.cons (iok_sub (k := 9) (iok_mul (k := 8) hf4 hf8 (by decide)) (iok_mul (k := 8) hf5 hf7 (by decide)) (by decide)) (.cons (iok_sub (k := 9) (iok_mul (k := 8) hf7 hf2 (by decide)) (iok_mul (k := 8) hf8 hf1 (by decide)) (by decide)) (.cons (iok_sub (k := 9) (iok_mul (k := 8) hf1 hf5 (by decide)) (iok_mul (k := 8) hf2 hf4 (by decide)) (by decide)) (.cons (iok_sub (k := 9) (iok_mul (k := 8) hf5 hf6 (by decide)) (iok_mul (k := 8) hf3 hf8 (by decide)) (by decide)) (.cons (iok_sub (k := 9) (iok_mul (k := 8) hf8 hf0 (by decide)) (iok_mul (k := 8) hf6 hf2 (by decide)) (by decide)) (.cons (iok_sub (k := 9) (iok_mul (k := 8) hf2 hf3 (by decide)) (iok_mul (k := 8) hf0 hf5 (by decide)) (by decide)) (.cons (iok_sub (k := 9) (iok_mul (k := 8) hf3 hf7 (by decide)) (iok_mul (k := 8) hf4 hf6 (by decide)) (by decide)) (.cons (iok_sub (k := 9) (iok_mul (k := 8) hf6 hf1 (by decide)) (iok_mul (k := 8) hf7 hf0 (by decide)) (by decide)) (.cons (iok_sub (k := 9) (iok_mul (k := 8) hf0 hf4 (by decide)) (iok_mul (k := 8) hf1 hf3 (by decide)) (by decide)) .nil))))))))) hb
  refine kx [(9, (.ref 4 0)), (10, (vi 0))] [(4, some (bx (encA31 y2)))] (zR (oLa sh32) <| zE (oCl (d_inv f f0 f1 f2 f3 f4 f5 f6 f7 f8 (iu hf0) (iu hf1) (iu hf2) (iu hf3) (iu hf4) (iu hf5) (iu hf6) (iu hf7) (iu hf8) b0 b1 b2 b3 b4 b5 b6 b7 b8 hb hvf hnf)) <| zM <| zE oEx <| zE oEx <| zN (oAl 4 ze32 zo32) <| zT (oSt sh32) <| zM <| zZ) ?_
  refine pwp_seq <| pwp_seq <| kx [(40, (vb false))] [] (zR (oLa sh32) <| zE (oBk true (oCl (l_valid f f0 f1 f2 f3 f4 f5 f6 f7 f8 (iu hf0) (iu hf1) (iu hf2) (iu hf3) (iu hf4) (iu hf5) (iu hf6) (iu hf7) (iu hf8))) (by exact hvf)) <| zE oNt <| zZ) ?_
  refine pwp_cond (b := false) (by kernel_rfl) (fun h => by cases h) (fun _ => ?_)
  refine pwp_skip <| pwp_seq <| pwp_seq <| kd [(63, (vb false))] [] mo (wM <| wE oNe <| wM <| wR (oLa sh32) <| wR (oLa sh32) <| wE (oCl (l_inverse f f0 f1 f2 f3 f4 f5 f6 f7 f8 (iu hf0) (iu hf1) (iu hf2) (iu hf3) (iu hf4) (iu hf5) (iu hf6) (iu hf7) (iu hf8) b0 b1 b2 b3 b4 b5 b6 b7 b8 hb hnf hdf)) <| wE (oCl (l_sameT9 y2 b0 b1 b2 b3 b4 b5 b6 b7 b8 (iok_up (bn2 b0 (by simp)) (by decide)) (iok_up (bn2 b1 (by simp)) (by decide)) (iok_up (bn2 b2 (by simp)) (by decide)) (iok_up (bn2 b3 (by simp)) (by decide)) (iok_up (bn2 b4 (by simp)) (by decide)) (iok_up (bn2 b5 (by simp)) (by decide)) (iok_up (bn2 b6 (by simp)) (by decide)) (iok_up (bn2 b7 (by simp)) (by decide)) (iok_up (bn2 b8 (by simp)) (by decide)) y2 b0 b1 b2 b3 b4 b5 b6 b7 b8 (iok_up (bn2 b0 (by simp)) (by decide)) (iok_up (bn2 b1 (by simp)) (by decide)) (iok_up (bn2 b2 (by simp)) (by decide)) (iok_up (bn2 b3 (by simp)) (by decide)) (iok_up (bn2 b4 (by simp)) (by decide)) (iok_up (bn2 b5 (by simp)) (by decide)) (iok_up (bn2 b6 (by simp)) (by decide)) (iok_up (bn2 b7 (by simp)) (by decide)) (iok_up (bn2 b8 (by simp)) (by decide)) (validI_ofZ _) (validI_ofZ _) (validI_ofZ _) (validI_ofZ _) (validI_ofZ _) (validI_ofZ _) (validI_ofZ _) (validI_ofZ _) (validI_ofZ _) (sameI_self _) (sameI_self _) (sameI_self _) (sameI_self _) (sameI_self _) (sameI_self _) (sameI_self _) (sameI_self _) (sameI_self _))) <| wE oNt <| wE oPf <| wZ) ?_
  refine pwp_cond (b := false) (by kernel_rfl) (fun h => by cases h) (fun _ => ?_)
  refine pwp_skip <| pwp_seq <| pwp_seq <| kx [(66, (vb false))] [] (zR (oLa sh32) <| zE (oBk true (oCl (l_valid g g0 g1 g2 g3 g4 g5 g6 g7 g8 (iu hg0) (iu hg1) (iu hg2) (iu hg3) (iu hg4) (iu hg5) (iu hg6) (iu hg7) (iu hg8))) (by exact hvg)) <| zE oNt <| zZ) ?_
  refine pwp_cond (b := false) (by kernel_rfl) (fun h => by cases h) (fun _ => ?_)
  refine pwp_skip <| pwp_seq <| pwp_seq <| kd [(82, (vb false))] [] mo (wM <| wE oNe <| wM <| wR (oLa sh32) <| wR (oLa sh32) <| wR (oLa sh32) <| wE (oCl (l_product f f0 f1 f2 f3 f4 f5 f6 f7 f8 (iu hf0) (iu hf1) (iu hf2) (iu hf3) (iu hf4) (iu hf5) (iu hf6) (iu hf7) (iu hf8) g g0 g1 g2 g3 g4 g5 g6 g7 g8 (iu hg0) (iu hg1) (iu hg2) (iu hg3) (iu hg4) (iu hg5) (iu hg6) (iu hg7) (iu hg8) a0 a1 a2 a3 a4 a5 a6 a7 a8 ha hnp hdp)) <| wE (oCl (l_sameT9 y1 a0 a1 a2 a3 a4 a5 a6 a7 a8 (iok_up (bn1 a0 (by simp)) (by decide)) (iok_up (bn1 a1 (by simp)) (by decide)) (iok_up (bn1 a2 (by simp)) (by decide)) (iok_up (bn1 a3 (by simp)) (by decide)) (iok_up (bn1 a4 (by simp)) (by decide)) (iok_up (bn1 a5 (by simp)) (by decide)) (iok_up (bn1 a6 (by simp)) (by decide)) (iok_up (bn1 a7 (by simp)) (by decide)) (iok_up (bn1 a8 (by simp)) (by decide)) y1 a0 a1 a2 a3 a4 a5 a6 a7 a8 (iok_up (bn1 a0 (by simp)) (by decide)) (iok_up (bn1 a1 (by simp)) (by decide)) (iok_up (bn1 a2 (by simp)) (by decide)) (iok_up (bn1 a3 (by simp)) (by decide)) (iok_up (bn1 a4 (by simp)) (by decide)) (iok_up (bn1 a5 (by simp)) (by decide)) (iok_up (bn1 a6 (by simp)) (by decide)) (iok_up (bn1 a7 (by simp)) (by decide)) (iok_up (bn1 a8 (by simp)) (by decide)) (validI_ofZ _) (validI_ofZ _) (validI_ofZ _) (validI_ofZ _) (validI_ofZ _) (validI_ofZ _) (validI_ofZ _) (validI_ofZ _) (validI_ofZ _) (sameI_self _) (sameI_self _) (sameI_self _) (sameI_self _) (sameI_self _) (sameI_self _) (sameI_self _) (sameI_self _) (sameI_self _))) <| wE oNt <| wE oPf <| wZ) ?_
  refine pwp_cond (b := false) (by kernel_rfl) (fun h => by cases h) (fun _ => ?_)
  refine pwp_skip <| pwp_seq ?_
  have bn3 : ∀ c ∈ [1, 0, 0, 0, 1, 0, 0, 0, 1], IOk (ofZ c) c 15 := red_iok (n := 15) (.cons (iok_add (k := 15) (iok_add (k := 14) (iok_mul (k := 13) hf0 (bn2 b0 (by simp)) (by decide)) (iok_mul (k := 13) hf1 (bn2 b3 (by simp)) (by decide)) (by decide)) (iok_mul (k := 13) hf2 (bn2 b6 (by simp)) (by decide)) (by decide)) (.cons (iok_add (k := 15) (iok_add (k := 14) (iok_mul (k := 13) hf0 (bn2 b1 (by simp)) (by decide)) (iok_mul (k := 13) hf1 (bn2 b4 (by simp)) (by decide)) (by decide)) (iok_mul (k := 13) hf2 (bn2 b7 (by simp)) (by decide)) (by decide)) (.cons (iok_add (k := 15) (iok_add (k := 14) (iok_mul (k := 13) hf0 (bn2 b2 (by simp)) (by decide)) (iok_mul (k := 13) hf1 (bn2 b5 (by simp)) (by decide)) (by decide)) (iok_mul (k := 13) hf2 (bn2 b8 (by simp)) (by decide)) (by decide)) (.cons (iok_add (k := 15) (iok_add (k := 14) (iok_mul (k := 13) hf3 (bn2 b0 (by simp)) (by decide)) (iok_mul (k := 13) hf4 (bn2 b3 (by simp)) (by decide)) (by decide)) (iok_mul (k := 13) hf5 (bn2 b6 (by simp)) (by decide)) (by decide)) (.cons (iok_add (k := 15) (iok_add (k := 14) (iok_mul (k := 13) hf3 (bn2 b1 (by simp)) (by decide)) (iok_mul (k := 13) hf4 (bn2 b4 (by simp)) (by decide)) (by decide)) (iok_mul (k := 13) hf5 (bn2 b7 (by simp)) (by decide)) (by decide)) (.cons (iok_add (k := 15) (iok_add (k := 14) (iok_mul (k := 13) hf3 (bn2 b2 (by simp)) (by decide)) (iok_mul (k := 13) hf4 (bn2 b5 (by simp)) (by decide)) (by decide)) (iok_mul (k := 13) hf5 (bn2 b8 (by simp)) (by decide)) (by decide)) (.cons (iok_add (k := 15) (iok_add (k := 14) (iok_mul (k := 13) hf6 (bn2 b0 (by simp)) (by decide)) (iok_mul (k := 13) hf7 (bn2 b3 (by simp)) (by decide)) (by decide)) (iok_mul (k := 13) hf8 (bn2 b6 (by simp)) (by decide)) (by decide)) (.cons (iok_add (k := 15) (iok_add (k := 14) (iok_mul (k := 13) hf6 (bn2 b1 (by simp)) (by decide)) (iok_mul (k := 13) hf7 (bn2 b4 (by simp)) (by decide)) (by decide)) (iok_mul (k := 13) hf8 (bn2 b7 (by simp)) (by decide)) (by decide)) (.cons (iok_add (k := 15) (iok_add (k := 14) (iok_mul (k := 13) hf6 (bn2 b2 (by simp)) (by decide)) (iok_mul (k := 13) hf7 (bn2 b5 (by simp)) (by decide)) (by decide)) (iok_mul (k := 13) hf8 (bn2 b8 (by simp)) (by decide)) (by decide)) .nil))))))))) hone
  refine kx [(11, (.ref 5 0)), (12, (vi 0))] [(5, some (bx (encA31 (A9.mk (ofZ 1) (ofZ 0) (ofZ 0) (ofZ 0) (ofZ 1) (ofZ 0) (ofZ 0) (ofZ 0) (ofZ 1)))))] (zR (oLa sh32) <| zR (oLa sh32) <| zE (oCl (d_comp f f0 f1 f2 f3 f4 f5 f6 f7 f8 (iu hf0) (iu hf1) (iu hf2) (iu hf3) (iu hf4) (iu hf5) (iu hf6) (iu hf7) (iu hf8) y2 b0 b1 b2 b3 b4 b5 b6 b7 b8 (iok_up (bn2 b0 (by simp)) (by decide)) (iok_up (bn2 b1 (by simp)) (by decide)) (iok_up (bn2 b2 (by simp)) (by decide)) (iok_up (bn2 b3 (by simp)) (by decide)) (iok_up (bn2 b4 (by simp)) (by decide)) (iok_up (bn2 b5 (by simp)) (by decide)) (iok_up (bn2 b6 (by simp)) (by decide)) (iok_up (bn2 b7 (by simp)) (by decide)) (iok_up (bn2 b8 (by simp)) (by decide)) 1 0 0 0 1 0 0 0 1 hone hvf hvb hnb)) <| zM <| zE oEx <| zE oEx <| zN (oAl 5 ze32 zo32) <| zT (oSt sh32) <| zM <| zZ) ?_
  refine pwp_seq <| pwp_seq <| kd [(96, (vb false))] [] mo (wM <| wE oNe <| wM <| wR (oLa sh32) <| wE (oCl d_ident) <| wE (oCl (l_sameT9 (A9.mk (ofZ 1) (ofZ 0) (ofZ 0) (ofZ 0) (ofZ 1) (ofZ 0) (ofZ 0) (ofZ 0) (ofZ 1)) 1 0 0 0 1 0 0 0 1 (iok_up (bn3 1 (by simp)) (by decide)) (iok_up (bn3 0 (by simp)) (by decide)) (iok_up (bn3 0 (by simp)) (by decide)) (iok_up (bn3 0 (by simp)) (by decide)) (iok_up (bn3 1 (by simp)) (by decide)) (iok_up (bn3 0 (by simp)) (by decide)) (iok_up (bn3 0 (by simp)) (by decide)) (iok_up (bn3 0 (by simp)) (by decide)) (iok_up (bn3 1 (by simp)) (by decide)) (A9.mk (ofZ 1) (ofZ 0) (ofZ 0) (ofZ 0) (ofZ 1) (ofZ 0) (ofZ 0) (ofZ 0) (ofZ 1)) 1 0 0 0 1 0 0 0 1 (iok_up (iok_small (z := 1) (by decide)) (by decide)) (iok_up (iok_small (z := 0) (by decide)) (by decide)) (iok_up (iok_small (z := 0) (by decide)) (by decide)) (iok_up (iok_small (z := 0) (by decide)) (by decide)) (iok_up (iok_small (z := 1) (by decide)) (by decide)) (iok_up (iok_small (z := 0) (by decide)) (by decide)) (iok_up (iok_small (z := 0) (by decide)) (by decide)) (iok_up (iok_small (z := 0) (by decide)) (by decide)) (iok_up (iok_small (z := 1) (by decide)) (by decide)) (validI_ofZ _) (validI_ofZ _) (validI_ofZ _) (validI_ofZ _) (validI_ofZ _) (validI_ofZ _) (validI_ofZ _) (validI_ofZ _) (validI_ofZ _) (sameI_self _) (sameI_self _) (sameI_self _) (sameI_self _) (sameI_self _) (sameI_self _) (sameI_self _) (sameI_self _) (sameI_self _))) <| wE oNt <| wE oPf <| wZ) ?_
  refine pwp_cond (b := false) (by kernel_rfl) (fun h => by cases h) (fun _ => ?_)
  refine pwp_skip <| pwp_seq <| pwp_seq <| kx [(99, (vb true))] [] (zR (oLa sh32) <| zE (oBk false (oCl (l_valid h h0 h1 h2 h3 h4 h5 h6 h7 h8 (iu hh0) (iu hh1) (iu hh2) (iu hh3) (iu hh4) (iu hh5) (iu hh6) (iu hh7) (iu hh8))) (by exact hvh)) <| zE oNt <| zZ) ?_
  refine pwp_cond (b := true) (by kernel_rfl) (fun _ => ?_) (fun h => by cases h)
  refine pwp_seq <| kx [(6, (vb true))] [] (zM <| zZ) ?_
  refine pwp_ret ⟨_, (.tmp (d := (.val (.bool (true)))) rfl .nil), ?_⟩
  rfl
theorem w_grp (f : A9 RInt) (f0 f1 f2 f3 f4 f5 f6 f7 f8 : Int) (hf0 : IOk f.a0 f0 4) (hf1 : IOk f.a1 f1 4) (hf2 : IOk f.a2 f2 4) (hf3 : IOk f.a3 f3 4) (hf4 : IOk f.a4 f4 4) (hf5 : IOk f.a5 f5 4) (hf6 : IOk f.a6 f6 4) (hf7 : IOk f.a7 f7 4) (hf8 : IOk f.a8 f8 4) (g : A9 RInt) (g0 g1 g2 g3 g4 g5 g6 g7 g8 : Int) (hg0 : IOk g.a0 g0 4) (hg1 : IOk g.a1 g1 4) (hg2 : IOk g.a2 g2 4) (hg3 : IOk g.a3 g3 4) (hg4 : IOk g.a4 g4 4) (hg5 : IOk g.a5 g5 4) (hg6 : IOk g.a6 g6 4) (hg7 : IOk g.a7 g7 4) (hg8 : IOk g.a8 g8 4) (h : A9 RInt) (h0 h1 h2 h3 h4 h5 h6 h7 h8 : Int) (hh0 : IOk h.a0 h0 4) (hh1 : IOk h.a1 h1 4) (hh2 : IOk h.a2 h2 4) (hh3 : IOk h.a3 h3 4) (hh4 : IOk h.a4 h4 4) (hh5 : IOk h.a5 h5 4) (hh6 : IOk h.a6 h6 4) (hh7 : IOk h.a7 h7 4) (hh8 : IOk h.a8 h8 4) (b0 b1 b2 b3 b4 b5 b6 b7 b8 : Int) (hb : redL [((f4 * f8) - (f5 * f7)), ((f7 * f2) - (f8 * f1)), ((f1 * f5) - (f2 * f4)), ((f5 * f6) - (f3 * f8)), ((f8 * f0) - (f6 * f2)), ((f2 * f3) - (f0 * f5)), ((f3 * f7) - (f4 * f6)), ((f6 * f1) - (f7 * f0)), ((f0 * f4) - (f1 * f3))] = [b0, b1, b2, b3, b4, b5, b6, b7, b8]) (a0 a1 a2 a3 a4 a5 a6 a7 a8 : Int) (ha : redL [(((f0 * g0) + (f1 * g3)) + (f2 * g6)), (((f0 * g1) + (f1 * g4)) + (f2 * g7)), (((f0 * g2) + (f1 * g5)) + (f2 * g8)), (((f3 * g0) + (f4 * g3)) + (f5 * g6)), (((f3 * g1) + (f4 * g4)) + (f5 * g7)), (((f3 * g2) + (f4 * g5)) + (f5 * g8)), (((f6 * g0) + (f7 * g3)) + (f8 * g6)), (((f6 * g1) + (f7 * g4)) + (f8 * g7)), (((f6 * g2) + (f7 * g5)) + (f8 * g8))] = [a0, a1, a2, a3, a4, a5, a6, a7, a8]) (y0 y1 y2 y3 y4 y5 y6 y7 y8 : Int) (hy : redL [(((g0 * h0) + (g1 * h3)) + (g2 * h6)), (((g0 * h1) + (g1 * h4)) + (g2 * h7)), (((g0 * h2) + (g1 * h5)) + (g2 * h8)), (((g3 * h0) + (g4 * h3)) + (g5 * h6)), (((g3 * h1) + (g4 * h4)) + (g5 * h7)), (((g3 * h2) + (g4 * h5)) + (g5 * h8)), (((g6 * h0) + (g7 * h3)) + (g8 * h6)), (((g6 * h1) + (g7 * h4)) + (g8 * h7)), (((g6 * h2) + (g7 * h5)) + (g8 * h8))] = [y0, y1, y2, y3, y4, y5, y6, y7, y8]) (x0 x1 x2 x3 x4 x5 x6 x7 x8 : Int) (hx : redL [(((a0 * h0) + (a1 * h3)) + (a2 * h6)), (((a0 * h1) + (a1 * h4)) + (a2 * h7)), (((a0 * h2) + (a1 * h5)) + (a2 * h8)), (((a3 * h0) + (a4 * h3)) + (a5 * h6)), (((a3 * h1) + (a4 * h4)) + (a5 * h7)), (((a3 * h2) + (a4 * h5)) + (a5 * h8)), (((a6 * h0) + (a7 * h3)) + (a8 * h6)), (((a6 * h1) + (a7 * h4)) + (a8 * h7)), (((a6 * h2) + (a7 * h5)) + (a8 * h8))] = [x0, x1, x2, x3, x4, x5, x6, x7, x8]) (hb0 : List.all [f.a0, f.a1, f.a2, f.a3, f.a4, f.a5, f.a6, f.a7, f.a8] short4 = true) (hb1 : List.all [g.a0, g.a1, g.a2, g.a3, g.a4, g.a5, g.a6, g.a7, g.a8] short4 = true) (hb2 : List.all [h.a0, h.a1, h.a2, h.a3, h.a4, h.a5, h.a6, h.a7, h.a8] short4 = true) (hvf : valH [f.a0, f.a1, f.a2, f.a3, f.a4, f.a5, f.a6, f.a7, f.a8] (det3 f0 f1 f2 f3 f4 f5 f6 f7 f8) = true) (hvg : valH [g.a0, g.a1, g.a2, g.a3, g.a4, g.a5, g.a6, g.a7, g.a8] (det3 g0 g1 g2 g3 g4 g5 g6 g7 g8) = true) (hvh : valH [h.a0, h.a1, h.a2, h.a3, h.a4, h.a5, h.a6, h.a7, h.a8] (det3 h0 h1 h2 h3 h4 h5 h6 h7 h8) = true) (hnf : sgnL [((f4 * f8) - (f5 * f7)), ((f7 * f2) - (f8 * f1)), ((f1 * f5) - (f2 * f4)), ((f5 * f6) - (f3 * f8)), ((f8 * f0) - (f6 * f2)), ((f2 * f3) - (f0 * f5)), ((f3 * f7) - (f4 * f6)), ((f6 * f1) - (f7 * f0)), ((f0 * f4) - (f1 * f3))] ≠ 0) (hdf : signI (det3 ((f4 * f8) - (f5 * f7)) ((f7 * f2) - (f8 * f1)) ((f1 * f5) - (f2 * f4)) ((f5 * f6) - (f3 * f8)) ((f8 * f0) - (f6 * f2)) ((f2 * f3) - (f0 * f5)) ((f3 * f7) - (f4 * f6)) ((f6 * f1) - (f7 * f0)) ((f0 * f4) - (f1 * f3))) ≠ 0) (hnp : sgnL [(((f0 * g0) + (f1 * g3)) + (f2 * g6)), (((f0 * g1) + (f1 * g4)) + (f2 * g7)), (((f0 * g2) + (f1 * g5)) + (f2 * g8)), (((f3 * g0) + (f4 * g3)) + (f5 * g6)), (((f3 * g1) + (f4 * g4)) + (f5 * g7)), (((f3 * g2) + (f4 * g5)) + (f5 * g8)), (((f6 * g0) + (f7 * g3)) + (f8 * g6)), (((f6 * g1) + (f7 * g4)) + (f8 * g7)), (((f6 * g2) + (f7 * g5)) + (f8 * g8))] ≠ 0) (hdp : signI (det3 (((f0 * g0) + (f1 * g3)) + (f2 * g6)) (((f0 * g1) + (f1 * g4)) + (f2 * g7)) (((f0 * g2) + (f1 * g5)) + (f2 * g8)) (((f3 * g0) + (f4 * g3)) + (f5 * g6)) (((f3 * g1) + (f4 * g4)) + (f5 * g7)) (((f3 * g2) + (f4 * g5)) + (f5 * g8)) (((f6 * g0) + (f7 * g3)) + (f8 * g6)) (((f6 * g1) + (f7 * g4)) + (f8 * g7)) (((f6 * g2) + (f7 * g5)) + (f8 * g8))) ≠ 0) (hvb : valH [(ofZ b0), (ofZ b1), (ofZ b2), (ofZ b3), (ofZ b4), (ofZ b5), (ofZ b6), (ofZ b7), (ofZ b8)] (det3 b0 b1 b2 b3 b4 b5 b6 b7 b8) = true) (hnb : sgnL [(((f0 * b0) + (f1 * b3)) + (f2 * b6)), (((f0 * b1) + (f1 * b4)) + (f2 * b7)), (((f0 * b2) + (f1 * b5)) + (f2 * b8)), (((f3 * b0) + (f4 * b3)) + (f5 * b6)), (((f3 * b1) + (f4 * b4)) + (f5 * b7)), (((f3 * b2) + (f4 * b5)) + (f5 * b8)), (((f6 * b0) + (f7 * b3)) + (f8 * b6)), (((f6 * b1) + (f7 * b4)) + (f8 * b7)), (((f6 * b2) + (f7 * b5)) + (f8 * b8))] ≠ 0) (hone : redL [(((f0 * b0) + (f1 * b3)) + (f2 * b6)), (((f0 * b1) + (f1 * b4)) + (f2 * b7)), (((f0 * b2) + (f1 * b5)) + (f2 * b8)), (((f3 * b0) + (f4 * b3)) + (f5 * b6)), (((f3 * b1) + (f4 * b4)) + (f5 * b7)), (((f3 * b2) + (f4 * b5)) + (f5 * b8)), (((f6 * b0) + (f7 * b3)) + (f8 * b6)), (((f6 * b1) + (f7 * b4)) + (f8 * b7)), (((f6 * b2) + (f7 * b5)) + (f8 * b8))] = [1, 0, 0, 0, 1, 0, 0, 0, 1]) (hva : valH [(ofZ a0), (ofZ a1), (ofZ a2), (ofZ a3), (ofZ a4), (ofZ a5), (ofZ a6), (ofZ a7), (ofZ a8)] (det3 a0 a1 a2 a3 a4 a5 a6 a7 a8) = true) (hnx : sgnL [(((a0 * h0) + (a1 * h3)) + (a2 * h6)), (((a0 * h1) + (a1 * h4)) + (a2 * h7)), (((a0 * h2) + (a1 * h5)) + (a2 * h8)), (((a3 * h0) + (a4 * h3)) + (a5 * h6)), (((a3 * h1) + (a4 * h4)) + (a5 * h7)), (((a3 * h2) + (a4 * h5)) + (a5 * h8)), (((a6 * h0) + (a7 * h3)) + (a8 * h6)), (((a6 * h1) + (a7 * h4)) + (a8 * h7)), (((a6 * h2) + (a7 * h5)) + (a8 * h8))] ≠ 0) (hny : sgnL [(((g0 * h0) + (g1 * h3)) + (g2 * h6)), (((g0 * h1) + (g1 * h4)) + (g2 * h7)), (((g0 * h2) + (g1 * h5)) + (g2 * h8)), (((g3 * h0) + (g4 * h3)) + (g5 * h6)), (((g3 * h1) + (g4 * h4)) + (g5 * h7)), (((g3 * h2) + (g4 * h5)) + (g5 * h8)), (((g6 * h0) + (g7 * h3)) + (g8 * h6)), (((g6 * h1) + (g7 * h4)) + (g8 * h7)), (((g6 * h2) + (g7 * h5)) + (g8 * h8))] ≠ 0) (hvy : valH [(ofZ y0), (ofZ y1), (ofZ y2), (ofZ y3), (ofZ y4), (ofZ y5), (ofZ y6), (ofZ y7), (ofZ y8)] (det3 y0 y1 y2 y3 y4 y5 y6 y7 y8) = true) (hnz : sgnL [(((f0 * y0) + (f1 * y3)) + (f2 * y6)), (((f0 * y1) + (f1 * y4)) + (f2 * y7)), (((f0 * y2) + (f1 * y5)) + (f2 * y8)), (((f3 * y0) + (f4 * y3)) + (f5 * y6)), (((f3 * y1) + (f4 * y4)) + (f5 * y7)), (((f3 * y2) + (f4 * y5)) + (f5 * y8)), (((f6 * y0) + (f7 * y3)) + (f8 * y6)), (((f6 * y1) + (f7 * y4)) + (f8 * y7)), (((f6 * y2) + (f7 * y5)) + (f8 * y8))] ≠ 0) (hxy : redL [(((f0 * y0) + (f1 * y3)) + (f2 * y6)), (((f0 * y1) + (f1 * y4)) + (f2 * y7)), (((f0 * y2) + (f1 * y5)) + (f2 * y8)), (((f3 * y0) + (f4 * y3)) + (f5 * y6)), (((f3 * y1) + (f4 * y4)) + (f5 * y7)), (((f3 * y2) + (f4 * y5)) + (f5 * y8)), (((f6 * y0) + (f7 * y3)) + (f8 * y6)), (((f6 * y1) + (f7 * y4)) + (f8 * y7)), (((f6 * y2) + (f7 * y5)) + (f8 * y8))] = [x0, x1, x2, x3, x4, x5, x6, x7, x8]) : Takes Tryz.prog 6 [(encA31 f), (encA31 g), (encA31 h)] (.val (.bool (true))) := by
  let y13 := (A9.mk (ofZ y0) (ofZ y1) (ofZ y2) (ofZ y3) (ofZ y4) (ofZ y5) (ofZ y6) (ofZ y7) (ofZ y8))
  let y12 := (A9.mk (ofZ x0) (ofZ x1) (ofZ x2) (ofZ x3) (ofZ x4) (ofZ x5) (ofZ x6) (ofZ x7) (ofZ x8))
  let y11 := (A9.mk (ofZ b0) (ofZ b1) (ofZ b2) (ofZ b3) (ofZ b4) (ofZ b5) (ofZ b6) (ofZ b7) (ofZ b8))
  let y10 := (A9.mk (ofZ a0) (ofZ a1) (ofZ a2) (ofZ a3) (ofZ a4) (ofZ a5) (ofZ a6) (ofZ a7) (ofZ a8))
  let y9 := (bx (encA31 y12))
  refine fn_intro Tryz.func6 rfl cb6 rfl ?_
  show PWp _ _ _ _ ⟨[(0, (.d (encA31 f))), (1, (.d (encA31 g))), (2, (.d (encA31 h)))], []⟩
  refine pwp_seq <| kx [(3, (.ref 0 0)), (4, (.ref 1 0)), (5, (.ref 2 0))] [(0, some (bx (encA31 f))), (1, some (bx (encA31 g))), (2, some (bx (encA31 h)))] (zN (oBx 0) <| zN (oBx 1) <| zN (oBx 2) <| zM <| zZ) ?_
  refine pwp_seq <| pwp_seq <| kx [(20, (vb false))] [] (zE (oCl l_known27) <| zE oNt <| zZ) ?_
  refine pwp_cond (b := false) (by kernel_rfl) (fun h => by cases h) (fun _ => ?_)
  refine pwp_skip <| pwp_seq <| pwp_seq <| kx [(26, (vb false))] [] (zR (oLa sh32) <| zR (oLa sh32) <| zR (oLa sh32) <| zE (oBs el49 ze32 zo32) <| zE (oCl (tk_nil (l_briefT30 f f0 f1 f2 f3 f4 f5 f6 f7 f8 (iu hf0) (iu hf1) (iu hf2) (iu hf3) (iu hf4) (iu hf5) (iu hf6) (iu hf7) (iu hf8) g g0 g1 g2 g3 g4 g5 g6 g7 g8 (iu hg0) (iu hg1) (iu hg2) (iu hg3) (iu hg4) (iu hg5) (iu hg6) (iu hg7) (iu hg8) h h0 h1 h2 h3 h4 h5 h6 h7 h8 (iu hh0) (iu hh1) (iu hh2) (iu hh3) (iu hh4) (iu hh5) (iu hh6) (iu hh7) (iu hh8) hb0 hb1 hb2) (.same (.cut 44 6 .nil)))) <| zE oNt <| zZ) ?_
  refine pwp_cond (b := false) (by kernel_rfl) (fun h => by cases h) (fun _ => ?_)
  refine pwp_skip <| pwp_seq ?_
  have bn1 : ∀ c ∈ [a0, a1, a2, a3, a4, a5, a6, a7, a8], IOk (ofZ c) c 10 := red_iok (n := 10) (.cons (iok_add (k := 10) (iok_add (k := 9) (iok_mul (k := 8) hf0 hg0 (by decide)) (iok_mul (k := 8) hf1 hg3 (by decide)) (by decide)) (iok_mul (k := 8) hf2 hg6 (by decide)) (by decide)) (.cons (iok_add (k := 10) (iok_add (k := 9) (iok_mul (k := 8) hf0 hg1 (by decide)) (iok_mul (k := 8) hf1 hg4 (by decide)) (by decide)) (iok_mul (k := 8) hf2 hg7 (by decide)) (by decide)) (.cons (iok_add (k := 10) (iok_add (k := 9) (iok_mul (k := 8) hf0 hg2 (by decide)) (iok_mul (k := 8) hf1 hg5 (by decide)) (by decide)) (iok_mul (k := 8) hf2 hg8 (by decide)) (by decide)) (.cons (iok_add (k := 10) (iok_add (k := 9) (iok_mul (k := 8) hf3 hg0 (by decide)) (iok_mul (k := 8) hf4 hg3 (by decide)) (by decide)) (iok_mul (k := 8) hf5 hg6 (by decide)) (by decide)) (.cons (iok_add (k := 10) (iok_add (k := 9) (iok_mul (k := 8) hf3 hg1 (by decide)) (iok_mul (k := 8) hf4 hg4 (by decide)) (by decide)) (iok_mul (k := 8) hf5 hg7 (by decide)) (by decide)) (.cons (iok_add (k := 10) (iok_add (k := 9) (iok_mul (k := 8) hf3 hg2 (by decide)) (iok_mul (k := 8) hf4 hg5 (by decide)) (by decide)) (iok_mul (k := 8) hf5 hg8 (by decide)) (by decide)) (.cons (iok_add (k := 10) (iok_add (k := 9) (iok_mul (k := 8) hf6 hg0 (by decide)) (iok_mul (k := 8) hf7 hg3 (by decide)) (by decide)) (iok_mul (k := 8) hf8 hg6 (by decide)) (by decide)) (.cons (iok_add (k := 10) (iok_add (k := 9) (iok_mul (k := 8) hf6 hg1 (by decide)) (iok_mul (k := 8) hf7 hg4 (by decide)) (by decide)) (iok_mul (k := 8) hf8 hg7 (by decide)) (by decide)) (.cons (iok_add (k := 10) (iok_add (k := 9) (iok_mul (k := 8) hf6 hg2 (by decide)) (iok_mul (k := 8) hf7 hg5 (by decide)) (by decide)) (iok_mul (k := 8) hf8 hg8 (by decide)) (by decide)) .nil))))))))) ha
  refine kx [(7, (.ref 3 0)), (8, (vi 0))] [(3, some (bx (encA31 y10)))] (zR (oLa sh32) <| zR (oLa sh32) <| zE (oCl (d_comp f f0 f1 f2 f3 f4 f5 f6 f7 f8 (iu hf0) (iu hf1) (iu hf2) (iu hf3) (iu hf4) (iu hf5) (iu hf6) (iu hf7) (iu hf8) g g0 g1 g2 g3 g4 g5 g6 g7 g8 (iu hg0) (iu hg1) (iu hg2) (iu hg3) (iu hg4) (iu hg5) (iu hg6) (iu hg7) (iu hg8) a0 a1 a2 a3 a4 a5 a6 a7 a8 ha hvf hvg hnp)) <| zM <| zE oEx <| zE oEx <| zN (oAl 3 ze32 zo32) <| zT (oSt sh32) <| zM <| zZ) ?_
  refine pwp_seq ?_
  have bn2 : ∀ c ∈ [b0, b1, b2, b3, b4, b5, b6, b7, b8], IOk (ofZ c) c 9 := red_iok (n := 9) (.cons (iok_sub (k := 9) (iok_mul (k := 8) hf4 hf8 (by decide)) (iok_mul (k := 8) hf5 hf7 (by decide)) (by decide)) (.cons (iok_sub (k := 9) (iok_mul (k := 8) hf7 hf2 (by decide)) (iok_mul (k := 8) hf8 hf1 (by decide)) (by decide)) (.cons (iok_sub (k := 9) (iok_mul (k := 8) hf1 hf5 (by decide)) (iok_mul (k := 8) hf2 hf4 (by decide)) (by decide)) (.cons (iok_sub (k := 9) (iok_mul (k := 8) hf5 hf6 (by decide)) (iok_mul (k := 8) hf3 hf8 (by decide)) (by decide)) (.cons (iok_sub (k := 9) (iok_mul (k := 8) hf8 hf0 (by decide)) (iok_mul (k := 8) hf6 hf2 (by decide)) (by decide)) (.cons (iok_sub (k := 9) (iok_mul (k := 8) hf2 hf3 (by decide)) (iok_mul (k := 8) hf0 hf5 (by decide)) (by decide)) (.cons (iok_sub (k := 9) (iok_mul (k := 8) hf3 hf7 (by decide)) (iok_mul (k := 8) hf4 hf6 (by decide)) (by decide)) (.cons (iok_sub (k := 9) (iok_mul (k := 8) hf6 hf1 (by decide)) (iok_mul (k := 8) hf7 hf0 (by decide)) (by decide)) (.cons (iok_sub (k := 9) (iok_mul (k := 8) hf0 hf4 (by decide)) (iok_mul (k := 8) hf1 hf3 (by decide)) (by decide)) .nil))))))))) hb
  refine kx [(9, (.ref 4 0)), (10, (vi 0))] [(4, some (bx (encA31 y11)))] (zR (oLa sh32) <| zE (oCl (d_inv f f0 f1 f2 f3 f4 f5 f6 f7 f8 (iu hf0) (iu hf1) (iu hf2) (iu hf3) (iu hf4) (iu hf5) (iu hf6) (iu hf7) (iu hf8) b0 b1 b2 b3 b4 b5 b6 b7 b8 hb hvf hnf)) <| zM <| zE oEx <| zE oEx <| zN (oAl 4 ze32 zo32) <| zT (oSt sh32) <| zM <| zZ) ?_
  refine pwp_seq <| pwp_seq <| kx [(40, (vb false))] [] (zR (oLa sh32) <| zE (oBk true (oCl (l_valid f f0 f1 f2 f3 f4 f5 f6 f7 f8 (iu hf0) (iu hf1) (iu hf2) (iu hf3) (iu hf4) (iu hf5) (iu hf6) (iu hf7) (iu hf8))) (by exact hvf)) <| zE oNt <| zZ) ?_
  refine pwp_cond (b := false) (by kernel_rfl) (fun h => by cases h) (fun _ => ?_)
  refine pwp_skip <| pwp_seq <| pwp_seq <| kd [(63, (vb false))] [] mo (wM <| wE oNe <| wM <| wR (oLa sh32) <| wR (oLa sh32) <| wE (oCl (l_inverse f f0 f1 f2 f3 f4 f5 f6 f7 f8 (iu hf0) (iu hf1) (iu hf2) (iu hf3) (iu hf4) (iu hf5) (iu hf6) (iu hf7) (iu hf8) b0 b1 b2 b3 b4 b5 b6 b7 b8 hb hnf hdf)) <| wE (oCl (l_sameT9 y11 b0 b1 b2 b3 b4 b5 b6 b7 b8 (iok_up (bn2 b0 (by simp)) (by decide)) (iok_up (bn2 b1 (by simp)) (by decide)) (iok_up (bn2 b2 (by simp)) (by decide)) (iok_up (bn2 b3 (by simp)) (by decide)) (iok_up (bn2 b4 (by simp)) (by decide)) (iok_up (bn2 b5 (by simp)) (by decide)) (iok_up (bn2 b6 (by simp)) (by decide)) (iok_up (bn2 b7 (by simp)) (by decide)) (iok_up (bn2 b8 (by simp)) (by decide)) y11 b0 b1 b2 b3 b4 b5 b6 b7 b8 (iok_up (bn2 b0 (by simp)) (by decide)) (iok_up (bn2 b1 (by simp)) (by decide)) (iok_up (bn2 b2 (by simp)) (by decide)) (iok_up (bn2 b3 (by simp)) (by decide)) (iok_up (bn2 b4 (by simp)) (by decide)) (iok_up (bn2 b5 (by simp)) (by decide)) (iok_up (bn2 b6 (by simp)) (by decide)) (iok_up (bn2 b7 (by simp)) (by decide)) (iok_up (bn2 b8 (by simp)) (by decide)) (validI_ofZ _) (validI_ofZ _) (validI_ofZ _) (validI_ofZ _) (validI_ofZ _) (validI_ofZ _) (validI_ofZ _) (validI_ofZ _) (validI_ofZ _) (sameI_self _) (sameI_self _) (sameI_self _) (sameI_self _) (sameI_self _) (sameI_self _) (sameI_self _) (sameI_self _) (sameI_self _))) <| wE oNt <| wE oPf <| wZ) ?_
  refine pwp_cond (b := false) (by kernel_rfl) (fun h => by cases h) (fun _ => ?_)
  refine pwp_skip <| pwp_seq <| pwp_seq <| kx [(66, (vb false))] [] (zR (oLa sh32) <| zE (oBk true (oCl (l_valid g g0 g1 g2 g3 g4 g5 g6 g7 g8 (iu hg0) (iu hg1) (iu hg2) (iu hg3) (iu hg4) (iu hg5) (iu hg6) (iu hg7) (iu hg8))) (by exact hvg)) <| zE oNt <| zZ) ?_
  refine pwp_cond (b := false) (by kernel_rfl) (fun h => by cases h) (fun _ => ?_)
  refine pwp_skip <| pwp_seq <| pwp_seq <| kd [(82, (vb false))] [] mo (wM <| wE oNe <| wM <| wR (oLa sh32) <| wR (oLa sh32) <| wR (oLa sh32) <| wE (oCl (l_product f f0 f1 f2 f3 f4 f5 f6 f7 f8 (iu hf0) (iu hf1) (iu hf2) (iu hf3) (iu hf4) (iu hf5) (iu hf6) (iu hf7) (iu hf8) g g0 g1 g2 g3 g4 g5 g6 g7 g8 (iu hg0) (iu hg1) (iu hg2) (iu hg3) (iu hg4) (iu hg5) (iu hg6) (iu hg7) (iu hg8) a0 a1 a2 a3 a4 a5 a6 a7 a8 ha hnp hdp)) <| wE (oCl (l_sameT9 y10 a0 a1 a2 a3 a4 a5 a6 a7 a8 (iok_up (bn1 a0 (by simp)) (by decide)) (iok_up (bn1 a1 (by simp)) (by decide)) (iok_up (bn1 a2 (by simp)) (by decide)) (iok_up (bn1 a3 (by simp)) (by decide)) (iok_up (bn1 a4 (by simp)) (by decide)) (iok_up (bn1 a5 (by simp)) (by decide)) (iok_up (bn1 a6 (by simp)) (by decide)) (iok_up (bn1 a7 (by simp)) (by decide)) (iok_up (bn1 a8 (by simp)) (by decide)) y10 a0 a1 a2 a3 a4 a5 a6 a7 a8 (iok_up (bn1 a0 (by simp)) (by decide)) (iok_up (bn1 a1 (by simp)) (by decide)) (iok_up (bn1 a2 (by simp)) (by decide)) (iok_up (bn1 a3 (by simp)) (by decide)) (iok_up (bn1 a4 (by simp)) (by decide)) (iok_up (bn1 a5 (by simp)) (by decide)) (iok_up (bn1 a6 (by simp)) (by decide)) (iok_up (bn1 a7 (by simp)) (by decide)) (iok_up (bn1 a8 (by simp)) (by decide)) (validI_ofZ _) (validI_ofZ _) (validI_ofZ _) (validI_ofZ _) (validI_ofZ _) (validI_ofZ _) (validI_ofZ _) (validI_ofZ _) (validI_ofZ _) (sameI_self _) (sameI_self _) (sameI_self _) (sameI_self _) (sameI_self _) (sameI_self _) (sameI_self _) (sameI_self _) (sameI_self _))) <| wE oNt <| wE oPf <| wZ) ?_
  refine pwp_cond (b := false) (by kernel_rfl) (fun h => by cases h) (fun _ => ?_)
  refine pwp_skip <| pwp_seq ?_
  have bn3 : ∀ c ∈ [1, 0, 0, 0, 1, 0, 0, 0, 1], IOk (ofZ c) c 15 := red_iok (n := 15) (.cons (iok_add (k := 15) (iok_add (k := 14) (iok_mul (k := 13) hf0 (bn2 b0 (by simp)) (by decide)) (iok_mul (k := 13) hf1 (bn2 b3 (by simp)) (by decide)) (by decide)) (iok_mul (k := 13) hf2 (bn2 b6 (by simp)) (by decide)) (by decide)) (.cons (iok_add (k := 15) (iok_add (k := 14) (iok_mul (k := 13) hf0 (bn2 b1 (by simp)) (by decide)) (iok_mul (k := 13) hf1 (bn2 b4 (by simp)) (by decide)) (by decide)) (iok_mul (k := 13) hf2 (bn2 b7 (by simp)) (by decide)) (by decide)) (.cons (iok_add (k := 15) (iok_add (k := 14) (iok_mul (k := 13) hf0 (bn2 b2 (by simp)) (by decide)) (iok_mul (k := 13) hf1 (bn2 b5 (by simp)) (by decide)) (by decide)) (iok_mul (k := 13) hf2 (bn2 b8 (by simp)) (by decide)) (by decide)) (.cons (iok_add (k := 15) (iok_add (k := 14) (iok_mul (k := 13) hf3 (bn2 b0 (by simp)) (by decide)) (iok_mul (k := 13) hf4 (bn2 b3 (by simp)) (by decide)) (by decide)) (iok_mul (k := 13) hf5 (bn2 b6 (by simp)) (by decide)) (by decide)) (.cons (iok_add (k := 15) (iok_add (k := 14) (iok_mul (k := 13) hf3 (bn2 b1 (by simp)) (by decide)) (iok_mul (k := 13) hf4 (bn2 b4 (by simp)) (by decide)) (by decide)) (iok_mul (k := 13) hf5 (bn2 b7 (by simp)) (by decide)) (by decide)) (.cons (iok_add (k := 15) (iok_add (k := 14) (iok_mul (k := 13) hf3 (bn2 b2 (by simp)) (by decide)) (iok_mul (k := 13) hf4 (bn2 b5 (by simp)) (by decide)) (by decide)) (iok_mul (k := 13) hf5 (bn2 b8 (by simp)) (by decide)) (by decide)) (.cons (iok_add (k := 15) (iok_add (k := 14) (iok_mul (k := 13) hf6 (bn2 b0 (by simp)) (by decide)) (iok_mul (k := 13) hf7 (bn2 b3 (by simp)) (by decide)) (by decide)) (iok_mul (k := 13) hf8 (bn2 b6 (by simp)) (by decide)) (by decide)) (.cons (iok_add (k := 15) (iok_add (k := 14) (iok_mul (k := 13) hf6 (bn2 b1 (by simp)) (by decide)) (iok_mul (k := 13) hf7 (bn2 b4 (by simp)) (by decide)) (by decide)) (iok_mul (k := 13) hf8 (bn2 b7 (by simp)) (by decide)) (by decide)) (.cons (iok_add (k := 15) (iok_add (k := 14) (iok_mul (k := 13) hf6 (bn2 b2 (by simp)) (by decide)) (iok_mul (k := 13) hf7 (bn2 b5 (by simp)) (by decide)) (by decide)) (iok_mul (k := 13) hf8 (bn2 b8 (by simp)) (by decide)) (by decide)) .nil))))))))) hone
  refine kx [(11, (.ref 5 0)), (12, (vi 0))] [(5, some (bx (encA31 (A9.mk (ofZ 1) (ofZ 0) (ofZ 0) (ofZ 0) (ofZ 1) (ofZ 0) (ofZ 0) (ofZ 0) (ofZ 1)))))] (zR (oLa sh32) <| zR (oLa sh32) <| zE (oCl (d_comp f f0 f1 f2 f3 f4 f5 f6 f7 f8 (iu hf0) (iu hf1) (iu hf2) (iu hf3) (iu hf4) (iu hf5) (iu hf6) (iu hf7) (iu hf8) y11 b0 b1 b2 b3 b4 b5 b6 b7 b8 (iok_up (bn2 b0 (by simp)) (by decide)) (iok_up (bn2 b1 (by simp)) (by decide)) (iok_up (bn2 b2 (by simp)) (by decide)) (iok_up (bn2 b3 (by simp)) (by decide)) (iok_up (bn2 b4 (by simp)) (by decide)) (iok_up (bn2 b5 (by simp)) (by decide)) (iok_up (bn2 b6 (by simp)) (by decide)) (iok_up (bn2 b7 (by simp)) (by decide)) (iok_up (bn2 b8 (by simp)) (by decide)) 1 0 0 0 1 0 0 0 1 hone hvf hvb hnb)) <| zM <| zE oEx <| zE oEx <| zN (oAl 5 ze32 zo32) <| zT (oSt sh32) <| zM <| zZ) ?_
  refine pwp_seq <| pwp_seq <| kd [(96, (vb false))] [] mo (wM <| wE oNe <| wM <| wR (oLa sh32) <| wE (oCl d_ident) <| wE (oCl (l_sameT9 (A9.mk (ofZ 1) (ofZ 0) (ofZ 0) (ofZ 0) (ofZ 1) (ofZ 0) (ofZ 0) (ofZ 0) (ofZ 1)) 1 0 0 0 1 0 0 0 1 (iok_up (bn3 1 (by simp)) (by decide)) (iok_up (bn3 0 (by simp)) (by decide)) (iok_up (bn3 0 (by simp)) (by decide)) (iok_up (bn3 0 (by simp)) (by decide)) (iok_up (bn3 1 (by simp)) (by decide)) (iok_up (bn3 0 (by simp)) (by decide)) (iok_up (bn3 0 (by simp)) (by decide)) (iok_up (bn3 0 (by simp)) (by decide)) (iok_up (bn3 1 (by simp)) (by decide)) (A9.mk (ofZ 1) (ofZ 0) (ofZ 0) (ofZ 0) (ofZ 1) (ofZ 0) (ofZ 0) (ofZ 0) (ofZ 1)) 1 0 0 0 1 0 0 0 1 (iok_up (iok_small (z := 1) (by decide)) (by decide)) (iok_up (iok_small (z := 0) (by decide)) (by decide)) (iok_up (iok_small (z := 0) (by decide)) (by decide)) (iok_up (iok_small (z := 0) (by decide)) (by decide)) (iok_up (iok_small (z := 1) (by decide)) (by decide)) (iok_up (iok_small (z := 0) (by decide)) (by decide)) (iok_up (iok_small (z := 0) (by decide)) (by decide)) (iok_up (iok_small (z := 0) (by decide)) (by decide)) (iok_up (iok_small (z := 1) (by decide)) (by decide)) (validI_ofZ _) (validI_ofZ _) (validI_ofZ _) (validI_ofZ _) (validI_ofZ _) (validI_ofZ _) (validI_ofZ _) (validI_ofZ _) (validI_ofZ _) (sameI_self _) (sameI_self _) (sameI_self _) (sameI_self _) (sameI_self _) (sameI_self _) (sameI_self _) (sameI_self _) (sameI_self _))) <| wE oNt <| wE oPf <| wZ) ?_
  refine pwp_cond (b := false) (by kernel_rfl) (fun h => by cases h) (fun _ => ?_)
  refine pwp_skip <| pwp_seq <| pwp_seq <| kx [(99, (vb false))] [] (zR (oLa sh32) <| zE (oBk true (oCl (l_valid h h0 h1 h2 h3 h4 h5 h6 h7 h8 (iu hh0) (iu hh1) (iu hh2) (iu hh3) (iu hh4) (iu hh5) (iu hh6) (iu hh7) (iu hh8))) (by exact hvh)) <| zE oNt <| zZ) ?_
  refine pwp_cond (b := false) (by kernel_rfl) (fun h => by cases h) (fun _ => ?_)
  refine pwp_skip <| pwp_seq ?_
  have bn4 : ∀ c ∈ [x0, x1, x2, x3, x4, x5, x6, x7, x8], IOk (ofZ c) c 16 := red_iok (n := 16) (.cons (iok_add (k := 16) (iok_add (k := 15) (iok_mul (k := 14) (bn1 a0 (by simp)) hh0 (by decide)) (iok_mul (k := 14) (bn1 a1 (by simp)) hh3 (by decide)) (by decide)) (iok_mul (k := 14) (bn1 a2 (by simp)) hh6 (by decide)) (by decide)) (.cons (iok_add (k := 16) (iok_add (k := 15) (iok_mul (k := 14) (bn1 a0 (by simp)) hh1 (by decide)) (iok_mul (k := 14) (bn1 a1 (by simp)) hh4 (by decide)) (by decide)) (iok_mul (k := 14) (bn1 a2 (by simp)) hh7 (by decide)) (by decide)) (.cons (iok_add (k := 16) (iok_add (k := 15) (iok_mul (k := 14) (bn1 a0 (by simp)) hh2 (by decide)) (iok_mul (k := 14) (bn1 a1 (by simp)) hh5 (by decide)) (by decide)) (iok_mul (k := 14) (bn1 a2 (by simp)) hh8 (by decide)) (by decide)) (.cons (iok_add (k := 16) (iok_add (k := 15) (iok_mul (k := 14) (bn1 a3 (by simp)) hh0 (by decide)) (iok_mul (k := 14) (bn1 a4 (by simp)) hh3 (by decide)) (by decide)) (iok_mul (k := 14) (bn1 a5 (by simp)) hh6 (by decide)) (by decide)) (.cons (iok_add (k := 16) (iok_add (k := 15) (iok_mul (k := 14) (bn1 a3 (by simp)) hh1 (by decide)) (iok_mul (k := 14) (bn1 a4 (by simp)) hh4 (by decide)) (by decide)) (iok_mul (k := 14) (bn1 a5 (by simp)) hh7 (by decide)) (by decide)) (.cons (iok_add (k := 16) (iok_add (k := 15) (iok_mul (k := 14) (bn1 a3 (by simp)) hh2 (by decide)) (iok_mul (k := 14) (bn1 a4 (by simp)) hh5 (by decide)) (by decide)) (iok_mul (k := 14) (bn1 a5 (by simp)) hh8 (by decide)) (by decide)) (.cons (iok_add (k := 16) (iok_add (k := 15) (iok_mul (k := 14) (bn1 a6 (by simp)) hh0 (by decide)) (iok_mul (k := 14) (bn1 a7 (by simp)) hh3 (by decide)) (by decide)) (iok_mul (k := 14) (bn1 a8 (by simp)) hh6 (by decide)) (by decide)) (.cons (iok_add (k := 16) (iok_add (k := 15) (iok_mul (k := 14) (bn1 a6 (by simp)) hh1 (by decide)) (iok_mul (k := 14) (bn1 a7 (by simp)) hh4 (by decide)) (by decide)) (iok_mul (k := 14) (bn1 a8 (by simp)) hh7 (by decide)) (by decide)) (.cons (iok_add (k := 16) (iok_add (k := 15) (iok_mul (k := 14) (bn1 a6 (by simp)) hh2 (by decide)) (iok_mul (k := 14) (bn1 a7 (by simp)) hh5 (by decide)) (by decide)) (iok_mul (k := 14) (bn1 a8 (by simp)) hh8 (by decide)) (by decide)) .nil))))))))) hx
  refine kx [(13, (.ref 6 0)), (14, (vi 0))] [(6, some y9)] (zR (oLa sh32) <| zR (oLa sh32) <| zE (oCl (d_comp y10 a0 a1 a2 a3 a4 a5 a6 a7 a8 (iok_up (bn1 a0 (by simp)) (by decide)) (iok_up (bn1 a1 (by simp)) (by decide)) (iok_up (bn1 a2 (by simp)) (by decide)) (iok_up (bn1 a3 (by simp)) (by decide)) (iok_up (bn1 a4 (by simp)) (by decide)) (iok_up (bn1 a5 (by simp)) (by decide)) (iok_up (bn1 a6 (by simp)) (by decide)) (iok_up (bn1 a7 (by simp)) (by decide)) (iok_up (bn1 a8 (by simp)) (by decide)) h h0 h1 h2 h3 h4 h5 h6 h7 h8 (iu hh0) (iu hh1) (iu hh2) (iu hh3) (iu hh4) (iu hh5) (iu hh6) (iu hh7) (iu hh8) x0 x1 x2 x3 x4 x5 x6 x7 x8 hx hva hvh hnx)) <| zM <| zE oEx <| zE oEx <| zN (oAl 6 ze32 zo32) <| zT (oSt sh32) <| zM <| zZ) ?_
  refine pwp_seq ?_
  have bn5 : ∀ c ∈ [y0, y1, y2, y3, y4, y5, y6, y7, y8], IOk (ofZ c) c 10 := red_iok (n := 10) (.cons (iok_add (k := 10) (iok_add (k := 9) (iok_mul (k := 8) hg0 hh0 (by decide)) (iok_mul (k := 8) hg1 hh3 (by decide)) (by decide)) (iok_mul (k := 8) hg2 hh6 (by decide)) (by decide)) (.cons (iok_add (k := 10) (iok_add (k := 9) (iok_mul (k := 8) hg0 hh1 (by decide)) (iok_mul (k := 8) hg1 hh4 (by decide)) (by decide)) (iok_mul (k := 8) hg2 hh7 (by decide)) (by decide)) (.cons (iok_add (k := 10) (iok_add (k := 9) (iok_mul (k := 8) hg0 hh2 (by decide)) (iok_mul (k := 8) hg1 hh5 (by decide)) (by decide)) (iok_mul (k := 8) hg2 hh8 (by decide)) (by decide)) (.cons (iok_add (k := 10) (iok_add (k := 9) (iok_mul (k := 8) hg3 hh0 (by decide)) (iok_mul (k := 8) hg4 hh3 (by decide)) (by decide)) (iok_mul (k := 8) hg5 hh6 (by decide)) (by decide)) (.cons (iok_add (k := 10) (iok_add (k := 9) (iok_mul (k := 8) hg3 hh1 (by decide)) (iok_mul (k := 8) hg4 hh4 (by decide)) (by decide)) (iok_mul (k := 8) hg5 hh7 (by decide)) (by decide)) (.cons (iok_add (k := 10) (iok_add (k := 9) (iok_mul (k := 8) hg3 hh2 (by decide)) (iok_mul (k := 8) hg4 hh5 (by decide)) (by decide)) (iok_mul (k := 8) hg5 hh8 (by decide)) (by decide)) (.cons (iok_add (k := 10) (iok_add (k := 9) (iok_mul (k := 8) hg6 hh0 (by decide)) (iok_mul (k := 8) hg7 hh3 (by decide)) (by decide)) (iok_mul (k := 8) hg8 hh6 (by decide)) (by decide)) (.cons (iok_add (k := 10) (iok_add (k := 9) (iok_mul (k := 8) hg6 hh1 (by decide)) (iok_mul (k := 8) hg7 hh4 (by decide)) (by decide)) (iok_mul (k := 8) hg8 hh7 (by decide)) (by decide)) (.cons (iok_add (k := 10) (iok_add (k := 9) (iok_mul (k := 8) hg6 hh2 (by decide)) (iok_mul (k := 8) hg7 hh5 (by decide)) (by decide)) (iok_mul (k := 8) hg8 hh8 (by decide)) (by decide)) .nil))))))))) hy
  refine kx [(15, (.ref 7 0)), (16, (vi 0))] [(7, some (bx (encA31 y13)))] (zR (oLa sh32) <| zR (oLa sh32) <| zE (oCl (d_comp g g0 g1 g2 g3 g4 g5 g6 g7 g8 (iu hg0) (iu hg1) (iu hg2) (iu hg3) (iu hg4) (iu hg5) (iu hg6) (iu hg7) (iu hg8) h h0 h1 h2 h3 h4 h5 h6 h7 h8 (iu hh0) (iu hh1) (iu hh2) (iu hh3) (iu hh4) (iu hh5) (iu hh6) (iu hh7) (iu hh8) y0 y1 y2 y3 y4 y5 y6 y7 y8 hy hvg hvh hny)) <| zM <| zE oEx <| zE oEx <| zN (oAl 7 ze32 zo32) <| zT (oSt sh32) <| zM <| zZ) ?_
  refine pwp_seq <| pwp_sim (wk (l := [(3, (.ref 0 0)), (13, (.ref 6 0)), (14, (vi 0)), (15, (.ref 7 0)), (16, (vi 0))]) (b := [(0, some (bx (encA31 f))), (6, some y9), (7, some (bx (encA31 y13)))])) ?_
  refine kx [(17, (.ref 8 0)), (18, (vi 0))] [(8, some y9)] (zR (oLa sh32) <| zR (oLa sh32) <| zE (oCl (d_comp f f0 f1 f2 f3 f4 f5 f6 f7 f8 (iu hf0) (iu hf1) (iu hf2) (iu hf3) (iu hf4) (iu hf5) (iu hf6) (iu hf7) (iu hf8) y13 y0 y1 y2 y3 y4 y5 y6 y7 y8 (iok_up (bn5 y0 (by simp)) (by decide)) (iok_up (bn5 y1 (by simp)) (by decide)) (iok_up (bn5 y2 (by simp)) (by decide)) (iok_up (bn5 y3 (by simp)) (by decide)) (iok_up (bn5 y4 (by simp)) (by decide)) (iok_up (bn5 y5 (by simp)) (by decide)) (iok_up (bn5 y6 (by simp)) (by decide)) (iok_up (bn5 y7 (by simp)) (by decide)) (iok_up (bn5 y8 (by simp)) (by decide)) x0 x1 x2 x3 x4 x5 x6 x7 x8 hxy hvf hvy hnz)) <| zM <| zE oEx <| zE oEx <| zN (oAl 8 ze32 zo32) <| zT (oSt sh32) <| zM <| zZ) ?_
  refine pwp_seq <| kx [(6, (vb true))] [] (zM <| zE oEq <| zM <| zM <| zE oEq <| zE oPt <| zM <| zM <| zE oEq <| zE oPt <| zM <| zR (oLa sh32) <| zR (oLa sh32) <| zE (oCl (l_sameT9 y12 x0 x1 x2 x3 x4 x5 x6 x7 x8 (iok_up (bn4 x0 (by simp)) (by decide)) (iok_up (bn4 x1 (by simp)) (by decide)) (iok_up (bn4 x2 (by simp)) (by decide)) (iok_up (bn4 x3 (by simp)) (by decide)) (iok_up (bn4 x4 (by simp)) (by decide)) (iok_up (bn4 x5 (by simp)) (by decide)) (iok_up (bn4 x6 (by simp)) (by decide)) (iok_up (bn4 x7 (by simp)) (by decide)) (iok_up (bn4 x8 (by simp)) (by decide)) y12 x0 x1 x2 x3 x4 x5 x6 x7 x8 (iok_up (bn4 x0 (by simp)) (by decide)) (iok_up (bn4 x1 (by simp)) (by decide)) (iok_up (bn4 x2 (by simp)) (by decide)) (iok_up (bn4 x3 (by simp)) (by decide)) (iok_up (bn4 x4 (by simp)) (by decide)) (iok_up (bn4 x5 (by simp)) (by decide)) (iok_up (bn4 x6 (by simp)) (by decide)) (iok_up (bn4 x7 (by simp)) (by decide)) (iok_up (bn4 x8 (by simp)) (by decide)) (validI_ofZ _) (validI_ofZ _) (validI_ofZ _) (validI_ofZ _) (validI_ofZ _) (validI_ofZ _) (validI_ofZ _) (validI_ofZ _) (validI_ofZ _) (sameI_self _) (sameI_self _) (sameI_self _) (sameI_self _) (sameI_self _) (sameI_self _) (sameI_self _) (sameI_self _) (sameI_self _))) <| zE oPt <| zM <| zZ) ?_
  refine pwp_ret ⟨_, (.tmp (d := (.val (.bool (true)))) rfl .nil), ?_⟩
  rfl
end Go.Proofs.YtadkkhdnccljcaaGreat
set_option linter.unusedVariables false
set_option linter.unusedSimpArgs false
namespace Go.Fid
theorem sgnL_zero {zs : List Int} : sgnL zs = 0 ↔ ∀ z ∈ zs, z = 0 := by
  constructor
  · intro h z hz
    rcases Int.decEq z 0 with h0 | h0
    · exact absurd h (sgnL_of hz h0)
    · exact h0
  · intro h
    rcases Int.decEq (sgnL zs) 0 with h0 | h0
    · obtain ⟨z, hz, h1⟩ := sgnL_ne h0
      exact absurd (h z hz) h1
    · exact h0
theorem valH_det {l : List RInt} {d : Int} (h : valH l d = true) : d ≠ 0 := fun e => by
  unfold valH at h; rw [e] at h; simp [signI_zero] at h
theorem short4_len {x : RInt} (h : short4 x = true) : x.gs.length ≤ 4 := of_decide_eq_true h
theorem iok_short {x : RInt} (h : short4 x = true) : IOk x (toZ x) 4 := iok_raw (short4_len h)
theorem prop_red {P Q : List Int} {k m : Int} (hk : k ≠ 0) (hm : m ≠ 0) (h : P.map (m * ·) = Q.map (k * ·)) (hP : sgnL P ≠ 0) (hQ : sgnL Q ≠ 0) : redL P = redL Q := by
  rw [← redL_scale hm hP, h, redL_scale hk hQ]
theorem iok_ex {x : RInt} (h : short4 x = true) : ∃ z, toZ x = z ∧ IOk x z 4 := ⟨_, rfl, iok_short h⟩
end Go.Fid
set_option linter.unusedVariables false
set_option linter.unusedSimpArgs false
namespace Go.Fid
theorem red_back {zs cs : List Int} (hnz : sgnL zs ≠ 0) (hc : redL zs = cs) : ∃ d : Int, d ≠ 0 ∧ cs.map (d * ·) = zs ∧ sgnL cs ≠ 0 ∧ dvL cs = 1 :=
  ⟨dvL zs, dvL_ne hnz, hc ▸ redL_back hnz, hc ▸ redL_ne hnz, hc ▸ dvL_red hnz⟩
theorem det_nz9 {z0 z1 z2 z3 z4 z5 z6 z7 z8 : Int} (hd : det3 z0 z1 z2 z3 z4 z5 z6 z7 z8 ≠ 0) : sgnL [z0, z1, z2, z3, z4, z5, z6, z7, z8] ≠ 0 := fun e => by
  have h := sgnL_zero.1 e
  simp only [List.mem_cons, List.not_mem_nil, or_false, forall_eq_or_imp, forall_eq] at h
  obtain ⟨a0, a1, a2, a3, a4, a5, a6, a7, a8⟩ := h
  exact hd (by rw [a0, a1, a2]; simp [det3])
theorem red9 {z0 z1 z2 z3 z4 z5 z6 z7 z8 c0 c1 c2 c3 c4 c5 c6 c7 c8 : Int} (hd : det3 z0 z1 z2 z3 z4 z5 z6 z7 z8 ≠ 0) (hc : redL [z0, z1, z2, z3, z4, z5, z6, z7, z8] = [c0, c1, c2, c3, c4, c5, c6, c7, c8]) :
    ∃ d : Int, d ≠ 0 ∧ (d * c0 = z0 ∧ d * c1 = z1 ∧ d * c2 = z2 ∧ d * c3 = z3 ∧ d * c4 = z4 ∧ d * c5 = z5 ∧ d * c6 = z6 ∧ d * c7 = z7 ∧ d * c8 = z8) ∧ det3 c0 c1 c2 c3 c4 c5 c6 c7 c8 ≠ 0 ∧
      valH [ofZ c0, ofZ c1, ofZ c2, ofZ c3, ofZ c4, ofZ c5, ofZ c6, ofZ c7, ofZ c8] (det3 c0 c1 c2 c3 c4 c5 c6 c7 c8) = true := by
  obtain ⟨d, h0, h1, h2, h3⟩ := red_back (det_nz9 hd) hc
  simp only [List.map_cons, List.map_nil, List.cons.injEq, and_true] at h1
  obtain ⟨a0, a1, a2, a3, a4, a5, a6, a7, a8⟩ := h1
  have hn : det3 c0 c1 c2 c3 c4 c5 c6 c7 c8 ≠ 0 := fun e => hd (by
    rw [← a0, ← a1, ← a2, ← a3, ← a4, ← a5, ← a6, ← a7, ← a8]
    have : det3 (d * c0) (d * c1) (d * c2) (d * c3) (d * c4) (d * c5) (d * c6) (d * c7) (d * c8) = d * d * d * det3 c0 c1 c2 c3 c4 c5 c6 c7 c8 := by unfold det3; grind
    rw [this, e, Int.mul_zero])
  exact ⟨d, h0, ⟨a0, a1, a2, a3, a4, a5, a6, a7, a8⟩, hn, valH_closed [c0, c1, c2, c3, c4, c5, c6, c7, c8] _ ⟨⟨h2, h3⟩, signI_ne hn⟩⟩
theorem det_prod (f0 f1 f2 f3 f4 f5 f6 f7 f8 g0 g1 g2 g3 g4 g5 g6 g7 g8 : Int) :
    det3 (f0 * g0 + f1 * g3 + f2 * g6) (f0 * g1 + f1 * g4 + f2 * g7) (f0 * g2 + f1 * g5 + f2 * g8) (f3 * g0 + f4 * g3 + f5 * g6) (f3 * g1 + f4 * g4 + f5 * g7) (f3 * g2 + f4 * g5 + f5 * g8) (f6 * g0 + f7 * g3 + f8 * g6) (f6 * g1 + f7 * g4 + f8 * g7) (f6 * g2 + f7 * g5 + f8 * g8)
      = det3 f0 f1 f2 f3 f4 f5 f6 f7 f8 * det3 g0 g1 g2 g3 g4 g5 g6 g7 g8 := by unfold det3; grind
theorem det_prod_ne {f0 f1 f2 f3 f4 f5 f6 f7 f8 g0 g1 g2 g3 g4 g5 g6 g7 g8 : Int} (hf : det3 f0 f1 f2 f3 f4 f5 f6 f7 f8 ≠ 0) (hg : det3 g0 g1 g2 g3 g4 g5 g6 g7 g8 ≠ 0) :
    det3 (f0 * g0 + f1 * g3 + f2 * g6) (f0 * g1 + f1 * g4 + f2 * g7) (f0 * g2 + f1 * g5 + f2 * g8) (f3 * g0 + f4 * g3 + f5 * g6) (f3 * g1 + f4 * g4 + f5 * g7) (f3 * g2 + f4 * g5 + f5 * g8) (f6 * g0 + f7 * g3 + f8 * g6) (f6 * g1 + f7 * g4 + f8 * g7) (f6 * g2 + f7 * g5 + f8 * g8) ≠ 0 := by
  rw [det_prod]; exact Int.mul_ne_zero hf hg
theorem adj_det (h0 h1 h2 h3 h4 h5 h6 h7 h8 : Int) : det3 (h4 * h8 - h5 * h7) (h7 * h2 - h8 * h1) (h1 * h5 - h2 * h4) (h5 * h6 - h3 * h8) (h8 * h0 - h6 * h2) (h2 * h3 - h0 * h5) (h3 * h7 - h4 * h6) (h6 * h1 - h7 * h0) (h0 * h4 - h1 * h3)
    = det3 h0 h1 h2 h3 h4 h5 h6 h7 h8 * det3 h0 h1 h2 h3 h4 h5 h6 h7 h8 := by unfold det3; grind
theorem adj_ne {h0 h1 h2 h3 h4 h5 h6 h7 h8 : Int} (hd : det3 h0 h1 h2 h3 h4 h5 h6 h7 h8 ≠ 0) : det3 (h4 * h8 - h5 * h7) (h7 * h2 - h8 * h1) (h1 * h5 - h2 * h4) (h5 * h6 - h3 * h8) (h8 * h0 - h6 * h2) (h2 * h3 - h0 * h5) (h3 * h7 - h4 * h6) (h6 * h1 - h7 * h0) (h0 * h4 - h1 * h3) ≠ 0 := by
  rw [adj_det]; exact Int.mul_ne_zero hd hd
theorem inv_prod {f0 f1 f2 f3 f4 f5 f6 f7 f8 b0 b1 b2 b3 b4 b5 b6 b7 b8 : Int} (hd : det3 f0 f1 f2 f3 f4 f5 f6 f7 f8 ≠ 0)
    (hb : redL [f4 * f8 - f5 * f7, f7 * f2 - f8 * f1, f1 * f5 - f2 * f4, f5 * f6 - f3 * f8, f8 * f0 - f6 * f2, f2 * f3 - f0 * f5, f3 * f7 - f4 * f6, f6 * f1 - f7 * f0, f0 * f4 - f1 * f3] = [b0, b1, b2, b3, b4, b5, b6, b7, b8]) :
    redL [f0 * b0 + f1 * b3 + f2 * b6, f0 * b1 + f1 * b4 + f2 * b7, f0 * b2 + f1 * b5 + f2 * b8, f3 * b0 + f4 * b3 + f5 * b6, f3 * b1 + f4 * b4 + f5 * b7, f3 * b2 + f4 * b5 + f5 * b8, f6 * b0 + f7 * b3 + f8 * b6, f6 * b1 + f7 * b4 + f8 * b7, f6 * b2 + f7 * b5 + f8 * b8] = [1, 0, 0, 0, 1, 0, 0, 0, 1] := by
  obtain ⟨d, h0, ⟨a0, a1, a2, a3, a4, a5, a6, a7, a8⟩, hn, _⟩ := red9 (adj_ne hd) hb
  have e : ∀ x y z u v w : Int, d * (x * u + y * v + z * w) = x * (d * u) + y * (d * v) + z * (d * w) := fun x y z u v w => by grind
  have hP := det_nz9 (det_prod_ne hd hn)
  have hr := prop_red (Q := [1, 0, 0, 0, 1, 0, 0, 0, 1]) (k := det3 f0 f1 f2 f3 f4 f5 f6 f7 f8) (m := d) hd h0 (by
    simp only [List.map_cons, List.map_nil, e, a0, a1, a2, a3, a4, a5, a6, a7, a8, Int.mul_zero, Int.mul_one, List.cons.injEq, and_true]
    unfold det3
    refine ⟨?_, ?_, ?_, ?_, ?_, ?_, ?_, ?_, ?_⟩ <;> grind) hP (by decide)
  rw [hr]; decide
theorem assoc_one {da dy a0 a1 a2 h0 h1 h2 f0 f1 f2 y0 y1 y2 g0 g1 g2 g3 g4 g5 g6 g7 g8 : Int} (e0 : da * a0 = f0 * g0 + f1 * g3 + f2 * g6) (e1 : da * a1 = f0 * g1 + f1 * g4 + f2 * g7) (e2 : da * a2 = f0 * g2 + f1 * g5 + f2 * g8)
    (k0 : dy * y0 = g0 * h0 + g1 * h1 + g2 * h2) (k1 : dy * y1 = g3 * h0 + g4 * h1 + g5 * h2) (k2 : dy * y2 = g6 * h0 + g7 * h1 + g8 * h2) :
    da * (a0 * h0 + a1 * h1 + a2 * h2) = dy * (f0 * y0 + f1 * y1 + f2 * y2) := by
  have l : da * (a0 * h0 + a1 * h1 + a2 * h2) = (da * a0) * h0 + (da * a1) * h1 + (da * a2) * h2 := by grind
  have r : dy * (f0 * y0 + f1 * y1 + f2 * y2) = f0 * (dy * y0) + f1 * (dy * y1) + f2 * (dy * y2) := by grind
  rw [l, r, e0, e1, e2, k0, k1, k2]; grind
theorem assoc_red {f0 f1 f2 f3 f4 f5 f6 f7 f8 g0 g1 g2 g3 g4 g5 g6 g7 g8 h0 h1 h2 h3 h4 h5 h6 h7 h8 a0 a1 a2 a3 a4 a5 a6 a7 a8 y0 y1 y2 y3 y4 y5 y6 y7 y8 : Int}
    (hf : det3 f0 f1 f2 f3 f4 f5 f6 f7 f8 ≠ 0) (hg : det3 g0 g1 g2 g3 g4 g5 g6 g7 g8 ≠ 0) (hh : det3 h0 h1 h2 h3 h4 h5 h6 h7 h8 ≠ 0)
    (ha : redL [f0 * g0 + f1 * g3 + f2 * g6, f0 * g1 + f1 * g4 + f2 * g7, f0 * g2 + f1 * g5 + f2 * g8, f3 * g0 + f4 * g3 + f5 * g6, f3 * g1 + f4 * g4 + f5 * g7, f3 * g2 + f4 * g5 + f5 * g8, f6 * g0 + f7 * g3 + f8 * g6, f6 * g1 + f7 * g4 + f8 * g7, f6 * g2 + f7 * g5 + f8 * g8] = [a0, a1, a2, a3, a4, a5, a6, a7, a8])
    (hy : redL [g0 * h0 + g1 * h3 + g2 * h6, g0 * h1 + g1 * h4 + g2 * h7, g0 * h2 + g1 * h5 + g2 * h8, g3 * h0 + g4 * h3 + g5 * h6, g3 * h1 + g4 * h4 + g5 * h7, g3 * h2 + g4 * h5 + g5 * h8, g6 * h0 + g7 * h3 + g8 * h6, g6 * h1 + g7 * h4 + g8 * h7, g6 * h2 + g7 * h5 + g8 * h8] = [y0, y1, y2, y3, y4, y5, y6, y7, y8]) :
    redL [f0 * y0 + f1 * y3 + f2 * y6, f0 * y1 + f1 * y4 + f2 * y7, f0 * y2 + f1 * y5 + f2 * y8, f3 * y0 + f4 * y3 + f5 * y6, f3 * y1 + f4 * y4 + f5 * y7, f3 * y2 + f4 * y5 + f5 * y8, f6 * y0 + f7 * y3 + f8 * y6, f6 * y1 + f7 * y4 + f8 * y7, f6 * y2 + f7 * y5 + f8 * y8] =
    redL [a0 * h0 + a1 * h3 + a2 * h6, a0 * h1 + a1 * h4 + a2 * h7, a0 * h2 + a1 * h5 + a2 * h8, a3 * h0 + a4 * h3 + a5 * h6, a3 * h1 + a4 * h4 + a5 * h7, a3 * h2 + a4 * h5 + a5 * h8, a6 * h0 + a7 * h3 + a8 * h6, a6 * h1 + a7 * h4 + a8 * h7, a6 * h2 + a7 * h5 + a8 * h8] := by
  obtain ⟨da, ka, ⟨x0, x1, x2, x3, x4, x5, x6, x7, x8⟩, na, _⟩ := red9 (det_prod_ne hf hg) ha
  obtain ⟨dy, ky, ⟨w0, w1, w2, w3, w4, w5, w6, w7, w8⟩, ny, _⟩ := red9 (det_prod_ne hg hh) hy
  refine (prop_red (k := dy) (m := da) ky ka ?_ (det_nz9 (det_prod_ne na hh)) (det_nz9 (det_prod_ne hf ny))).symm
  simp only [List.map_cons, List.map_nil, List.cons.injEq, and_true]
  exact ⟨assoc_one x0 x1 x2 w0 w3 w6, assoc_one x0 x1 x2 w1 w4 w7, assoc_one x0 x1 x2 w2 w5 w8, assoc_one x3 x4 x5 w0 w3 w6, assoc_one x3 x4 x5 w1 w4 w7, assoc_one x3 x4 x5 w2 w5 w8, assoc_one x6 x7 x8 w0 w3 w6, assoc_one x6 x7 x8 w1 w4 w7, assoc_one x6 x7 x8 w2 w5 w8⟩
end Go.Fid
namespace Go.Fid
set_option linter.unusedVariables false
set_option linter.unusedSimpArgs false
open Go.RowKit (Below)
mutual
inductive Ty where
  | int (k : IntKind)
  | bool
  | sl (E : TypeId) (s : Nat) (e : Ty)
  | st (fs : TyL)
  | ar (n : Nat) (E : TypeId) (fs : TyL)
inductive TyL where
  | nil
  | cons (t : TypeId) (ty : Ty) (r : TyL)
end
mutual
def Ty.size : Ty → Nat
  | .int _ => 1
  | .bool => 1
  | .sl _ _ _ => 1
  | .st fs => fs.size
  | .ar _ _ fs => fs.size
def TyL.size : TyL → Nat
  | .nil => 0
  | .cons _ ty r => ty.size + r.size
end
def fieldsB : List Field → Nat → TyL → Bool
  | [], _, .nil => true
  | f :: l, off, .cons t ty r => Nat.beq f.type t && (Nat.beq f.offset off && fieldsB l (off + ty.size) r)
  | _, _, _ => false
def arFs (E : TypeId) (z : Nat) : Nat → Nat → List Field
  | 0, _ => []
  | n + 1, i => { name := "", type := E, offset := i * z, embedded := false, tag := "", pkgPath := "", byteOffset := 0 } :: arFs E z n (i + 1)
theorem arFs_mem {E : TypeId} {z : Nat} : ∀ {n i : Nat} {f : Field}, f ∈ arFs E z n i → ∃ j, j < n ∧ f.type = E ∧ f.offset = (i + j) * z
  | 0, _, _, h => by cases h
  | n + 1, i, f, h => by
    rcases List.mem_cons.1 h with e | h
    · exact ⟨0, by omega, by rw [e], by rw [e]; rfl⟩
    · obtain ⟨j, h1, h2, h3⟩ := arFs_mem h
      exact ⟨j + 1, by omega, h2, by rw [h3]; congr 1; omega⟩
mutual
def tyB (P : Program) : TypeId → Ty → Bool
  | t, .int k => match P.underlying t with
    | some (.int k') => decide (k' = k)
    | _ => false
  | t, .bool => match P.underlying t with
    | some .bool => true
    | _ => false
  | t, .sl E s e => match P.underlying t with
    | some (.slice E') => Nat.beq E' E && (Nat.beq (P.cellsOf E) s && (Nat.beq e.size s && (Nat.ble 1 s && (Nat.ble 1 (P.bytesOf E) && tyB P E e))))
    | _ => false
  | t, .st fs => match P.underlying t with
    | some (.struct fds) => Nat.beq (P.cellsOf t) fs.size && (fieldsB fds.toList 0 fs && tysB P fs)
    | _ => false
  | t, .ar n E fs => match P.underlying t with
    | some (.array n' E') => Nat.beq n' n && (Nat.beq E' E && (Nat.beq (P.cellsOf t) fs.size && (fieldsB (arFs E (P.cellsOf E) n 0) 0 fs && tysB P fs)))
    | _ => false
def tysB (P : Program) : TyL → Bool
  | .nil => true
  | .cons t ty r => Nat.beq (P.cellsOf t) ty.size && (tyB P t ty && tysB P r)
end
def isSt : Ty → Bool
  | .st _ => true
  | .ar _ _ _ => true
  | _ => false
def mkD (ty : Ty) (ds : List Dat) : Dat := bif isSt ty then .agg ds else ds.headD (.tup [])
mutual
def Sh : Ty → List Dat → Prop
  | .int k, ds => ∃ z, ds = [.val (.int k z)] ∧ (Lit.int k z).wf = true
  | .bool, ds => ∃ b, ds = [.val (.bool b)]
  | .sl E s e, ds => ∃ es : List (List Dat), ds = [.sl E s (es.map (mkD e))] ∧ es.length ≤ 140737488355328 ∧ ∀ x ∈ es, Sh e x
  | .st fs, ds => ShL fs ds
  | .ar _ _ fs, ds => ShL fs ds
def ShL : TyL → List Dat → Prop
  | .nil, ds => ds = []
  | .cons _ ty r, ds => ∃ a b, ds = a ++ b ∧ Sh ty a ∧ ShL r b
end
mutual
theorem Sh.len : ∀ {ty : Ty} {ds : List Dat}, Sh ty ds → ds.length = ty.size
  | .int k, ds, h => by obtain ⟨z, rfl, _⟩ := h; rfl
  | .bool, ds, h => by obtain ⟨b, rfl⟩ := h; rfl
  | .sl E s e, ds, h => by obtain ⟨es, rfl, _⟩ := h; rfl
  | .st fs, ds, h => ShL.len (h : ShL fs ds)
  | .ar _ _ fs, ds, h => ShL.len (h : ShL fs ds)
theorem ShL.len : ∀ {fs : TyL} {ds : List Dat}, ShL fs ds → ds.length = fs.size
  | .nil, ds, h => by have h : ds = [] := h; subst h; rfl
  | .cons t ty r, ds, h => by
    obtain ⟨a, b, rfl, h1, h2⟩ := h
    rw [List.length_append, Sh.len h1, ShL.len h2]; rfl
end
theorem mkD_cells {ty : Ty} {ds : List Dat} (h : Sh ty ds) : (mkD ty ds).cells = ds := by
  cases ty with
  | int k => obtain ⟨z, rfl, _⟩ := h; rfl
  | bool => obtain ⟨b, rfl⟩ := h; rfl
  | sl E s e => obtain ⟨es, rfl, _⟩ := h; rfl
  | st fs => rfl
  | ar n E fs => rfl
def oldD (w : World) : DSet := fun _ g _ => g < w.heap.size
def RepC (w : World) (cs : List Value) (ds : List Dat) : Prop := ds.length = cs.length ∧ (∀ v ∈ cs, v.oneCell' = true) ∧ ∀ (i : Nat) v d, cs[i]? = some v → ds[i]? = some d → Rep w (oldD w) v d
theorem RepC.append {w : World} {cs1 cs2 : List Value} {d1 d2 : List Dat} (h1 : RepC w cs1 d1) (h2 : RepC w cs2 d2) : RepC w (cs1 ++ cs2) (d1 ++ d2) := by
  refine ⟨by rw [List.length_append, List.length_append, h1.1, h2.1], fun v hv => ?_, fun i v d hv hd => ?_⟩
  · rcases List.mem_append.1 hv with h | h
    · exact h1.2.1 v h
    · exact h2.2.1 v h
  · by_cases hi : i < cs1.length
    · rw [List.getElem?_append_left hi] at hv
      rw [List.getElem?_append_left (by rw [h1.1]; exact hi)] at hd
      exact h1.2.2 i v d hv hd
    · rw [List.getElem?_append_right (by omega)] at hv
      rw [List.getElem?_append_right (by rw [h1.1]; omega), h1.1] at hd
      exact h2.2.2 _ v d hv hd
section
variable {H : Type} {enc : TypeId × Value → H} {P : Program} {w : World} {sp : Nat → Bool} {held : Bool}
theorem weightsAll_mem {e : TypeId} : ∀ {l : List (DataW H)} {d : DataW H}, d ∈ l → ∀ {n : Nat}, n ∈ d.weights P e → n ∈ DataW.weightsAll P e l
  | [], _, h, _, _ => by cases h
  | x :: l, d, h, n, hn => by
    simp only [DataW.weightsAll]
    rcases List.mem_cons.1 h with rfl | h
    · exact List.mem_append_left _ hn
    · exact List.mem_append_right _ (weightsAll_mem h hn)
theorem cells_get {a : Addr} {n : Nat} {cs : List Value} (h : w.cells? 0 a n = some cs) : cs.length = n ∧ ∀ i, i < n → w.cell? (a.add i) = cs[i]? := by
  unfold World.cells? at h
  rw [if_pos (Nat.zero_le _)] at h
  refine ⟨by simpa using mapM_some_length h, fun i hi => ?_⟩
  have := mapM_some_get h i i (by simp [hi])
  exact this
theorem drop_take_split {α : Type} {cs : List α} {off n m : Nat} (h : cs.length = off + (n + m)) : cs.drop off = (cs.drop off).take n ++ cs.drop (off + n) := by
  rw [← List.drop_drop, List.take_append_drop]
mutual
theorem bridge : ∀ {ty : Ty} {t : TypeId} {fuel : Nat} {cs : List Value} {x : DataW H × List MemPlace}, tyB P t ty = true → DataW.trod enc P w 0 sp held fuel t cs = some x → (∀ n ∈ x.1.weights P t, n ≤ reachBytes) → ∃ ds, RepC w cs ds ∧ Sh ty ds
  | .int k, t, fuel, cs, x, ht, h, _ => by
    unfold tyB at ht
    split at ht
    · rename_i k' hu
      obtain rfl : k' = k := of_decide_eq_true ht
      obtain ⟨n, rfl, _, hw⟩ := DataW.trod_int hu h
      refine ⟨[.val (.int k' n)], ⟨rfl, by simp [Value.oneCell'], fun i v d hv hd => ?_⟩, n, rfl, hw⟩
      rcases i with _ | i
      · simp at hv hd; subst hv; subst hd; exact .val _
      · simp at hv
    · cases ht
  | .bool, t, fuel, cs, x, ht, h, _ => by
    unfold tyB at ht
    split at ht
    · rename_i hu
      obtain ⟨b, rfl, _⟩ := DataW.trod_bool hu h
      refine ⟨[.val (.bool b)], ⟨rfl, by simp [Value.oneCell'], fun i v d hv hd => ?_⟩, b, rfl⟩
      rcases i with _ | i
      · simp at hv hd; subst hv; subst hd; exact .val _
      · simp at hv
    · cases ht
  | .sl E s e, t, fuel, cs, x, ht, h, hwt => by
    unfold tyB at ht
    split at ht
    · rename_i E' hu
      simp only [Bool.and_eq_true] at ht
      obtain ⟨h1, h2, h3, h4, h6, h5⟩ := ht
      obtain rfl : E' = E := Nat.eq_of_beq_eq_true h1
      have hs : P.cellsOf E' = s := Nat.eq_of_beq_eq_true h2
      have hes : e.size = s := Nat.eq_of_beq_eq_true h3
      have hs1 : 1 ≤ s := Nat.le_of_ble_eq_true h4
      have one : ∀ v : Value, v.oneCell' = true → ∀ d, Rep w (oldD w) v d → RepC w [v] [d] := fun v h1 d h2 => ⟨rfl, by simpa using h1, fun i v' d' hv hd => by
        rcases i with _ | i
        · simp at hv hd; subst hv; subst hd; exact h2
        · simp at hv⟩
      rcases DataW.trod_slice hu h with ⟨rfl, _⟩ | ⟨a, len, cap, elems, rest, n, _, rfl, hx, _, hl, hm, hlen, hel, _⟩
      · exact ⟨[.sl E' s []], one _ rfl _ (rep_nil w _ E' s), [], rfl, Nat.zero_le _, by simp⟩
      · have hws : ∀ n ∈ (elems.length + rest.length) * P.bytesOf E' :: (DataW.weightsAll P E' (elems.map (·.1)) ++ DataW.weightsAll P E' (rest.map (·.1))), n ≤ reachBytes := by
          intro n hn
          refine hwt n ?_
          rw [hx]
          simp only [DataW.weights, hu, List.length_map]
          exact hn
        have hlen47 : len ≤ 140737488355328 := by
          have h7 := hws _ (List.mem_cons_self)
          have h8 : 1 ≤ P.bytesOf E' := Nat.le_of_ble_eq_true h6
          have h9 := Nat.mul_le_mul_left (elems.length + rest.length) h8
          have h10 := reachBytes_lt
          omega
        have each : ∀ i, ∃ d : List Dat × List Value, i < len → (d.2.length = s ∧ (∀ j, j < s → w.cell? ((a.add (i * s)).add j) = d.2[j]?) ∧ RepC w d.2 d.1 ∧ Sh e d.1) := by
          intro i
          by_cases hi : i < len
          · have he := hel i hi
            rw [List.getElem?_eq_getElem (by omega), hs] at he
            cases hc : w.cells? 0 (a.add (i * s)) s with
            | none => rw [hc] at he; cases he
            | some ci =>
              rw [hc] at he
              obtain ⟨g1, g2⟩ := cells_get hc
              have hmem : elems[i] ∈ elems := List.getElem_mem _
              obtain ⟨ds, r1, r2⟩ := bridge (ty := e) h5 he (fun n hn => hws n (by
                refine List.mem_cons_of_mem _ (List.mem_append_left _ ?_)
                exact weightsAll_mem (List.mem_map_of_mem (f := (·.1)) hmem) hn))
              exact ⟨(ds, ci), fun _ => ⟨g1, g2, r1, r2⟩⟩
          · exact ⟨([], []), fun h => absurd h hi⟩
        obtain ⟨F, hF⟩ := Classical.axiomOfChoice each
        have hspot : 0 < len → a = ⟨a.block, a.off, none⟩ ∧ a.block < w.heap.size := by
          intro h0
          obtain ⟨q1, q2, _, _⟩ := hF 0 h0
          have q3 := q2 0 (by omega)
          rw [List.getElem?_eq_getElem (by omega)] at q3
          obtain ⟨b, o, sp'⟩ := a
          cases sp' with
          | none =>
            refine ⟨rfl, ?_⟩
            unfold World.cell? at q3
            split at q3
            · rename_i c _ _ hh
              simpa [Addr.add] using (Array.getElem?_eq_some_iff.1 hh).1
            · cases q3
          | some z =>
            exfalso
            unfold World.cell? at q3
            split at q3
            · simp [Addr.add] at q3
            · cases q3
        have hesl : ∀ d ∈ ((List.range len).map fun i => mkD e (F i).1), d.cells.length = s := by
          intro d hd
          rw [List.mem_map] at hd
          obtain ⟨i, hi, rfl⟩ := hd
          obtain ⟨q1, q2, q3, q4⟩ := hF i (by simpa using hi)
          rw [mkD_cells q4, Sh.len q4, hes]
        have hfl := flat_length hesl
        rw [List.length_map, List.length_range] at hfl
        have hget : ∀ q, q < len * s → ∃ u d, w.cell? (a.add q) = some u ∧ (flat ((List.range len).map fun i => mkD e (F i).1))[q]? = some d ∧ u.oneCell' = true ∧ Rep w (oldD w) u d := by
          intro q hq
          have hi : q / s < len := (Nat.div_lt_iff_lt_mul (by omega)).2 hq
          have hj : q % s < s := Nat.mod_lt _ (by omega)
          have hqe : q / s * s + q % s = q := by rw [Nat.mul_comm]; exact Nat.div_add_mod q s
          obtain ⟨q1, q2, q3, q4⟩ := hF (q / s) hi
          have c1 := q2 (q % s) hj
          have c2 : ((a.add (q / s * s)).add (q % s)) = a.add q := by
            rw [(hspot (Nat.lt_of_le_of_lt (Nat.zero_le _) hi)).1, Addr.add_lit, Addr.add_lit, Addr.add_lit, Nat.add_assoc, hqe]
          have hlen1 : (F (q / s)).1.length = s := by rw [q3.1, q1]
          have c4 : (F (q / s)).1[q % s]? = some ((F (q / s)).1[q % s]'(by rw [hlen1]; exact hj)) := List.getElem?_eq_getElem _
          have c5 : (F (q / s)).2[q % s]? = some ((F (q / s)).2[q % s]'(by rw [q1]; exact hj)) := List.getElem?_eq_getElem _
          rw [c2, c5] at c1
          have c3 := flat_get (es := (List.range len).map fun i => mkD e (F i).1) (i := q / s) (j := q % s) (e := mkD e (F (q / s)).1) hesl (by rw [List.getElem?_map, List.getElem?_range hi]; rfl) hj
          rw [hqe, mkD_cells q4, c4] at c3
          exact ⟨_, _, c1, c3, q3.2.1 _ (List.getElem_mem _), q3.2.2 (q % s) _ _ c5 c4⟩
        refine ⟨[.sl E' s ((List.range len).map fun i => mkD e (F i).1)], one _ rfl _ ?_, (List.range len).map fun i => (F i).1, ?_, by simpa using hlen47, ?_⟩
        · rcases Nat.eq_zero_or_pos len with h0 | h0
          · subst h0
            exact Rep.sl 0 0 (fun _ => undef) (by simp) hl hm (by simp) (fun h => absurd h (Nat.lt_irrefl 0)) (by simp [flat]) (by simp [flat]) (by simp [flat]) (by simp [flat])
          · obtain ⟨ha, hb⟩ := hspot h0
            refine Rep.sl a.block a.off (fun q => (w.cell? (a.add q)).getD undef) (by simp) hl hm hesl (fun _ => congrArg some ha) (fun q hq => hb) (fun q hq => ?_) (fun q hq => ?_) (fun q d hd => ?_)
            · obtain ⟨u, d, g1, _, _, _⟩ := hget q (by omega)
              have e1 : a.add q = ⟨a.block, a.off + q, none⟩ := by rw [ha, Addr.add_lit]
              rw [← e1, g1]; rfl
            · obtain ⟨u, d, g1, _, g3, _⟩ := hget q (by omega)
              rw [g1]; exact g3
            · have hq := (List.getElem?_eq_some_iff.1 hd).1
              obtain ⟨u, d', g1, g2, _, g4⟩ := hget q (by omega)
              rw [hd] at g2
              injection g2 with g2
              subst g2
              rw [g1]; exact g4
        · rw [List.map_map]; rfl
        · intro y hy
          rw [List.mem_map] at hy
          obtain ⟨i, hi, rfl⟩ := hy
          exact (hF i (by simpa using hi)).2.2.2
    · cases ht
  | .st fs, t, fuel, cs, x, ht, h, hwt => by
    unfold tyB at ht
    split at ht
    · rename_i fds hu
      simp only [Bool.and_eq_true] at ht
      obtain ⟨h1, h2, h3⟩ := ht
      obtain ⟨xs, n, _, hx, hl, hxl, hf⟩ := DataW.trod_struct hu h
      have hcl : cs.length = 0 + fs.size := by rw [hl, Nat.eq_of_beq_eq_true h1, Nat.zero_add]
      have key := bridgeL (fs := fs) (off := 0) (cs := cs) (l := fds.toList) (n := n) h2 h3 hcl (fun f hfm => by
        obtain ⟨i, hi⟩ := List.getElem?_of_mem hfm
        have := hf i f (by simpa using hi)
        have hlt : i < xs.length := by
          have := (List.getElem?_eq_some_iff.1 hi).1
          simp at this; omega
        rw [List.getElem?_eq_getElem hlt] at this
        refine ⟨_, this, fun m hm => hwt m ?_⟩
        rw [hx]
        simp only [DataW.weights, hu]
        exact DataW.weights_mem_each (j := i) (by rw [List.getElem?_map, hi]; rfl) (by rw [List.getElem?_map, List.getElem?_eq_getElem hlt]; rfl) m hm)
      rw [List.drop_zero] at key
      exact key
    · cases ht
  | .ar k E fs, t, fuel, cs, x, ht, h, hwt => by
    unfold tyB at ht
    split at ht
    · rename_i k' E' hu
      simp only [Bool.and_eq_true] at ht
      obtain ⟨h0, h1, h4, h2, h3⟩ := ht
      obtain rfl : k' = k := Nat.eq_of_beq_eq_true h0
      obtain rfl : E' = E := Nat.eq_of_beq_eq_true h1
      obtain ⟨xs, n, _, hx, hl, hxl, hf⟩ := DataW.trod_array hu h
      have hcl : cs.length = 0 + fs.size := by rw [hl, Nat.eq_of_beq_eq_true h4, Nat.zero_add]
      have key := bridgeL (fs := fs) (off := 0) (cs := cs) (l := arFs E' (P.cellsOf E') k' 0) (n := n) h2 h3 hcl (fun f hfm => by
        obtain ⟨j, hj, ft, fo⟩ := arFs_mem hfm
        have := hf j hj
        have hlt : j < xs.length := by omega
        rw [List.getElem?_eq_getElem hlt] at this
        refine ⟨xs[j], ?_, fun m hm => hwt m ?_⟩
        · rw [ft, fo, Nat.zero_add]; exact this
        · rw [hx]
          simp only [DataW.weights, hu]
          rw [ft] at hm
          exact weightsAll_mem (List.mem_map_of_mem (f := (·.1)) (List.getElem_mem hlt)) hm)
      rw [List.drop_zero] at key
      exact key
    · cases ht
theorem bridgeL : ∀ {fs : TyL} {l : List Field} {off n : Nat} {cs : List Value}, fieldsB l off fs = true → tysB P fs = true → cs.length = off + fs.size → (∀ f ∈ l, ∃ y, DataW.trod enc P w 0 sp held n f.type ((cs.drop f.offset).take (P.cellsOf f.type)) = some y ∧ ∀ m ∈ y.1.weights P f.type, m ≤ reachBytes) →
    ∃ ds, RepC w (cs.drop off) ds ∧ ShL fs ds
  | .nil, l, off, n, cs, h1, h2, h3, h4 => by
    have : cs.drop off = [] := List.drop_eq_nil_of_le (by rw [h3]; exact Nat.le_refl _)
    rw [this]
    exact ⟨[], ⟨rfl, by simp, by simp⟩, rfl⟩
  | .cons t ty r, l, off, n, cs, h1, h2, h3, h4 => by
    cases l with
    | nil => cases h1
    | cons f l =>
      simp only [fieldsB, Bool.and_eq_true] at h1
      obtain ⟨e1, e2, e3⟩ := h1
      simp only [tysB, Bool.and_eq_true] at h2
      obtain ⟨f1, f2, f3⟩ := h2
      have et := Nat.eq_of_beq_eq_true e1
      have eo := Nat.eq_of_beq_eq_true e2
      have ec := Nat.eq_of_beq_eq_true f1
      obtain ⟨y, hy, hyw⟩ := h4 f (by simp)
      rw [et, eo, ec] at hy
      rw [et] at hyw
      obtain ⟨d1, r1, s1⟩ := bridge (ty := ty) f2 hy hyw
      have h3' : cs.length = off + ty.size + r.size := by rw [h3]; show off + (ty.size + r.size) = _; omega
      obtain ⟨d2, r2, s2⟩ := bridgeL (fs := r) (off := off + ty.size) (cs := cs) (l := l) (n := n) e3 f3 h3' (fun g hg => h4 g (by simp [hg]))
      refine ⟨d1 ++ d2, ?_, d1, d2, rfl, s1, s2⟩
      rw [drop_take_split (cs := cs) (off := off) (n := ty.size) (m := r.size) (by omega)]
      exact r1.append r2
end
theorem open_arg {ty : Ty} {t : TypeId} {v : Value} {d : DataW H} {p : List MemPlace} (hty : tyB P t ty = true) (hv : isSt ty = true → ∃ cs, v = .agg cs) (hv1 : isSt ty = false → v.cells = #[v]) (h : DataW.Trod enc P w 0 sp held t v d p) (hwt : ∀ n ∈ d.weights P t, n ≤ reachBytes) :
    ∃ ds, Rep w (oldD w) v (mkD ty ds) ∧ Sh ty ds := by
  obtain ⟨fuel, hf⟩ := h
  obtain ⟨ds, hr, hs⟩ := bridge (ty := ty) hty hf hwt
  refine ⟨ds, ?_, hs⟩
  cases hst : isSt ty with
  | true =>
    obtain ⟨cs, rfl⟩ := hv hst
    have e : mkD ty ds = .agg ds := by unfold mkD; rw [hst]; rfl
    rw [e]
    have := Rep.agg (w := w) (D := oldD w) (cs := ds) cs.toList hr.1.symm hr.2.1 hr.2.2
    simpa using this
  | false =>
    have hv2 := hv1 hst
    have hc := hr.1
    rw [hv2] at hr
    simp only [Array.toList] at hr
    obtain ⟨h1, h2, h3⟩ := hr
    have hl : ds.length = 1 := by simpa using h1
    obtain ⟨d0, rfl⟩ := List.length_eq_one_iff.1 hl
    have e : mkD ty [d0] = d0 := by unfold mkD; rw [hst]; rfl
    rw [e]
    exact h3 0 v d0 rfl rfl
end
theorem oldD_ok (w : World) : DOk (oldD w) w := fun _ _ _ h => h
end Go.Fid
namespace Go.Fid
open Go.RowKit (Below)
open Go.ChangeShapes Go.WideShapes Go.RowKit
inductive ShAll : List Ty → List (List Dat) → Prop
  | nil : ShAll [] []
  | cons {ty : Ty} {tys : List Ty} {ds : List Dat} {dss : List (List Dat)} (h : Sh ty ds) (r : ShAll tys dss) : ShAll (ty :: tys) (ds :: dss)
def mkAll : List Ty → List (List Dat) → List Dat
  | ty :: tys, ds :: dss => mkD ty ds :: mkAll tys dss
  | _, _ => []
def formsB (P : Program) : List TypeId → List Ty → Bool
  | [], [] => true
  | t :: ts, ty :: tys => tyB P t ty && formsB P ts tys
  | _, _ => false
section
variable {H : Type} {enc : TypeId × Value → H} {P : Program} {w : World} {sp : Nat → Bool} {held : Bool}
theorem ok_st {ty : Ty} {t : TypeId} {v : Value} {base : Nat} (ht : tyB P t ty = true) (h : Value.okWide P w .any base t v) : (isSt ty = true → ∃ cs, v = .agg cs) ∧ (isSt ty = false → v.cells = #[v]) := by
  cases ty with
  | int k =>
    unfold tyB at ht
    split at ht
    · rename_i k' hu
      obtain ⟨n, rfl⟩ := okWide_int hu h
      exact ⟨(fun h => by cases h), fun _ => rfl⟩
    · cases ht
  | bool =>
    unfold tyB at ht
    split at ht
    · rename_i hu
      obtain ⟨b, rfl⟩ := okWide_bool hu h
      exact ⟨(fun h => by cases h), fun _ => rfl⟩
    · cases ht
  | sl E s e =>
    unfold tyB at ht
    split at ht
    · rename_i E' hu
      obtain ⟨a, l, c, rfl⟩ := okWide_slice hu h
      exact ⟨(fun h => by cases h), fun _ => rfl⟩
    · cases ht
  | st fs =>
    unfold tyB at ht
    split at ht
    · rename_i fds hu
      obtain ⟨cs, rfl, _⟩ := okWide_struct hu h
      exact ⟨fun _ => ⟨cs, rfl⟩, (fun h => by cases h)⟩
    · cases ht
  | ar n E fs =>
    unfold tyB at ht
    split at ht
    · rename_i n' E' hu
      simp only [Value.okWide, hu] at h
      obtain ⟨cs, rfl, _⟩ := h
      exact ⟨fun _ => ⟨cs, rfl⟩, (fun h => by cases h)⟩
    · cases ht
theorem each_left : ∀ {ts us : List TypeId} {ds gs : List (DataW H)} {n : Nat}, n ∈ DataW.weightsEach P ts ds → n ∈ DataW.weightsEach P (ts ++ us) (ds ++ gs)
  | [], _, _, _, _, h => by simp [DataW.weightsEach] at h
  | t :: ts, us, [], gs, n, h => by simp [DataW.weightsEach] at h
  | t :: ts, us, d :: ds, gs, n, h => by
    simp only [DataW.weightsEach] at h
    simp only [List.cons_append, DataW.weightsEach]
    rcases List.mem_append.1 h with h | h
    · exact List.mem_append_left _ h
    · exact List.mem_append_right _ (each_left h)
theorem open_args {base : Nat} : ∀ {ts : List TypeId} {tys : List Ty} {vs : List Value} {ds : List (DataW H)} {ps : List MemPlace}, formsB P ts tys = true → (∀ (j : Nat) t v, ts[j]? = some t → vs[j]? = some v → Value.okWide P w .any base t v) → DataW.TrodAll enc P w 0 sp held ts vs ds ps → (∀ n ∈ DataW.weightsEach P ts ds, n ≤ reachBytes) →
    ∃ dss, ShAll tys dss ∧ Args w (oldD w) vs (mkAll tys dss) ∧ vs.length = ts.length
  | [], [], vs, ds, ps, _, _, h, _ => by
    obtain ⟨rfl, rfl, rfl⟩ := trodAll_nil h
    exact ⟨[], .nil, ⟨rfl, by simp⟩, rfl⟩
  | t :: ts, ty :: tys, vs, ds, ps, hf, hok, h, hwt => by
    simp only [formsB, Bool.and_eq_true] at hf
    obtain ⟨v, vs', d, ds', p, q, rfl, rfl, rfl, h1, h2⟩ := trodAll_cons h
    obtain ⟨k1, k2⟩ := ok_st hf.1 (hok 0 t v rfl rfl)
    obtain ⟨dd, r1, r2⟩ := open_arg hf.1 k1 k2 h1 (fun n hn => hwt n (by simp only [DataW.weightsEach]; exact List.mem_append_left _ hn))
    obtain ⟨dss, r3, r4, r5⟩ := open_args (ts := ts) (tys := tys) hf.2 (fun j t v a b => hok (j + 1) t v (by simpa using a) (by simpa using b)) h2 (fun n hn => hwt n (by simp only [DataW.weightsEach]; exact List.mem_append_right _ hn))
    refine ⟨dd :: dss, .cons r2 r3, ⟨by simp [mkAll, r4.1], fun i v' d' hv hd => ?_⟩, by simp [r5]⟩
    rcases i with _ | i
    · simp [mkAll] at hv hd; subst hv; subst hd; exact r1
    · exact r4.2 i v' d' (by simpa using hv) (by simpa [mkAll] using hd)
  | [], _ :: _, _, _, _, hf, _, _, _ => by cases hf
  | _ :: _, [], _, _, _, hf, _, _, _ => by cases hf
theorem again_all {W W' : World} (hl : laidOutB P = true) (hb : Below W.heap.size W W') : ∀ {ts : List TypeId} {vs : List Value} {ds : List (DataW H)} {ps : List MemPlace}, (ts.all fun t => P.readableRec t && Nat.blt t P.types.size) = true → (∀ x ∈ ps, x.block < W.heap.size) → DataW.TrodAll enc P W 0 (fun _ => true) true ts vs ds ps →
    DataW.TrodAll enc P W' 0 (fun b => decide (b < W.heap.size)) true ts vs ds ps
  | [], vs, ds, ps, _, _, h => by
    obtain ⟨rfl, rfl, rfl⟩ := trodAll_nil h
    exact rfl
  | t :: ts, vs, ds, ps, hr, hlt, h => by
    obtain ⟨v, vs', d, ds', p, q, rfl, rfl, rfl, h1, h2⟩ := trodAll_cons h
    simp only [List.all_cons, Bool.and_eq_true] at hr
    exact ⟨p, q, Below.trod hl hr.1.1 (Nat.le_of_ble_eq_true hr.1.2) h1 hb (fun x hx => hlt x (by simp [hx])), again_all hl hb hr.2 (fun x hx => hlt x (by simp [hx])) h2, rfl⟩
end
theorem law_contract {H : Type} {enc : TypeId × Value → H} {P : Program} {f : FuncId} {fn : Func} {s : ChangeSpec} {tys : List Ty} {B : TypeId} (hl : laidOutB P = true) (hvars : s.vars = []) (hres : fn.resultTypes.toList = [B]) (hB : P.underlying B = some .bool)
    (hrr : (fn.params.toList.all fun t => P.readableRec t && Nat.blt t P.types.size) = true) (hty : formsB P fn.params.toList tys = true)
    (hspec : ∀ ds : List (DataW H), ds.length = fn.params.toList.length → (s.fn H ds).results = [.lit (.bool true)] ∧ (s.fn H ds).args = ds ∧ (s.fn H ds).vars = [])
    (ht : ∀ dss, ShAll tys dss → Takes P f (mkAll tys dss) (.val (.bool true)))
    (W : World) (base : Nat) (args : Array Value) (ds gs : List (DataW H)) (before : List MemPlace) (hval : ∀ (j : Nat) t v, fn.params[j]? = some t → args[j]? = some v → Value.okWide P W .any base t v)
    (hW : DataW.Whole enc P fn.params.toList s.vars false W args.toList ds gs before) (hwt : (DataW.weightsEach P (fn.params.toList ++ s.plain.varTypes P) (ds ++ gs)).all (· ≤ reachBytes) = true) :
    Calls P f args W fun e W' => ∃ v, e = .returned v ∧ s.post enc P fn false true false false W args v W' := by
  have hW' := hW
  obtain ⟨p, q, hA, hV, rfl, _, _⟩ := hW
  rw [hvars] at hV
  obtain ⟨rfl, rfl⟩ := trodVars_none hV
  obtain ⟨dss, r1, r2, r3⟩ := open_args (P := P) (w := W) (base := base) hty (fun j t v a b => hval j t v (by simpa using a) (by simpa using b)) hA (fun n hn => by
    rw [List.all_eq_true] at hwt
    have := hwt n (each_left hn)
    simpa using this)
  have hlt := hW'.lt
  have hlen : ds.length = fn.params.toList.length := by
    have : ∀ {ts : List TypeId} {vs : List Value} {ds : List (DataW H)} {ps : List MemPlace}, DataW.TrodAll enc P W 0 (fun _ => true) true ts vs ds ps → ds.length = ts.length := by
      intro ts
      induction ts with
      | nil => intro vs ds ps h; obtain ⟨_, rfl, _⟩ := trodAll_nil h; rfl
      | cons t ts ih => intro vs ds ps h; obtain ⟨v, vs', d, ds', p, q, rfl, rfl, rfl, h1, h2⟩ := trodAll_cons h; simp [ih h2]
    exact this hA
  have hc := (ht dss r1).run W (oldD W) args.toList (oldD_ok W) r2
  refine hc.mono fun e W' h => ?_
  obtain ⟨v, D', he, h1, h2, h3⟩ := h
  have hv := rep_bool h3
  subst hv
  obtain ⟨s1, s2, s3⟩ := hspec ds hlen
  refine ⟨_, he, ds, [], _, [], p, [], hW', ?_, ?_, ?_, h1.frame _, fun h => by cases h⟩
  · rw [List.append_nil, s1, hres]
    have hsz : fn.resultTypes.size = 1 := by
      have := congrArg List.length hres
      simpa using this
    rw [hsz]
    exact trodAll_mk1 (shut_bool hB true)
  · rw [List.append_nil, s2]
    exact again_all hl h1 hrr (fun x hx => hlt x (by simp [hx])) hA
  · rw [List.append_nil, s3, hvars]
    exact rfl
theorem sh_slice {α : Type} {E s : Nat} {ty : Ty} {F : α → Dat} {L : α → Prop} (hF : ∀ x, Sh ty x → ∃ a, mkD ty x = F a ∧ L a) {ds : List Dat} (h : Sh (.sl E s ty) ds) :
    ∃ l : List α, mkD (.sl E s ty) ds = .sl E s (l.map F) ∧ (∀ a ∈ l, L a) ∧ l.length ≤ 140737488355328 := by
  obtain ⟨es, rfl, h1, h2⟩ := h
  have h3 : ∀ es : List (List Dat), (∀ x ∈ es, Sh ty x) → ∃ l : List α, es.map (mkD ty) = l.map F ∧ (∀ a ∈ l, L a) ∧ l.length = es.length := by
    intro es
    induction es with
    | nil => intro _; exact ⟨[], rfl, by simp, rfl⟩
    | cons x es ih =>
      intro hx
      obtain ⟨l, e1, e2, e3⟩ := ih (fun y hy => hx y (by simp [hy]))
      obtain ⟨a, e4, e5⟩ := hF x (hx x (by simp))
      refine ⟨a :: l, by rw [List.map_cons, List.map_cons, e1, e4], fun b hb => ?_, by simp [e3]⟩
      rcases List.mem_cons.1 hb with rfl | hb
      · exact e5
      · exact e2 b hb
  obtain ⟨l, e1, e2, e3⟩ := h3 es h2
  exact ⟨l, by rw [← e1]; rfl, e2, by omega⟩
end Go.Fid
