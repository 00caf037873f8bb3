/- Part 13 of a proof: rules, plain facts, and functions walked. -/
import Derived.Test.YtadkkhdnccljcaaGreatM12
namespace Go.Proofs.YtadkkhdnccljcaaGreat
open Go.Fid
set_option maxRecDepth 4000
set_option linter.unusedVariables false
set_option linter.unusedSimpArgs false
theorem cb8 : callB Tryz.prog 8 = true := by kernel_rfl
set_option maxHeartbeats 4000000 in
theorem w_frmN0 (h : A9 RInt) (h0 h1 h2 h3 h4 h5 h6 h7 h8 : Int) (hh0 : IOk h.a0 h0 140737488355328) (hh1 : IOk h.a1 h1 140737488355328) (hh2 : IOk h.a2 h2 140737488355328) (hh3 : IOk h.a3 h3 140737488355328) (hh4 : IOk h.a4 h4 140737488355328) (hh5 : IOk h.a5 h5 140737488355328) (hh6 : IOk h.a6 h6 140737488355328) (hh7 : IOk h.a7 h7 140737488355328) (hh8 : IOk h.a8 h8 140737488355328) (p : A3 RInt) (p0 p1 p2 : Int) (hp0 : IOk p.a0 p0 140737488355328) (hp1 : IOk p.a1 p1 140737488355328) (hp2 : IOk p.a2 p2 140737488355328) (m : List (List RRat)) (hm : MatOk 140737488355328 m) (hbx : List.all [h.a0, h.a1, h.a2, h.a3, h.a4, h.a5, h.a6, h.a7, h.a8] short4 = false) : Takes Tryz.prog 8 [(encA31 h), (encA43 p), (.sl 82 1 (List.map enc_sl_82 m))] (.val (.bool (true))) := by
  refine fn_intro Tryz.func8 rfl cb8 rfl ?_
  show PWp _ _ _ _ ⟨[(0, (.d (encA31 h))), (1, (.d (encA43 p))), (2, (vl 82 1 enc_sl_82 m))], []⟩
  refine pwp_seq <| kx [(3, (.ref 0 0)), (4, (.ref 1 0))] [(0, some (bx (encA31 h))), (1, some (bx (encA43 p)))] (zN (oBx 0) <| zN (oBx 1) <| zM <| zZ) ?_
  refine pwp_seq <| pwp_seq <| kx [(31, (vb false))] [] (zE (oCl l_known27) <| zE oNt <| zZ) ?_
  refine pwp_cond (b := false) (by kernel_rfl) (fun h => by cases h) (fun _ => ?_)
  refine pwp_skip <| pwp_seq <| pwp_seq <| kd [(42, (vb true))] [] mo (wR (oLa sh32) <| wE (oCl (l_map1 h h0 h1 h2 h3 h4 h5 h6 h7 h8 hh0 hh1 hh2 hh3 hh4 hh5 hh6 hh7 hh8)) <| wR (oLa sh44) <| wE (oBs el65 ze44 zo44) <| wE (oCl (l_briefF11_0 h h0 h1 h2 h3 h4 h5 h6 h7 h8 hh0 hh1 hh2 hh3 hh4 hh5 hh6 hh7 hh8 p p0 p1 p2 hp0 hp1 hp2 hbx)) <| wE oNt <| wM <| wK <| wK <| wK <| wE oPt <| wZ) ?_
  refine pwp_cond (b := true) (by kernel_rfl) (fun _ => ?_) (fun h => by cases h)
  refine pwp_seq <| kx [(6, (vb true))] [] (zM <| zZ) ?_
  refine pwp_ret ⟨_, (.tmp (d := (.val (.bool (true)))) rfl .nil), ?_⟩
  rfl
set_option maxHeartbeats 4000000 in
theorem w_frmN1 (h : A9 RInt) (h0 h1 h2 h3 h4 h5 h6 h7 h8 : Int) (hh0 : IOk h.a0 h0 140737488355328) (hh1 : IOk h.a1 h1 140737488355328) (hh2 : IOk h.a2 h2 140737488355328) (hh3 : IOk h.a3 h3 140737488355328) (hh4 : IOk h.a4 h4 140737488355328) (hh5 : IOk h.a5 h5 140737488355328) (hh6 : IOk h.a6 h6 140737488355328) (hh7 : IOk h.a7 h7 140737488355328) (hh8 : IOk h.a8 h8 140737488355328) (p : A3 RInt) (p0 p1 p2 : Int) (hp0 : IOk p.a0 p0 140737488355328) (hp1 : IOk p.a1 p1 140737488355328) (hp2 : IOk p.a2 p2 140737488355328) (m : List (List RRat)) (hm : MatOk 140737488355328 m) (hb0 : List.all [h.a0, h.a1, h.a2, h.a3, h.a4, h.a5, h.a6, h.a7, h.a8] short4 = true) (hbx : List.all [p.a0, p.a1, p.a2] short4 = false) : Takes Tryz.prog 8 [(encA31 h), (encA43 p), (.sl 82 1 (List.map enc_sl_82 m))] (.val (.bool (true))) := by
  refine fn_intro Tryz.func8 rfl cb8 rfl ?_
  show PWp _ _ _ _ ⟨[(0, (.d (encA31 h))), (1, (.d (encA43 p))), (2, (vl 82 1 enc_sl_82 m))], []⟩
  refine pwp_seq <| kx [(3, (.ref 0 0)), (4, (.ref 1 0))] [(0, some (bx (encA31 h))), (1, some (bx (encA43 p)))] (zN (oBx 0) <| zN (oBx 1) <| zM <| zZ) ?_
  refine pwp_seq <| pwp_seq <| kx [(31, (vb false))] [] (zE (oCl l_known27) <| zE oNt <| zZ) ?_
  refine pwp_cond (b := false) (by kernel_rfl) (fun h => by cases h) (fun _ => ?_)
  refine pwp_skip <| pwp_seq <| pwp_seq <| kd [(42, (vb true))] [] mo (wR (oLa sh32) <| wE (oCl (l_map1 h h0 h1 h2 h3 h4 h5 h6 h7 h8 hh0 hh1 hh2 hh3 hh4 hh5 hh6 hh7 hh8)) <| wR (oLa sh44) <| wE (oBs el65 ze44 zo44) <| wE (oCl (l_briefF11_1 h h0 h1 h2 h3 h4 h5 h6 h7 h8 hh0 hh1 hh2 hh3 hh4 hh5 hh6 hh7 hh8 p p0 p1 p2 hp0 hp1 hp2 hb0 hbx)) <| wE oNt <| wM <| wK <| wK <| wK <| wE oPt <| wZ) ?_
  refine pwp_cond (b := true) (by kernel_rfl) (fun _ => ?_) (fun h => by cases h)
  refine pwp_seq <| kx [(6, (vb true))] [] (zM <| zZ) ?_
  refine pwp_ret ⟨_, (.tmp (d := (.val (.bool (true)))) rfl .nil), ?_⟩
  rfl
set_option maxHeartbeats 4000000 in
theorem w_frmN2 (h : A9 RInt) (h0 h1 h2 h3 h4 h5 h6 h7 h8 : Int) (hh0 : IOk h.a0 h0 140737488355328) (hh1 : IOk h.a1 h1 140737488355328) (hh2 : IOk h.a2 h2 140737488355328) (hh3 : IOk h.a3 h3 140737488355328) (hh4 : IOk h.a4 h4 140737488355328) (hh5 : IOk h.a5 h5 140737488355328) (hh6 : IOk h.a6 h6 140737488355328) (hh7 : IOk h.a7 h7 140737488355328) (hh8 : IOk h.a8 h8 140737488355328) (p : A3 RInt) (p0 p1 p2 : Int) (hp0 : IOk p.a0 p0 140737488355328) (hp1 : IOk p.a1 p1 140737488355328) (hp2 : IOk p.a2 p2 140737488355328) (m : List (List RRat)) (hm : MatOk 140737488355328 m) (hb0 : List.all [h.a0, h.a1, h.a2, h.a3, h.a4, h.a5, h.a6, h.a7, h.a8] short4 = true) (hb1 : List.all [p.a0, p.a1, p.a2] short4 = true) (hs : shortMat m = false) : Takes Tryz.prog 8 [(encA31 h), (encA43 p), (.sl 82 1 (List.map enc_sl_82 m))] (.val (.bool (true))) := by
  refine fn_intro Tryz.func8 rfl cb8 rfl ?_
  show PWp _ _ _ _ ⟨[(0, (.d (encA31 h))), (1, (.d (encA43 p))), (2, (vl 82 1 enc_sl_82 m))], []⟩
  refine pwp_seq <| kx [(3, (.ref 0 0)), (4, (.ref 1 0))] [(0, some (bx (encA31 h))), (1, some (bx (encA43 p)))] (zN (oBx 0) <| zN (oBx 1) <| zM <| zZ) ?_
  refine pwp_seq <| pwp_seq <| kx [(31, (vb false))] [] (zE (oCl l_known27) <| zE oNt <| zZ) ?_
  refine pwp_cond (b := false) (by kernel_rfl) (fun h => by cases h) (fun _ => ?_)
  refine pwp_skip <| pwp_seq <| pwp_seq <| kd [(42, (vb true))] [] mo (wR (oLa sh32) <| wE (oCl (l_map1 h h0 h1 h2 h3 h4 h5 h6 h7 h8 hh0 hh1 hh2 hh3 hh4 hh5 hh6 hh7 hh8)) <| wR (oLa sh44) <| wE (oBs el65 ze44 zo44) <| wE (oCl (l_briefT11 h h0 h1 h2 h3 h4 h5 h6 h7 h8 hh0 hh1 hh2 hh3 hh4 hh5 hh6 hh7 hh8 p p0 p1 p2 hp0 hp1 hp2 hb0 hb1)) <| wE oNt <| wM <| wM <| wE (oBk false (oCl (g_shortM8 m hm)) (by exact hs)) <| wE oNt <| wE oPf <| wZ) ?_
  refine pwp_cond (b := true) (by kernel_rfl) (fun _ => ?_) (fun h => by cases h)
  refine pwp_seq <| kx [(6, (vb true))] [] (zM <| zZ) ?_
  refine pwp_ret ⟨_, (.tmp (d := (.val (.bool (true)))) rfl .nil), ?_⟩
  rfl
set_option maxHeartbeats 4000000 in
theorem w_frmE (h : A9 RInt) (h0 h1 h2 h3 h4 h5 h6 h7 h8 : Int) (hh0 : IOk h.a0 h0 4) (hh1 : IOk h.a1 h1 4) (hh2 : IOk h.a2 h2 4) (hh3 : IOk h.a3 h3 4) (hh4 : IOk h.a4 h4 4) (hh5 : IOk h.a5 h5 4) (hh6 : IOk h.a6 h6 4) (hh7 : IOk h.a7 h7 4) (hh8 : IOk h.a8 h8 4) (p : A3 RInt) (p0 p1 p2 : Int) (hp0 : IOk p.a0 p0 4) (hp1 : IOk p.a1 p1 4) (hp2 : IOk p.a2 p2 4) (m : List (List RRat)) (hm : MatOk 8 m) (hb0 : List.all [h.a0, h.a1, h.a2, h.a3, h.a4, h.a5, h.a6, h.a7, h.a8] short4 = true) (hb1 : List.all [p.a0, p.a1, p.a2] short4 = true) (hs : shortMat m = true) (he : m.all vRow = false) : Takes Tryz.prog 8 [(encA31 h), (encA43 p), (.sl 82 1 (List.map enc_sl_82 m))] (.val (.bool (true))) := by
  have hb := hm.2
  let y2 := [(RInt.mk false []), (RInt.mk false []), (RInt.mk false []), (RInt.mk false []), (RInt.mk false []), (RInt.mk false []), (RInt.mk false []), (RInt.mk false []), (RInt.mk false [])]
  let y1 := (bx (encA31 (A9.mk (RInt.mk false []) (RInt.mk false []) (RInt.mk false []) (RInt.mk false []) (RInt.mk false []) (RInt.mk false []) (RInt.mk false []) (RInt.mk false []) (RInt.mk false []))))
  refine fn_intro Tryz.func8 rfl cb8 rfl ?_
  show PWp _ _ _ _ ⟨[(0, (.d (encA31 h))), (1, (.d (encA43 p))), (2, (vl 82 1 enc_sl_82 m))], []⟩
  refine pwp_seq <| kx [(3, (.ref 0 0)), (4, (.ref 1 0))] [(0, some (bx (encA31 h))), (1, some (bx (encA43 p)))] (zN (oBx 0) <| zN (oBx 1) <| zM <| zZ) ?_
  refine pwp_seq <| pwp_seq <| kx [(31, (vb false))] [] (zE (oCl l_known27) <| zE oNt <| zZ) ?_
  refine pwp_cond (b := false) (by kernel_rfl) (fun h => by cases h) (fun _ => ?_)
  refine pwp_skip <| pwp_seq <| pwp_seq <| kd [(42, (vb false))] [] mo (wR (oLa sh32) <| wE (oCl (l_map1 h h0 h1 h2 h3 h4 h5 h6 h7 h8 (iu hh0) (iu hh1) (iu hh2) (iu hh3) (iu hh4) (iu hh5) (iu hh6) (iu hh7) (iu hh8))) <| wR (oLa sh44) <| wE (oBs el65 ze44 zo44) <| wE (oCl (l_briefT11 h h0 h1 h2 h3 h4 h5 h6 h7 h8 (iu hh0) (iu hh1) (iu hh2) (iu hh3) (iu hh4) (iu hh5) (iu hh6) (iu hh7) (iu hh8) p p0 p1 p2 (iu hp0) (iu hp1) (iu hp2) hb0 hb1)) <| wE oNt <| wM <| wM <| wE (oBk true (oCl (g_shortM8 m (mat_up hm (by decide)))) (by exact hs)) <| wE oNt <| wE oPf <| wZ) ?_
  refine pwp_cond (b := false) (by kernel_rfl) (fun h => by cases h) (fun _ => ?_)
  refine pwp_skip <| pwp_seq <| kx [(7, (vb (valH [h.a0, h.a1, h.a2, h.a3, h.a4, h.a5, h.a6, h.a7, h.a8] (det3 h0 h1 h2 h3 h4 h5 h6 h7 h8))))] [] (zR (oLa sh32) <| zE (oCl (l_valid h h0 h1 h2 h3 h4 h5 h6 h7 h8 (iu hh0) (iu hh1) (iu hh2) (iu hh3) (iu hh4) (iu hh5) (iu hh6) (iu hh7) (iu hh8))) <| zM <| zZ) ?_
  refine pwp_seq <| pwp_seq <| kd [(71, (vb false))] [] mo ?_ ?_
  · refine wR (oLa sh32) <| wE (oCl (d_valid h h0 h1 h2 h3 h4 h5 h6 h7 h8 (iu hh0) (iu hh1) (iu hh2) (iu hh3) (iu hh4) (iu hh5) (iu hh6) (iu hh7) (iu hh8))) <| wM <| wE (oBk false (oNb bo4) (by exact congrArg (!·) (beq_self_eq_true _))) <| wM <| wR (oLa sh44) <| wE (oCl (d_proper p p0 p1 p2 (iu hp0) (iu hp1) (iu hp2))) <| wR (oLa sh44) <| wE (oCl (l_proper p p0 p1 p2 (iu hp0) (iu hp1) (iu hp2))) <| wE (oBk false (oNb bo4) (by exact congrArg (!·) (beq_self_eq_true _))) <| wE oPf <| wM <| wR (oLa sh32) <| wE (oCl (d_affine h h0 h1 h2 h3 h4 h5 h6 h7 h8 (iu hh0) (iu hh1) (iu hh2) (iu hh3) (iu hh4) (iu hh5) (iu hh6) (iu hh7) (iu hh8))) <| wM <| wE (oV (vb (valH [h.a0, h.a1, h.a2, h.a3, h.a4, h.a5, h.a6, h.a7, h.a8] (det3 h0 h1 h2 h3 h4 h5 h6 h7 h8))) (mv_ok (by kernel_rfl))) <| ?_
    rcases hb1 : (valH [h.a0, h.a1, h.a2, h.a3, h.a4, h.a5, h.a6, h.a7, h.a8] (det3 h0 h1 h2 h3 h4 h5 h6 h7 h8)) with _ | _
    · exact wK <| wK <| wK <| wE oPf <| wM <| wK <| wK <| wK <| wE oPf <| wE (oBk false (oNb bo4) (by simp)) <| wE oPf <| wZ
    · refine wE (oXr ar32 6) <| wR (oLa sh30) <| wE (oCl (l_zero h.a6 h6 (iu hh6))) <| wE oPa <| wE (oV (vb (true && (signI h6 == 0))) (mv_ok (by kernel_rfl))) <| ?_
      rcases hb2 : (true && (signI h6 == 0)) with _ | _
      · exact wK <| wK <| wK <| wE oPf <| wE (oBk false (oNb bo4) (by simp)) <| wE oPf <| wZ
      · exact wE (oXr ar32 7) <| wR (oLa sh30) <| wE (oCl (l_zero h.a7 h7 (iu hh7))) <| wE oPa <| wE (oBk false (oNb bo4) (by simp)) <| wE oPf <| wZ
  refine pwp_cond (b := false) (by kernel_rfl) (fun h => by cases h) (fun _ => ?_)
  refine pwp_skip <| pwp_seq ?_
  have bn1 : ∀ c ∈ [1, 0, 0, 0, 1, 0, 0, 0, 1], IOk (ofZ c) c 1 := red_iok (n := 1) (.cons (iok_small (z := 1) (by decide)) (.cons (iok_small (z := 0) (by decide)) (.cons (iok_small (z := 0) (by decide)) (.cons (iok_small (z := 0) (by decide)) (.cons (iok_small (z := 1) (by decide)) (.cons (iok_small (z := 0) (by decide)) (.cons (iok_small (z := 0) (by decide)) (.cons (iok_small (z := 0) (by decide)) (.cons (iok_small (z := 1) (by decide)) .nil))))))))) (by decide +kernel)
  refine kx [(8, (.ref 2 0))] [(2, some (bx (encA31 (A9.mk (ofZ 1) (ofZ 0) (ofZ 0) (ofZ 0) (ofZ 1) (ofZ 0) (ofZ 0) (ofZ 0) (ofZ 1)))))] (zE (oBf ar80 ze80 zo80) <| zE (oCl (l_made ((1 : Nat) : Int) ((0 : Nat) : Int) ((0 : Nat) : Int) ((0 : Nat) : Int) ((1 : Nat) : Int) ((0 : Nat) : Int) ((0 : Nat) : Int) ((0 : Nat) : Int) ((1 : Nat) : Int) (by omega) (by omega) (by omega) (by omega) (by omega) (by omega) (by omega) (by omega) (by omega) 1 0 0 0 1 0 0 0 1 (by decide +kernel) (by decide +kernel) (by decide +kernel))) <| zM <| zE oEx <| zE oEx <| zN (oAl 2 ze32 zo32) <| zT (oSt sh32) <| zM <| zZ) ?_
  refine pwp_seq <| pwp_seq <| kd [(80, (vb false))] [] mo (wE (oCl d_ident) <| wR (oLa sh32) <| wE (oCl (l_sameT9 (A9.mk (ofZ 1) (ofZ 0) (ofZ 0) (ofZ 0) (ofZ 1) (ofZ 0) (ofZ 0) (ofZ 0) (ofZ 1)) 1 0 0 0 1 0 0 0 1 (iok_up (iok_small (z := 1) (by decide)) (by decide)) (iok_up (iok_small (z := 0) (by decide)) (by decide)) (iok_up (iok_small (z := 0) (by decide)) (by decide)) (iok_up (iok_small (z := 0) (by decide)) (by decide)) (iok_up (iok_small (z := 1) (by decide)) (by decide)) (iok_up (iok_small (z := 0) (by decide)) (by decide)) (iok_up (iok_small (z := 0) (by decide)) (by decide)) (iok_up (iok_small (z := 0) (by decide)) (by decide)) (iok_up (iok_small (z := 1) (by decide)) (by decide)) (A9.mk (ofZ 1) (ofZ 0) (ofZ 0) (ofZ 0) (ofZ 1) (ofZ 0) (ofZ 0) (ofZ 0) (ofZ 1)) 1 0 0 0 1 0 0 0 1 (iok_up (bn1 1 (by simp)) (by decide)) (iok_up (bn1 0 (by simp)) (by decide)) (iok_up (bn1 0 (by simp)) (by decide)) (iok_up (bn1 0 (by simp)) (by decide)) (iok_up (bn1 1 (by simp)) (by decide)) (iok_up (bn1 0 (by simp)) (by decide)) (iok_up (bn1 0 (by simp)) (by decide)) (iok_up (bn1 0 (by simp)) (by decide)) (iok_up (bn1 1 (by simp)) (by decide)) (validI_ofZ _) (validI_ofZ _) (validI_ofZ _) (validI_ofZ _) (validI_ofZ _) (validI_ofZ _) (validI_ofZ _) (validI_ofZ _) (validI_ofZ _) (sameI_self _) (sameI_self _) (sameI_self _) (sameI_self _) (sameI_self _) (sameI_self _) (sameI_self _) (sameI_self _) (sameI_self _))) <| wE oNt <| wZ) ?_
  refine pwp_cond (b := false) (by kernel_rfl) (fun h => by cases h) (fun _ => ?_)
  refine pwp_skip <| pwp_seq <| kx [(10, (.ref 3 0)), (11, (vi 1))] [(3, some y1)] (zM <| zE (oCl (d_ofE m hm he)) <| zM <| zE oEx <| zE oEx <| zN (oAl 3 ze32 zo32) <| zT (oSt sh32) <| zM <| zZ) ?_
  refine pwp_seq <| kx [(12, (vin 0))] [] (zM <| zZ) ?_
  refine pwp_seq <| pwp_seq <| kx [(86, (vl 82 1 enc_sl_82 m)), (87, (vin m.length)), (88, (vin 0))] [] (zM <| zE (oLm el76) <| zM <| zZ) ?_
  refine pwp_block <| pwp_loop (α := Nat × Nat) (fun (i, c) => ⟨[(2, (vl 82 1 enc_sl_82 m)), (10, (.ref 3 0)), (11, (vi 1)), (12, (vin c)), (86, (vl 82 1 enc_sl_82 m)), (87, (vin m.length)), (88, (vin i))], [(3, some y1)]⟩) (fun (i, c) => i ≤ m.length ∧ c = vC ((m.take i).all vRow)) (fun (i, c) => m.length - i) (0, 0) wk ⟨Nat.zero_le _, rfl⟩ ?_
  rintro ⟨i, c⟩ ⟨hi, hc⟩
  refine pwp_seq <| kx [(89, (vb (decide (((i : Nat) : Int) < ((m.length : Nat) : Int)))))] [] (zE oLt <| zZ) ?_
  refine pwp_seq <| pwp_cond rfl (fun h3 => ?_) (fun h3 => ?_)
  · replace h3 := of_decide_eq_true h3
    refine pwp_skip <| pwp_seq <| pwp_block <| pwp_seq <| kx [(14, (vl 67 4 encR (m.getD i [])))] [] (zE (oXl el76 i ([] : List (RRat))) <| zE (oC1 sh82) <| zM <| zZ) ?_
    refine pwp_seq <| kx [(94, (vb (!(vRow (m.getD i [])))))] [] (zM <| zE (oCl (g_validL (m.getD i []) (row_get (d := []) hm (show i < m.length by omega)))) <| zE oNt <| zZ) ?_
    refine pwp_cond (b := !(vRow (m.getD i []))) rfl (fun h4 => ?_) (fun h4 => ?_)
    · refine kx [(12, (vin 1))] [] (zM <| zZ) ?_
      refine kx [(88, (vin (i + 1)))] [] (zE (oAd (i + 1)) <| zM <| zZ) ?_
      exact ⟨(i + 1, 1), wk, ⟨by omega, vC_bad (by omega) (by simpa using h4)⟩, (by first | omega | (dsimp only; omega))⟩
    · refine pwp_skip <| kx [(88, (vin (i + 1)))] [] (zE (oAd (i + 1)) <| zM <| zZ) ?_
      exact ⟨(i + 1, c), wk, ⟨by omega, vC_step (by omega) hc (by simpa using h4)⟩, (by first | omega | (dsimp only; omega))⟩
  · replace h3 := of_decide_eq_false h3
    have hie : i = m.length := by omega
    rw [hie, List.take_length, he] at hc
    have hc1 : c = 1 := hc
    subst hc1
    refine pwp_exit <| pwp_seq <| pwp_seq <| kx [(12, (vin 1)), (123, (vb false))] [] (zM <| zE oEq <| zM <| zK <| zK <| zK <| zK <| zK <| zK <| zK <| zK <| zK <| zK <| zK <| zK <| zK <| zK <| zK <| zK <| zK <| zK <| zK <| zK <| zK <| zK <| zK <| zK <| zE oPf <| zZ) ?_
    refine pwp_cond (b := false) (by kernel_rfl) (fun h => by cases h) (fun _ => ?_)
    refine pwp_skip <| pwp_seq <| kx [(15, (.ref 4 0))] [(4, some y1)] (zE (oBa ar32 ze32 zo32) <| zN (oAl 4 ze32 zo32) <| zT (oSt sh32) <| zZ) ?_
    refine pwp_seq <| pwp_seq <| kx [(126, (vb false))] [] (zM <| zE oEq <| zZ) ?_
    refine pwp_cond (b := false) (by kernel_rfl) (fun h => by cases h) (fun _ => ?_)
    refine pwp_skip <| pwp_seq <| pwp_seq <| kx [(188, (vb true))] [] (zM <| zE oNe <| zZ) ?_
    refine pwp_cond (b := true) (by kernel_rfl) (fun _ => ?_) (fun h => by cases h)
    refine pwp_seq <| kx [(6, (vb true))] [] (zM <| zM <| zE oEq <| zM <| zE (e_slv (by exact rfl) ar32 (by exact rfl) (by kernel_rfl) (by kernel_rfl)) <| zR ⟨y1, e_clv (es := List.map encI y2) (l_empty 1000000 y2 [0, 0, 0, 0, 0, 0, 0, 0, 0] (.cons (iu iok_zero) (.cons (iu iok_zero) (.cons (iu iok_zero) (.cons (iu iok_zero) (.cons (iu iok_zero) (.cons (iu iok_zero) (.cons (iu iok_zero) (.cons (iu iok_zero) (.cons (iu iok_zero) .nil))))))))) (Nat.le_of_ble_eq_true rfl) (allnil_of rfl)) (by exact rfl) (by kernel_rfl) (by exact rfl) (.v .nil) (pubs_cells _ _ (fun _ => rfl)) (by kernel_rfl) (by kernel_rfl) (.val _), by kernel_rfl⟩ <| zE oPt <| zM <| zZ) ?_
    refine pwp_ret ⟨_, (.tmp (d := (.val (.bool (true)))) rfl .nil), ?_⟩
    rfl
set_option maxHeartbeats 4000000 in
theorem w_frmM (h : A9 RInt) (h0 h1 h2 h3 h4 h5 h6 h7 h8 : Int) (hh0 : IOk h.a0 h0 4) (hh1 : IOk h.a1 h1 4) (hh2 : IOk h.a2 h2 4) (hh3 : IOk h.a3 h3 4) (hh4 : IOk h.a4 h4 4) (hh5 : IOk h.a5 h5 4) (hh6 : IOk h.a6 h6 4) (hh7 : IOk h.a7 h7 4) (hh8 : IOk h.a8 h8 4) (p : A3 RInt) (p0 p1 p2 : Int) (hp0 : IOk p.a0 p0 4) (hp1 : IOk p.a1 p1 4) (hp2 : IOk p.a2 p2 4) (m : List (List RRat)) (hm : MatOk 8 m) (hb0 : List.all [h.a0, h.a1, h.a2, h.a3, h.a4, h.a5, h.a6, h.a7, h.a8] short4 = true) (hb1 : List.all [p.a0, p.a1, p.a2] short4 = true) (hs : shortMat m = true) (hv : m.all vRow = true) (hf : fitB m = false) : Takes Tryz.prog 8 [(encA31 h), (encA43 p), (.sl 82 1 (List.map enc_sl_82 m))] (.val (.bool (true))) := by
  have hb := hm.2
  let y2 := [(RInt.mk false []), (RInt.mk false []), (RInt.mk false []), (RInt.mk false []), (RInt.mk false []), (RInt.mk false []), (RInt.mk false []), (RInt.mk false []), (RInt.mk false [])]
  let y1 := (bx (encA31 (A9.mk (RInt.mk false []) (RInt.mk false []) (RInt.mk false []) (RInt.mk false []) (RInt.mk false []) (RInt.mk false []) (RInt.mk false []) (RInt.mk false []) (RInt.mk false []))))
  refine fn_intro Tryz.func8 rfl cb8 rfl ?_
  show PWp _ _ _ _ ⟨[(0, (.d (encA31 h))), (1, (.d (encA43 p))), (2, (vl 82 1 enc_sl_82 m))], []⟩
  refine pwp_seq <| kx [(3, (.ref 0 0)), (4, (.ref 1 0))] [(0, some (bx (encA31 h))), (1, some (bx (encA43 p)))] (zN (oBx 0) <| zN (oBx 1) <| zM <| zZ) ?_
  refine pwp_seq <| pwp_seq <| kx [(31, (vb false))] [] (zE (oCl l_known27) <| zE oNt <| zZ) ?_
  refine pwp_cond (b := false) (by kernel_rfl) (fun h => by cases h) (fun _ => ?_)
  refine pwp_skip <| pwp_seq <| pwp_seq <| kd [(42, (vb false))] [] mo (wR (oLa sh32) <| wE (oCl (l_map1 h h0 h1 h2 h3 h4 h5 h6 h7 h8 (iu hh0) (iu hh1) (iu hh2) (iu hh3) (iu hh4) (iu hh5) (iu hh6) (iu hh7) (iu hh8))) <| wR (oLa sh44) <| wE (oBs el65 ze44 zo44) <| wE (oCl (l_briefT11 h h0 h1 h2 h3 h4 h5 h6 h7 h8 (iu hh0) (iu hh1) (iu hh2) (iu hh3) (iu hh4) (iu hh5) (iu hh6) (iu hh7) (iu hh8) p p0 p1 p2 (iu hp0) (iu hp1) (iu hp2) hb0 hb1)) <| wE oNt <| wM <| wM <| wE (oBk true (oCl (g_shortM8 m (mat_up hm (by decide)))) (by exact hs)) <| wE oNt <| wE oPf <| wZ) ?_
  refine pwp_cond (b := false) (by kernel_rfl) (fun h => by cases h) (fun _ => ?_)
  refine pwp_skip <| pwp_seq <| kx [(7, (vb (valH [h.a0, h.a1, h.a2, h.a3, h.a4, h.a5, h.a6, h.a7, h.a8] (det3 h0 h1 h2 h3 h4 h5 h6 h7 h8))))] [] (zR (oLa sh32) <| zE (oCl (l_valid h h0 h1 h2 h3 h4 h5 h6 h7 h8 (iu hh0) (iu hh1) (iu hh2) (iu hh3) (iu hh4) (iu hh5) (iu hh6) (iu hh7) (iu hh8))) <| zM <| zZ) ?_
  refine pwp_seq <| pwp_seq <| kd [(71, (vb false))] [] mo ?_ ?_
  · refine wR (oLa sh32) <| wE (oCl (d_valid h h0 h1 h2 h3 h4 h5 h6 h7 h8 (iu hh0) (iu hh1) (iu hh2) (iu hh3) (iu hh4) (iu hh5) (iu hh6) (iu hh7) (iu hh8))) <| wM <| wE (oBk false (oNb bo4) (by exact congrArg (!·) (beq_self_eq_true _))) <| wM <| wR (oLa sh44) <| wE (oCl (d_proper p p0 p1 p2 (iu hp0) (iu hp1) (iu hp2))) <| wR (oLa sh44) <| wE (oCl (l_proper p p0 p1 p2 (iu hp0) (iu hp1) (iu hp2))) <| wE (oBk false (oNb bo4) (by exact congrArg (!·) (beq_self_eq_true _))) <| wE oPf <| wM <| wR (oLa sh32) <| wE (oCl (d_affine h h0 h1 h2 h3 h4 h5 h6 h7 h8 (iu hh0) (iu hh1) (iu hh2) (iu hh3) (iu hh4) (iu hh5) (iu hh6) (iu hh7) (iu hh8))) <| wM <| wE (oV (vb (valH [h.a0, h.a1, h.a2, h.a3, h.a4, h.a5, h.a6, h.a7, h.a8] (det3 h0 h1 h2 h3 h4 h5 h6 h7 h8))) (mv_ok (by kernel_rfl))) <| ?_
    rcases hb1 : (valH [h.a0, h.a1, h.a2, h.a3, h.a4, h.a5, h.a6, h.a7, h.a8] (det3 h0 h1 h2 h3 h4 h5 h6 h7 h8)) with _ | _
    · exact wK <| wK <| wK <| wE oPf <| wM <| wK <| wK <| wK <| wE oPf <| wE (oBk false (oNb bo4) (by simp)) <| wE oPf <| wZ
    · refine wE (oXr ar32 6) <| wR (oLa sh30) <| wE (oCl (l_zero h.a6 h6 (iu hh6))) <| wE oPa <| wE (oV (vb (true && (signI h6 == 0))) (mv_ok (by kernel_rfl))) <| ?_
      rcases hb2 : (true && (signI h6 == 0)) with _ | _
      · exact wK <| wK <| wK <| wE oPf <| wE (oBk false (oNb bo4) (by simp)) <| wE oPf <| wZ
      · exact wE (oXr ar32 7) <| wR (oLa sh30) <| wE (oCl (l_zero h.a7 h7 (iu hh7))) <| wE oPa <| wE (oBk false (oNb bo4) (by simp)) <| wE oPf <| wZ
  refine pwp_cond (b := false) (by kernel_rfl) (fun h => by cases h) (fun _ => ?_)
  refine pwp_skip <| pwp_seq ?_
  have bn1 : ∀ c ∈ [1, 0, 0, 0, 1, 0, 0, 0, 1], IOk (ofZ c) c 1 := red_iok (n := 1) (.cons (iok_small (z := 1) (by decide)) (.cons (iok_small (z := 0) (by decide)) (.cons (iok_small (z := 0) (by decide)) (.cons (iok_small (z := 0) (by decide)) (.cons (iok_small (z := 1) (by decide)) (.cons (iok_small (z := 0) (by decide)) (.cons (iok_small (z := 0) (by decide)) (.cons (iok_small (z := 0) (by decide)) (.cons (iok_small (z := 1) (by decide)) .nil))))))))) (by decide +kernel)
  refine kx [(8, (.ref 2 0))] [(2, some (bx (encA31 (A9.mk (ofZ 1) (ofZ 0) (ofZ 0) (ofZ 0) (ofZ 1) (ofZ 0) (ofZ 0) (ofZ 0) (ofZ 1)))))] (zE (oBf ar80 ze80 zo80) <| zE (oCl (l_made ((1 : Nat) : Int) ((0 : Nat) : Int) ((0 : Nat) : Int) ((0 : Nat) : Int) ((1 : Nat) : Int) ((0 : Nat) : Int) ((0 : Nat) : Int) ((0 : Nat) : Int) ((1 : Nat) : Int) (by omega) (by omega) (by omega) (by omega) (by omega) (by omega) (by omega) (by omega) (by omega) 1 0 0 0 1 0 0 0 1 (by decide +kernel) (by decide +kernel) (by decide +kernel))) <| zM <| zE oEx <| zE oEx <| zN (oAl 2 ze32 zo32) <| zT (oSt sh32) <| zM <| zZ) ?_
  refine pwp_seq <| pwp_seq <| kd [(80, (vb false))] [] mo (wE (oCl d_ident) <| wR (oLa sh32) <| wE (oCl (l_sameT9 (A9.mk (ofZ 1) (ofZ 0) (ofZ 0) (ofZ 0) (ofZ 1) (ofZ 0) (ofZ 0) (ofZ 0) (ofZ 1)) 1 0 0 0 1 0 0 0 1 (iok_up (iok_small (z := 1) (by decide)) (by decide)) (iok_up (iok_small (z := 0) (by decide)) (by decide)) (iok_up (iok_small (z := 0) (by decide)) (by decide)) (iok_up (iok_small (z := 0) (by decide)) (by decide)) (iok_up (iok_small (z := 1) (by decide)) (by decide)) (iok_up (iok_small (z := 0) (by decide)) (by decide)) (iok_up (iok_small (z := 0) (by decide)) (by decide)) (iok_up (iok_small (z := 0) (by decide)) (by decide)) (iok_up (iok_small (z := 1) (by decide)) (by decide)) (A9.mk (ofZ 1) (ofZ 0) (ofZ 0) (ofZ 0) (ofZ 1) (ofZ 0) (ofZ 0) (ofZ 0) (ofZ 1)) 1 0 0 0 1 0 0 0 1 (iok_up (bn1 1 (by simp)) (by decide)) (iok_up (bn1 0 (by simp)) (by decide)) (iok_up (bn1 0 (by simp)) (by decide)) (iok_up (bn1 0 (by simp)) (by decide)) (iok_up (bn1 1 (by simp)) (by decide)) (iok_up (bn1 0 (by simp)) (by decide)) (iok_up (bn1 0 (by simp)) (by decide)) (iok_up (bn1 0 (by simp)) (by decide)) (iok_up (bn1 1 (by simp)) (by decide)) (validI_ofZ _) (validI_ofZ _) (validI_ofZ _) (validI_ofZ _) (validI_ofZ _) (validI_ofZ _) (validI_ofZ _) (validI_ofZ _) (validI_ofZ _) (sameI_self _) (sameI_self _) (sameI_self _) (sameI_self _) (sameI_self _) (sameI_self _) (sameI_self _) (sameI_self _) (sameI_self _))) <| wE oNt <| wZ) ?_
  refine pwp_cond (b := false) (by kernel_rfl) (fun h => by cases h) (fun _ => ?_)
  refine pwp_skip <| pwp_seq <| kx [(10, (.ref 3 0)), (11, (vi 4))] [(3, some y1)] (zM <| zE (oCl (d_ofM m hm hv hf)) <| zM <| zE oEx <| zE oEx <| zN (oAl 3 ze32 zo32) <| zT (oSt sh32) <| zM <| zZ) ?_
  refine pwp_seq <| kx [(12, (vin 0))] [] (zM <| zZ) ?_
  refine pwp_seq <| pwp_seq <| kx [(86, (vl 82 1 enc_sl_82 m)), (87, (vin m.length)), (88, (vin 0))] [] (zM <| zE (oLm el76) <| zM <| zZ) ?_
  refine pwp_block <| pwp_loop (α := Nat) (fun i => ⟨[(2, (vl 82 1 enc_sl_82 m)), (10, (.ref 3 0)), (11, (vi 4)), (12, (vin 0)), (86, (vl 82 1 enc_sl_82 m)), (87, (vin m.length)), (88, (vin i))], [(3, some y1)]⟩) (fun i => i ≤ m.length) (fun i => m.length - i) 0 wk (Nat.zero_le _) ?_
  rintro i hi
  refine pwp_seq <| kx [(89, (vb (decide (((i : Nat) : Int) < ((m.length : Nat) : Int)))))] [] (zE oLt <| zZ) ?_
  refine pwp_seq <| pwp_cond rfl (fun h3 => ?_) (fun h3 => ?_)
  · replace h3 := of_decide_eq_true h3
    refine pwp_skip <| pwp_seq <| pwp_block <| pwp_seq <| kx [(14, (vl 67 4 encR (m.getD i [])))] [] (zE (oXl el76 i ([] : List (RRat))) <| zE (oC1 sh82) <| zM <| zZ) ?_
    refine pwp_seq <| kx [(94, (vb false))] [] (zM <| zE (oBk true (oCl (g_validL (m.getD i []) (row_get (d := []) hm (show i < m.length by omega)))) (by exact (vrow_get hv (show i < m.length by omega)))) <| zE oNt <| zZ) ?_
    refine pwp_cond (b := false) (by kernel_rfl) (fun h => by cases h) (fun _ => ?_)
    refine pwp_skip <| kx [(88, (vin (i + 1)))] [] (zE (oAd (i + 1)) <| zM <| zZ) ?_
    exact ⟨(i + 1), wk, (by show i + 1 ≤ m.length; omega), (by first | omega | (dsimp only; omega))⟩
  · replace h3 := of_decide_eq_false h3
    refine pwp_exit <| pwp_seq <| pwp_seq <| kx [(123, (vb (true && ((((((m.length : Nat) : Int) != ((3 : Nat) : Int)) || ((((m.getD 0 []).length : Nat) : Int) != ((3 : Nat) : Int))) || ((((m.getD 1 []).length : Nat) : Int) != ((3 : Nat) : Int))) || ((((m.getD 2 []).length : Nat) : Int) != ((3 : Nat) : Int))))))] [] ?_ ?_
    · refine zM <| zE oEq <| zM <| zM <| zE (oLm el76) <| zE oNe <| zE (oV (vb (((m.length : Nat) : Int) != ((3 : Nat) : Int))) (mv_ok (by kernel_rfl))) <| ?_
      rcases hb4 : (((m.length : Nat) : Int) != ((3 : Nat) : Int)) with _ | _
      · replace hb4 := bne_eq_false_iff_eq.1 hb4
        refine zM <| zE (oXl el76 0 ([] : List (RRat))) <| zE (oC1 sh82) <| zE (oLm el82 (L := (m.getD 0 []))) <| zE oNe <| zE oPo <| zE (oV (vb (false || ((((m.getD 0 []).length : Nat) : Int) != ((3 : Nat) : Int)))) (mv_ok (by kernel_rfl))) <| ?_
        rcases hb5 : (false || ((((m.getD 0 []).length : Nat) : Int) != ((3 : Nat) : Int))) with _ | _
        · refine zM <| zE (oXl el76 1 ([] : List (RRat))) <| zE (oC1 sh82) <| zE (oLm el82 (L := (m.getD 1 []))) <| zE oNe <| zE oPo <| zE (oV (vb (false || ((((m.getD 1 []).length : Nat) : Int) != ((3 : Nat) : Int)))) (mv_ok (by kernel_rfl))) <| ?_
          rcases hb6 : (false || ((((m.getD 1 []).length : Nat) : Int) != ((3 : Nat) : Int))) with _ | _
          · exact zM <| zE (oXl el76 2 ([] : List (RRat))) <| zE (oC1 sh82) <| zE (oLm el82 (L := (m.getD 2 []))) <| zE oNe <| zE oPo <| zE oPa <| zZ
          · exact zK <| zK <| zK <| zK <| zK <| zE oPt <| zE oPt <| zZ
        · exact zK <| zK <| zK <| zK <| zK <| zE oPt <| zM <| zK <| zK <| zK <| zK <| zK <| zE oPt <| zE oPt <| zZ
      · replace hb4 := bne_iff_ne.1 hb4
        exact zK <| zK <| zK <| zK <| zK <| zE oPt <| zM <| zK <| zK <| zK <| zK <| zK <| zE oPt <| zM <| zK <| zK <| zK <| zK <| zK <| zE oPt <| zE oPt <| zZ
    refine pwp_cond rfl (fun h7 => ?_) (fun h7 => ?_)
    · refine kx [(12, (vin 4))] [] (zM <| zZ) ?_
      refine pwp_seq <| kx [(15, (.ref 4 0))] [(4, some y1)] (zE (oBa ar32 ze32 zo32) <| zN (oAl 4 ze32 zo32) <| zT (oSt sh32) <| zZ) ?_
      refine pwp_seq <| pwp_seq <| kx [(126, (vb false))] [] (zM <| zE oEq <| zZ) ?_
      refine pwp_cond (b := false) (by kernel_rfl) (fun h => by cases h) (fun _ => ?_)
      refine pwp_skip <| pwp_seq <| pwp_seq <| kx [(188, (vb true))] [] (zM <| zE oNe <| zZ) ?_
      refine pwp_cond (b := true) (by kernel_rfl) (fun _ => ?_) (fun h => by cases h)
      refine pwp_seq <| kx [(6, (vb true))] [] (zM <| zM <| zE oEq <| zM <| zE (e_slv (by exact rfl) ar32 (by exact rfl) (by kernel_rfl) (by kernel_rfl)) <| zR ⟨y1, e_clv (es := List.map encI y2) (l_empty 1000000 y2 [0, 0, 0, 0, 0, 0, 0, 0, 0] (.cons (iu iok_zero) (.cons (iu iok_zero) (.cons (iu iok_zero) (.cons (iu iok_zero) (.cons (iu iok_zero) (.cons (iu iok_zero) (.cons (iu iok_zero) (.cons (iu iok_zero) (.cons (iu iok_zero) .nil))))))))) (Nat.le_of_ble_eq_true rfl) (allnil_of rfl)) (by exact rfl) (by kernel_rfl) (by exact rfl) (.v .nil) (pubs_cells _ _ (fun _ => rfl)) (by kernel_rfl) (by kernel_rfl) (.val _), by kernel_rfl⟩ <| zE oPt <| zM <| zZ) ?_
      refine pwp_ret ⟨_, (.tmp (d := (.val (.bool (true)))) rfl .nil), ?_⟩
      rfl
    · exact absurd h7 (fun hx => fit_abs hf hx)
set_option maxHeartbeats 4000000 in
theorem w_frm (h : A9 RInt) (h0 h1 h2 h3 h4 h5 h6 h7 h8 : Int) (hh0 : IOk h.a0 h0 4) (hh1 : IOk h.a1 h1 4) (hh2 : IOk h.a2 h2 4) (hh3 : IOk h.a3 h3 4) (hh4 : IOk h.a4 h4 4) (hh5 : IOk h.a5 h5 4) (hh6 : IOk h.a6 h6 4) (hh7 : IOk h.a7 h7 4) (hh8 : IOk h.a8 h8 4) (p : A3 RInt) (p0 p1 p2 : Int) (hp0 : IOk p.a0 p0 4) (hp1 : IOk p.a1 p1 4) (hp2 : IOk p.a2 p2 4) (n0 d0 n1 d1 n2 d2 n3 d3 n4 d4 n5 d5 n6 d6 n7 d7 n8 d8 : Int) (hn0 : IOk (ofZ n0) n0 8) (hd0 : IOk (ofZ d0) d0 8) (hn1 : IOk (ofZ n1) n1 8) (hd1 : IOk (ofZ d1) d1 8) (hn2 : IOk (ofZ n2) n2 8) (hd2 : IOk (ofZ d2) d2 8) (hn3 : IOk (ofZ n3) n3 8) (hd3 : IOk (ofZ d3) d3 8) (hn4 : IOk (ofZ n4) n4 8) (hd4 : IOk (ofZ d4) d4 8) (hn5 : IOk (ofZ n5) n5 8) (hd5 : IOk (ofZ d5) d5 8) (hn6 : IOk (ofZ n6) n6 8) (hd6 : IOk (ofZ d6) d6 8) (hn7 : IOk (ofZ n7) n7 8) (hd7 : IOk (ofZ d7) d7 8) (hn8 : IOk (ofZ n8) n8 8) (hd8 : IOk (ofZ d8) d8 8) (hm : MatOk 8 [[(RRat.mk (ofZ n0) (ofZ d0)), (RRat.mk (ofZ n1) (ofZ d1)), (RRat.mk (ofZ n2) (ofZ d2))], [(RRat.mk (ofZ n3) (ofZ d3)), (RRat.mk (ofZ n4) (ofZ d4)), (RRat.mk (ofZ n5) (ofZ d5))], [(RRat.mk (ofZ n6) (ofZ d6)), (RRat.mk (ofZ n7) (ofZ d7)), (RRat.mk (ofZ n8) (ofZ d8))]]) (e0 : Int) (he0 : (1 * d0) = e0) (e1 : Int) (he1 : (e0 * d1) = e1) (e2 : Int) (he2 : (e1 * d2) = e2) (e3 : Int) (he3 : (e2 * d3) = e3) (e4 : Int) (he4 : (e3 * d4) = e4) (e5 : Int) (he5 : (e4 * d5) = e5) (e6 : Int) (he6 : (e5 * d6) = e6) (e7 : Int) (he7 : (e6 * d7) = e7) (e8 : Int) (he8 : (e7 * d8) = e8) (w0 : Int) (hw0 : ((e8.fdiv d0) * n0) = w0) (w1 : Int) (hw1 : ((e8.fdiv d1) * n1) = w1) (w2 : Int) (hw2 : ((e8.fdiv d2) * n2) = w2) (w3 : Int) (hw3 : ((e8.fdiv d3) * n3) = w3) (w4 : Int) (hw4 : ((e8.fdiv d4) * n4) = w4) (w5 : Int) (hw5 : ((e8.fdiv d5) * n5) = w5) (w6 : Int) (hw6 : ((e8.fdiv d6) * n6) = w6) (w7 : Int) (hw7 : ((e8.fdiv d7) * n7) = w7) (w8 : Int) (hw8 : ((e8.fdiv d8) * n8) = w8) (c0 c1 c2 c3 c4 c5 c6 c7 c8 : Int) (hc : redL [w0, w1, w2, w3, w4, w5, w6, w7, w8] = [c0, c1, c2, c3, c4, c5, c6, c7, c8]) (hb0 : List.all [h.a0, h.a1, h.a2, h.a3, h.a4, h.a5, h.a6, h.a7, h.a8] short4 = true) (hb1 : List.all [p.a0, p.a1, p.a2] short4 = true) (hs : shortMat [[(RRat.mk (ofZ n0) (ofZ d0)), (RRat.mk (ofZ n1) (ofZ d1)), (RRat.mk (ofZ n2) (ofZ d2))], [(RRat.mk (ofZ n3) (ofZ d3)), (RRat.mk (ofZ n4) (ofZ d4)), (RRat.mk (ofZ n5) (ofZ d5))], [(RRat.mk (ofZ n6) (ofZ d6)), (RRat.mk (ofZ n7) (ofZ d7)), (RRat.mk (ofZ n8) (ofZ d8))]] = true) (hv0 : validR (RRat.mk (ofZ n0) (ofZ d0)) = true) (hv1 : validR (RRat.mk (ofZ n1) (ofZ d1)) = true) (hv2 : validR (RRat.mk (ofZ n2) (ofZ d2)) = true) (hv3 : validR (RRat.mk (ofZ n3) (ofZ d3)) = true) (hv4 : validR (RRat.mk (ofZ n4) (ofZ d4)) = true) (hv5 : validR (RRat.mk (ofZ n5) (ofZ d5)) = true) (hv6 : validR (RRat.mk (ofZ n6) (ofZ d6)) = true) (hv7 : validR (RRat.mk (ofZ n7) (ofZ d7)) = true) (hv8 : validR (RRat.mk (ofZ n8) (ofZ d8)) = true) (hz0 : d0 ≠ 0) (hz1 : d1 ≠ 0) (hz2 : d2 ≠ 0) (hz3 : d3 ≠ 0) (hz4 : d4 ≠ 0) (hz5 : d5 ≠ 0) (hz6 : d6 ≠ 0) (hz7 : d7 ≠ 0) (hz8 : d8 ≠ 0) (hr0 : vRow [(RRat.mk (ofZ n0) (ofZ d0)), (RRat.mk (ofZ n1) (ofZ d1)), (RRat.mk (ofZ n2) (ofZ d2))] = true) (hr1 : vRow [(RRat.mk (ofZ n3) (ofZ d3)), (RRat.mk (ofZ n4) (ofZ d4)), (RRat.mk (ofZ n5) (ofZ d5))] = true) (hr2 : vRow [(RRat.mk (ofZ n6) (ofZ d6)), (RRat.mk (ofZ n7) (ofZ d7)), (RRat.mk (ofZ n8) (ofZ d8))] = true) (hq0 : (e8 * n0).fdiv d0 = w0) (hq1 : (e8 * n1).fdiv d1 = w1) (hq2 : (e8 * n2).fdiv d2 = w2) (hq3 : (e8 * n3).fdiv d3 = w3) (hq4 : (e8 * n4).fdiv d4 = w4) (hq5 : (e8 * n5).fdiv d5 = w5) (hq6 : (e8 * n6).fdiv d6 = w6) (hq7 : (e8 * n7).fdiv d7 = w7) (hq8 : (e8 * n8).fdiv d8 = w8) (hnz : sgnL [w0, w1, w2, w3, w4, w5, w6, w7, w8] ≠ 0) (hd : signI (det3 w0 w1 w2 w3 w4 w5 w6 w7 w8) ≠ 0) : Takes Tryz.prog 8 [(encA31 h), (encA43 p), (.sl 82 1 (List.map enc_sl_82 [[(RRat.mk (ofZ n0) (ofZ d0)), (RRat.mk (ofZ n1) (ofZ d1)), (RRat.mk (ofZ n2) (ofZ d2))], [(RRat.mk (ofZ n3) (ofZ d3)), (RRat.mk (ofZ n4) (ofZ d4)), (RRat.mk (ofZ n5) (ofZ d5))], [(RRat.mk (ofZ n6) (ofZ d6)), (RRat.mk (ofZ n7) (ofZ d7)), (RRat.mk (ofZ n8) (ofZ d8))]]))] (.val (.bool (true))) := by
  let y7 := [(RRat.mk (ofZ n6) (ofZ d6)), (RRat.mk (ofZ n7) (ofZ d7)), (RRat.mk (ofZ n8) (ofZ d8))]
  let y6 := [(RRat.mk (ofZ n3) (ofZ d3)), (RRat.mk (ofZ n4) (ofZ d4)), (RRat.mk (ofZ n5) (ofZ d5))]
  let y5 := [(RRat.mk (ofZ n0) (ofZ d0)), (RRat.mk (ofZ n1) (ofZ d1)), (RRat.mk (ofZ n2) (ofZ d2))]
  let y4 := (A9.mk (ofZ w0) (ofZ w1) (ofZ w2) (ofZ w3) (ofZ w4) (ofZ w5) (ofZ w6) (ofZ w7) (ofZ w8))
  let y3 := (A9.mk (ofZ c0) (ofZ c1) (ofZ c2) (ofZ c3) (ofZ c4) (ofZ c5) (ofZ c6) (ofZ c7) (ofZ c8))
  let y2 := (bx (encA31 y3))
  let y1 := (bx (encA31 (A9.mk (RInt.mk false []) (RInt.mk false []) (RInt.mk false []) (RInt.mk false []) (RInt.mk false []) (RInt.mk false []) (RInt.mk false []) (RInt.mk false []) (RInt.mk false []))))
  refine fn_intro Tryz.func8 rfl cb8 rfl ?_
  show PWp _ _ _ _ ⟨[(0, (.d (encA31 h))), (1, (.d (encA43 p))), (2, (vl 82 1 enc_sl_82 [y5, y6, y7]))], []⟩
  refine pwp_seq <| kx [(3, (.ref 0 0)), (4, (.ref 1 0))] [(0, some (bx (encA31 h))), (1, some (bx (encA43 p)))] (zN (oBx 0) <| zN (oBx 1) <| zM <| zZ) ?_
  refine pwp_seq <| pwp_seq <| kx [(31, (vb false))] [] (zE (oCl l_known27) <| zE oNt <| zZ) ?_
  refine pwp_cond (b := false) (by kernel_rfl) (fun h => by cases h) (fun _ => ?_)
  refine pwp_skip <| pwp_seq <| pwp_seq <| kd [(42, (vb false))] [] mo (wR (oLa sh32) <| wE (oCl (l_map1 h h0 h1 h2 h3 h4 h5 h6 h7 h8 (iu hh0) (iu hh1) (iu hh2) (iu hh3) (iu hh4) (iu hh5) (iu hh6) (iu hh7) (iu hh8))) <| wR (oLa sh44) <| wE (oBs el65 ze44 zo44) <| wE (oCl (l_briefT11 h h0 h1 h2 h3 h4 h5 h6 h7 h8 (iu hh0) (iu hh1) (iu hh2) (iu hh3) (iu hh4) (iu hh5) (iu hh6) (iu hh7) (iu hh8) p p0 p1 p2 (iu hp0) (iu hp1) (iu hp2) hb0 hb1)) <| wE oNt <| wM <| wM <| wE (oBk true (oCl (g_shortM8 [y5, y6, y7] (mat_up hm (by decide)))) (by exact hs)) <| wE oNt <| wE oPf <| wZ) ?_
  refine pwp_cond (b := false) (by kernel_rfl) (fun h => by cases h) (fun _ => ?_)
  refine pwp_skip <| pwp_seq <| kx [(7, (vb (valH [h.a0, h.a1, h.a2, h.a3, h.a4, h.a5, h.a6, h.a7, h.a8] (det3 h0 h1 h2 h3 h4 h5 h6 h7 h8))))] [] (zR (oLa sh32) <| zE (oCl (l_valid h h0 h1 h2 h3 h4 h5 h6 h7 h8 (iu hh0) (iu hh1) (iu hh2) (iu hh3) (iu hh4) (iu hh5) (iu hh6) (iu hh7) (iu hh8))) <| zM <| zZ) ?_
  refine pwp_seq <| pwp_seq <| kd [(71, (vb false))] [] mo ?_ ?_
  · refine wR (oLa sh32) <| wE (oCl (d_valid h h0 h1 h2 h3 h4 h5 h6 h7 h8 (iu hh0) (iu hh1) (iu hh2) (iu hh3) (iu hh4) (iu hh5) (iu hh6) (iu hh7) (iu hh8))) <| wM <| wE (oBk false (oNb bo4) (by exact congrArg (!·) (beq_self_eq_true _))) <| wM <| wR (oLa sh44) <| wE (oCl (d_proper p p0 p1 p2 (iu hp0) (iu hp1) (iu hp2))) <| wR (oLa sh44) <| wE (oCl (l_proper p p0 p1 p2 (iu hp0) (iu hp1) (iu hp2))) <| wE (oBk false (oNb bo4) (by exact congrArg (!·) (beq_self_eq_true _))) <| wE oPf <| wM <| wR (oLa sh32) <| wE (oCl (d_affine h h0 h1 h2 h3 h4 h5 h6 h7 h8 (iu hh0) (iu hh1) (iu hh2) (iu hh3) (iu hh4) (iu hh5) (iu hh6) (iu hh7) (iu hh8))) <| wM <| wE (oV (vb (valH [h.a0, h.a1, h.a2, h.a3, h.a4, h.a5, h.a6, h.a7, h.a8] (det3 h0 h1 h2 h3 h4 h5 h6 h7 h8))) (mv_ok (by kernel_rfl))) <| ?_
    rcases hb1 : (valH [h.a0, h.a1, h.a2, h.a3, h.a4, h.a5, h.a6, h.a7, h.a8] (det3 h0 h1 h2 h3 h4 h5 h6 h7 h8)) with _ | _
    · exact wK <| wK <| wK <| wE oPf <| wM <| wK <| wK <| wK <| wE oPf <| wE (oBk false (oNb bo4) (by simp)) <| wE oPf <| wZ
    · refine wE (oXr ar32 6) <| wR (oLa sh30) <| wE (oCl (l_zero h.a6 h6 (iu hh6))) <| wE oPa <| wE (oV (vb (true && (signI h6 == 0))) (mv_ok (by kernel_rfl))) <| ?_
      rcases hb2 : (true && (signI h6 == 0)) with _ | _
      · exact wK <| wK <| wK <| wE oPf <| wE (oBk false (oNb bo4) (by simp)) <| wE oPf <| wZ
      · exact wE (oXr ar32 7) <| wR (oLa sh30) <| wE (oCl (l_zero h.a7 h7 (iu hh7))) <| wE oPa <| wE (oBk false (oNb bo4) (by simp)) <| wE oPf <| wZ
  refine pwp_cond (b := false) (by kernel_rfl) (fun h => by cases h) (fun _ => ?_)
  refine pwp_skip <| pwp_seq ?_
  have bn1 : ∀ c ∈ [1, 0, 0, 0, 1, 0, 0, 0, 1], IOk (ofZ c) c 1 := red_iok (n := 1) (.cons (iok_small (z := 1) (by decide)) (.cons (iok_small (z := 0) (by decide)) (.cons (iok_small (z := 0) (by decide)) (.cons (iok_small (z := 0) (by decide)) (.cons (iok_small (z := 1) (by decide)) (.cons (iok_small (z := 0) (by decide)) (.cons (iok_small (z := 0) (by decide)) (.cons (iok_small (z := 0) (by decide)) (.cons (iok_small (z := 1) (by decide)) .nil))))))))) (by decide +kernel)
  refine kx [(8, (.ref 2 0))] [(2, some (bx (encA31 (A9.mk (ofZ 1) (ofZ 0) (ofZ 0) (ofZ 0) (ofZ 1) (ofZ 0) (ofZ 0) (ofZ 0) (ofZ 1)))))] (zE (oBf ar80 ze80 zo80) <| zE (oCl (l_made ((1 : Nat) : Int) ((0 : Nat) : Int) ((0 : Nat) : Int) ((0 : Nat) : Int) ((1 : Nat) : Int) ((0 : Nat) : Int) ((0 : Nat) : Int) ((0 : Nat) : Int) ((1 : Nat) : Int) (by omega) (by omega) (by omega) (by omega) (by omega) (by omega) (by omega) (by omega) (by omega) 1 0 0 0 1 0 0 0 1 (by decide +kernel) (by decide +kernel) (by decide +kernel))) <| zM <| zE oEx <| zE oEx <| zN (oAl 2 ze32 zo32) <| zT (oSt sh32) <| zM <| zZ) ?_
  refine pwp_seq <| pwp_seq <| kd [(80, (vb false))] [] mo (wE (oCl d_ident) <| wR (oLa sh32) <| wE (oCl (l_sameT9 (A9.mk (ofZ 1) (ofZ 0) (ofZ 0) (ofZ 0) (ofZ 1) (ofZ 0) (ofZ 0) (ofZ 0) (ofZ 1)) 1 0 0 0 1 0 0 0 1 (iok_up (iok_small (z := 1) (by decide)) (by decide)) (iok_up (iok_small (z := 0) (by decide)) (by decide)) (iok_up (iok_small (z := 0) (by decide)) (by decide)) (iok_up (iok_small (z := 0) (by decide)) (by decide)) (iok_up (iok_small (z := 1) (by decide)) (by decide)) (iok_up (iok_small (z := 0) (by decide)) (by decide)) (iok_up (iok_small (z := 0) (by decide)) (by decide)) (iok_up (iok_small (z := 0) (by decide)) (by decide)) (iok_up (iok_small (z := 1) (by decide)) (by decide)) (A9.mk (ofZ 1) (ofZ 0) (ofZ 0) (ofZ 0) (ofZ 1) (ofZ 0) (ofZ 0) (ofZ 0) (ofZ 1)) 1 0 0 0 1 0 0 0 1 (iok_up (bn1 1 (by simp)) (by decide)) (iok_up (bn1 0 (by simp)) (by decide)) (iok_up (bn1 0 (by simp)) (by decide)) (iok_up (bn1 0 (by simp)) (by decide)) (iok_up (bn1 1 (by simp)) (by decide)) (iok_up (bn1 0 (by simp)) (by decide)) (iok_up (bn1 0 (by simp)) (by decide)) (iok_up (bn1 0 (by simp)) (by decide)) (iok_up (bn1 1 (by simp)) (by decide)) (validI_ofZ _) (validI_ofZ _) (validI_ofZ _) (validI_ofZ _) (validI_ofZ _) (validI_ofZ _) (validI_ofZ _) (validI_ofZ _) (validI_ofZ _) (sameI_self _) (sameI_self _) (sameI_self _) (sameI_self _) (sameI_self _) (sameI_self _) (sameI_self _) (sameI_self _) (sameI_self _))) <| wE oNt <| wZ) ?_
  refine pwp_cond (b := false) (by kernel_rfl) (fun h => by cases h) (fun _ => ?_)
  refine pwp_skip <| pwp_seq ?_
  have bn2 : IOk (ofZ e0) e0 9 := (iok_eqz he0.symm (iok_mul (k := 9) (iok_small (z := 1) (by decide)) hd0 (by decide)))
  have bn3 : IOk (ofZ e2) e2 25 := (iok_eqz he2.symm (iok_mul (k := 25) (iok_eqz he1.symm (iok_mul (k := 17) bn2 hd1 (by decide))) hd2 (by decide)))
  have bn4 : IOk (ofZ e4) e4 41 := (iok_eqz he4.symm (iok_mul (k := 41) (iok_eqz he3.symm (iok_mul (k := 33) bn3 hd3 (by decide))) hd4 (by decide)))
  have bn5 : IOk (ofZ e6) e6 57 := (iok_eqz he6.symm (iok_mul (k := 57) (iok_eqz he5.symm (iok_mul (k := 49) bn4 hd5 (by decide))) hd6 (by decide)))
  have bn6 : IOk (ofZ e8) e8 73 := (iok_eqz he8.symm (iok_mul (k := 73) (iok_eqz he7.symm (iok_mul (k := 65) bn5 hd7 (by decide))) hd8 (by decide)))
  have bn7 : IOk (ofZ w0) w0 82 := (iok_eqz hw0.symm (iok_mul (k := 82) (iok_fdiv (k := 74) bn6 hd0 (by decide)) hn0 (by decide)))
  have bn8 : IOk (ofZ w1) w1 82 := (iok_eqz hw1.symm (iok_mul (k := 82) (iok_fdiv (k := 74) bn6 hd1 (by decide)) hn1 (by decide)))
  have bn9 : IOk (ofZ w2) w2 82 := (iok_eqz hw2.symm (iok_mul (k := 82) (iok_fdiv (k := 74) bn6 hd2 (by decide)) hn2 (by decide)))
  have bn10 : IOk (ofZ w3) w3 82 := (iok_eqz hw3.symm (iok_mul (k := 82) (iok_fdiv (k := 74) bn6 hd3 (by decide)) hn3 (by decide)))
  have bn11 : IOk (ofZ w4) w4 82 := (iok_eqz hw4.symm (iok_mul (k := 82) (iok_fdiv (k := 74) bn6 hd4 (by decide)) hn4 (by decide)))
  have bn12 : IOk (ofZ w5) w5 82 := (iok_eqz hw5.symm (iok_mul (k := 82) (iok_fdiv (k := 74) bn6 hd5 (by decide)) hn5 (by decide)))
  have bn13 : IOk (ofZ w6) w6 82 := (iok_eqz hw6.symm (iok_mul (k := 82) (iok_fdiv (k := 74) bn6 hd6 (by decide)) hn6 (by decide)))
  have bn14 : IOk (ofZ w7) w7 82 := (iok_eqz hw7.symm (iok_mul (k := 82) (iok_fdiv (k := 74) bn6 hd7 (by decide)) hn7 (by decide)))
  have bn15 : IOk (ofZ w8) w8 82 := (iok_eqz hw8.symm (iok_mul (k := 82) (iok_fdiv (k := 74) bn6 hd8 (by decide)) hn8 (by decide)))
  have bn16 : ∀ c ∈ [c0, c1, c2, c3, c4, c5, c6, c7, c8], IOk (ofZ c) c 82 := red_iok (n := 82) (.cons bn7 (.cons bn8 (.cons bn9 (.cons bn10 (.cons bn11 (.cons bn12 (.cons bn13 (.cons bn14 (.cons bn15 .nil))))))))) hc
  refine kx [(10, (.ref 3 0)), (11, (vi 0))] [(3, some y2)] (zM <| zE (oCl (d_of n0 d0 n1 d1 n2 d2 n3 d3 n4 d4 n5 d5 n6 d6 n7 d7 n8 d8 hn0 hd0 hn1 hd1 hn2 hd2 hn3 hd3 hn4 hd4 hn5 hd5 hn6 hd6 hn7 hd7 hn8 hd8 hm e0 he0 e1 he1 e2 he2 e3 he3 e4 he4 e5 he5 e6 he6 e7 he7 e8 he8 w0 hw0 w1 hw1 w2 hw2 w3 hw3 w4 hw4 w5 hw5 w6 hw6 w7 hw7 w8 hw8 c0 c1 c2 c3 c4 c5 c6 c7 c8 hc hv0 hv1 hv2 hv3 hv4 hv5 hv6 hv7 hv8 hz0 hz1 hz2 hz3 hz4 hz5 hz6 hz7 hz8 hnz hd)) <| zM <| zE oEx <| zE oEx <| zN (oAl 3 ze32 zo32) <| zT (oSt sh32) <| zM <| zZ) ?_
  refine pwp_seq <| kx [(12, (vin 0))] [] (zM <| zZ) ?_
  refine pwp_seq <| pwp_seq <| kx [(86, (vl 82 1 enc_sl_82 [y5, y6, y7])), (87, (vin 3)), (88, (vin 0))] [] (zM <| zE (oLn el76 3 (hr := rfl)) <| zM <| zZ) ?_
  refine pwp_block <| pwp_rounds 20 ?_
  refine pwp_round <| pwp_seq <| kx [(89, (vb true))] [] (zE (oBk true oLt) <| zZ) ?_
  refine pwp_seq <| pwp_cond (b := true) (by kernel_rfl) (fun _ => ?_) (fun h => by cases h)
  refine pwp_skip <| pwp_seq <| pwp_block <| pwp_seq <| kx [(14, (vl 67 4 encR y5))] [] (zE (oXs el76 0) <| zE (oC1 sh82) <| zM <| zZ) ?_
  refine pwp_seq <| kx [(94, (vb false))] [] (zM <| zE (oBk true (oCl (g_validL y5 (hm.1 _ (.head _)))) (by exact hr0)) <| zE oNt <| zZ) ?_
  refine pwp_cond (b := false) (by kernel_rfl) (fun h => by cases h) (fun _ => ?_)
  refine pwp_skip <| kx [(88, (vin 1))] [] (zE (oAd 1 (hr := by decide)) <| zM <| zZ) ?_
  refine pwp_again (SimImp.refl _) ?_
  refine pwp_seq <| pwp_sim (wk (l := [(2, (vl 82 1 enc_sl_82 [y5, y6, y7])), (10, (.ref 3 0)), (11, (vi 0)), (12, (vin 0)), (86, (vl 82 1 enc_sl_82 [y5, y6, y7])), (87, (vin 3)), (88, (vin 1))]) (b := [(3, some y2)])) ?_
  refine kx [(89, (vb true))] [] (zE (oBk true oLt) <| zZ) ?_
  refine pwp_seq <| pwp_cond (b := true) (by kernel_rfl) (fun _ => ?_) (fun h => by cases h)
  refine pwp_skip <| pwp_seq <| pwp_block <| pwp_seq <| kx [(14, (vl 67 4 encR y6))] [] (zE (oXs el76 1) <| zE (oC1 sh82) <| zM <| zZ) ?_
  refine pwp_seq <| kx [(94, (vb false))] [] (zM <| zE (oBk true (oCl (g_validL y6 (hm.1 _ (.tail _ (.head _))))) (by exact hr1)) <| zE oNt <| zZ) ?_
  refine pwp_cond (b := false) (by kernel_rfl) (fun h => by cases h) (fun _ => ?_)
  refine pwp_skip <| kx [(88, (vin 2))] [] (zE (oAd 2 (hr := by decide)) <| zM <| zZ) ?_
  refine pwp_again (SimImp.refl _) ?_
  refine pwp_seq <| kx [(89, (vb true))] [] (zE (oBk true oLt) <| zZ) ?_
  refine pwp_seq <| pwp_cond (b := true) (by kernel_rfl) (fun _ => ?_) (fun h => by cases h)
  refine pwp_skip <| pwp_seq <| pwp_block <| pwp_seq <| kx [(14, (vl 67 4 encR y7))] [] (zE (oXs el76 2) <| zE (oC1 sh82) <| zM <| zZ) ?_
  refine pwp_seq <| kx [(94, (vb false))] [] (zM <| zE (oBk true (oCl (g_validL y7 (hm.1 _ (.tail _ (.tail _ (.head _)))))) (by exact hr2)) <| zE oNt <| zZ) ?_
  refine pwp_cond (b := false) (by kernel_rfl) (fun h => by cases h) (fun _ => ?_)
  refine pwp_skip <| kx [(88, (vin 3))] [] (zE (oAd 3 (hr := by decide)) <| zM <| zZ) ?_
  refine pwp_again (SimImp.refl _) ?_
  refine pwp_seq <| kx [(89, (vb false))] [] (zE (oBk false oLt) <| zZ) ?_
  refine pwp_seq <| pwp_cond (b := false) (by kernel_rfl) (fun h => by cases h) (fun _ => ?_)
  refine pwp_exit <| pwp_seq <| pwp_seq <| kx [(123, (vb false))] [] (zM <| zE oEq <| zM <| zM <| zE (oLn el76 3 (hr := rfl)) <| zE oNe <| zM <| zM <| zE (oXs el76 0) <| zE (oC1 sh82) <| zE (oLn el82 3 (hr := rfl)) <| zE oNe <| zE oPf <| zM <| zM <| zE (oXs el76 1) <| zE (oC1 sh82) <| zE (oLn el82 3 (hr := rfl)) <| zE oNe <| zE oPf <| zM <| zM <| zE (oXs el76 2) <| zE (oC1 sh82) <| zE (oLn el82 3 (hr := rfl)) <| zE oNe <| zE oPf <| zE oPt <| zZ) ?_
  refine pwp_cond (b := false) (by kernel_rfl) (fun h => by cases h) (fun _ => ?_)
  refine pwp_skip <| pwp_seq <| kx [(15, (.ref 4 0))] [(4, some y1)] (zE (oBa ar32 ze32 zo32) <| zN (oAl 4 ze32 zo32) <| zT (oSt sh32) <| zZ) ?_
  refine pwp_seq <| pwp_seq <| kx [(126, (vb true))] [] (zM <| zE oEq <| zZ) ?_
  refine pwp_cond (b := true) (by kernel_rfl) (fun _ => ?_) (fun h => by cases h)
  refine pwp_seq <| kx [(16, (.ref 5 0))] [(5, some (bx (encI (ofZ 1))))] (zE (oCl (l_wholeI 1 (by decide) (by decide))) <| zN (oAl 5 ze30 zo30) <| zT (oSt sh30) <| zZ) ?_
  refine pwp_seq <| pwp_seq <| kx [(128, (vl 82 1 enc_sl_82 [y5, y6, y7])), (129, (vin 3)), (130, (vin 0))] [] (zM <| zE (oLn el76 3 (hr := rfl)) <| zM <| zZ) ?_
  refine pwp_block <| pwp_rounds 20 ?_
  refine pwp_round <| pwp_seq <| pwp_sim (wk (l := [(2, (vl 82 1 enc_sl_82 [y5, y6, y7])), (10, (.ref 3 0)), (11, (vi 0)), (12, (vin 0)), (15, (.ref 4 0)), (16, (.ref 5 0)), (128, (vl 82 1 enc_sl_82 [y5, y6, y7])), (129, (vin 3)), (130, (vin 0))]) (b := [(3, some y2), (4, some y1), (5, some (bx (encI (ofZ 1))))])) ?_
  refine kx [(131, (vb true))] [] (zE (oBk true oLt) <| zZ) ?_
  refine pwp_seq <| pwp_cond (b := true) (by kernel_rfl) (fun _ => ?_) (fun h => by cases h)
  refine pwp_skip <| pwp_seq <| pwp_block <| pwp_seq <| kx [(18, (vl 67 4 encR y5))] [] (zE (oXs el76 0) <| zE (oC1 sh82) <| zM <| zZ) ?_
  refine pwp_seq <| kx [(134, (vl 67 4 encR y5)), (135, (vin 3)), (136, (vin 0))] [] (zM <| zE (oLn el82 3 (hr := rfl)) <| zM <| zZ) ?_
  refine pwp_block <| pwp_rounds 20 ?_
  refine pwp_round <| pwp_seq <| kx [(137, (vb true))] [] (zE (oBk true oLt) <| zZ) ?_
  refine pwp_seq <| pwp_cond (b := true) (by kernel_rfl) (fun _ => ?_) (fun h => by cases h)
  refine pwp_skip <| pwp_seq <| pwp_block <| pwp_seq <| kx [(20, (.ref 6 0))] [(6, some (bx (encR (RRat.mk (ofZ n0) (ofZ d0)))))] (zE (oXs el82 0) <| zE (oCa sh67) <| zN (oAl 6 ze67 zo67) <| zT (oSt sh67) <| zZ) ?_
  refine kx [] [(5, some (bx (encI (ofZ e0))))] (zR (oLa sh30) <| zE (oFr fo67_1) <| zR (oLa sh30) <| zE (oCl (by have h := l_times (ofZ 1) 1 (iok_up (iok_small (z := 1) (by decide)) (by decide)) (ofZ d0) d0 (iu hd0); rw [he0] at h; exact h)) <| zT (oSt sh30) <| zZ) ?_
  refine kx [(136, (vin 1))] [] (zE (oAd 1 (hr := by decide)) <| zM <| zZ) ?_
  refine pwp_again (SimImp.refl _) ?_
  refine pwp_seq <| kx [(137, (vb true))] [] (zE (oBk true oLt) <| zZ) ?_
  refine pwp_seq <| pwp_cond (b := true) (by kernel_rfl) (fun _ => ?_) (fun h => by cases h)
  refine pwp_skip <| pwp_seq <| pwp_block <| pwp_seq <| kx [(20, (.ref 7 0))] [(7, some (bx (encR (RRat.mk (ofZ n1) (ofZ d1)))))] (zE (oXs el82 1) <| zE (oCa sh67) <| zN (oAl 7 ze67 zo67) <| zT (oSt sh67) <| zZ) ?_
  have bn17 : IOk (ofZ e1) e1 17 := (iok_eqz he1.symm (iok_mul (k := 17) bn2 hd1 (by decide)))
  refine kx [] [(5, some (bx (encI (ofZ e1))))] (zR (oLa sh30) <| zE (oFr fo67_1) <| zR (oLa sh30) <| zE (oCl (by have h := l_times (ofZ e0) e0 (iu bn2) (ofZ d1) d1 (iu hd1); rw [he1] at h; exact h)) <| zT (oSt sh30) <| zZ) ?_
  refine kx [(136, (vin 2))] [] (zE (oAd 2 (hr := by decide)) <| zM <| zZ) ?_
  refine pwp_again (SimImp.refl _) ?_
  refine pwp_seq <| kx [(137, (vb true))] [] (zE (oBk true oLt) <| zZ) ?_
  refine pwp_seq <| pwp_cond (b := true) (by kernel_rfl) (fun _ => ?_) (fun h => by cases h)
  refine pwp_skip <| pwp_seq <| pwp_block <| pwp_seq <| kx [(20, (.ref 8 0))] [(8, some (bx (encR (RRat.mk (ofZ n2) (ofZ d2)))))] (zE (oXs el82 2) <| zE (oCa sh67) <| zN (oAl 8 ze67 zo67) <| zT (oSt sh67) <| zZ) ?_
  refine kx [] [(5, some (bx (encI (ofZ e2))))] (zR (oLa sh30) <| zE (oFr fo67_1) <| zR (oLa sh30) <| zE (oCl (by have h := l_times (ofZ e1) e1 (iu bn17) (ofZ d2) d2 (iu hd2); rw [he2] at h; exact h)) <| zT (oSt sh30) <| zZ) ?_
  refine pwp_sim (wk (l := [(2, (vl 82 1 enc_sl_82 [y5, y6, y7])), (10, (.ref 3 0)), (11, (vi 0)), (12, (vin 0)), (15, (.ref 4 0)), (16, (.ref 5 0)), (128, (vl 82 1 enc_sl_82 [y5, y6, y7])), (129, (vin 3)), (130, (vin 0)), (134, (vl 67 4 encR y5)), (135, (vin 3)), (136, (vin 2))]) (b := [(3, some y2), (4, some y1), (5, some (bx (encI (ofZ e2))))])) ?_
  refine kx [(136, (vin 3))] [] (zE (oAd 3 (hr := by decide)) <| zM <| zZ) ?_
  refine pwp_again (SimImp.refl _) ?_
  refine pwp_seq <| kx [(137, (vb false))] [] (zE (oBk false oLt) <| zZ) ?_
  refine pwp_seq <| pwp_cond (b := false) (by kernel_rfl) (fun h => by cases h) (fun _ => ?_)
  refine pwp_exit <| kx [(130, (vin 1))] [] (zE (oAd 1 (hr := by decide)) <| zM <| zZ) ?_
  refine pwp_again (SimImp.refl _) ?_
  refine pwp_seq <| kx [(131, (vb true))] [] (zE (oBk true oLt) <| zZ) ?_
  refine pwp_seq <| pwp_cond (b := true) (by kernel_rfl) (fun _ => ?_) (fun h => by cases h)
  refine pwp_skip <| pwp_seq <| pwp_block <| pwp_seq <| kx [(18, (vl 67 4 encR y6))] [] (zE (oXs el76 1) <| zE (oC1 sh82) <| zM <| zZ) ?_
  refine pwp_seq <| kx [(134, (vl 67 4 encR y6)), (135, (vin 3)), (136, (vin 0))] [] (zM <| zE (oLn el82 3 (hr := rfl)) <| zM <| zZ) ?_
  refine pwp_block <| pwp_rounds 20 ?_
  refine pwp_round <| pwp_seq <| kx [(137, (vb true))] [] (zE (oBk true oLt) <| zZ) ?_
  refine pwp_seq <| pwp_cond (b := true) (by kernel_rfl) (fun _ => ?_) (fun h => by cases h)
  refine pwp_skip <| pwp_seq <| pwp_block <| pwp_seq <| kx [(20, (.ref 9 0))] [(9, some (bx (encR (RRat.mk (ofZ n3) (ofZ d3)))))] (zE (oXs el82 0) <| zE (oCa sh67) <| zN (oAl 9 ze67 zo67) <| zT (oSt sh67) <| zZ) ?_
  have bn18 : IOk (ofZ e3) e3 33 := (iok_eqz he3.symm (iok_mul (k := 33) bn3 hd3 (by decide)))
  refine kx [] [(5, some (bx (encI (ofZ e3))))] (zR (oLa sh30) <| zE (oFr fo67_1) <| zR (oLa sh30) <| zE (oCl (by have h := l_times (ofZ e2) e2 (iu bn3) (ofZ d3) d3 (iu hd3); rw [he3] at h; exact h)) <| zT (oSt sh30) <| zZ) ?_
  refine kx [(136, (vin 1))] [] (zE (oAd 1 (hr := by decide)) <| zM <| zZ) ?_
  refine pwp_again (SimImp.refl _) ?_
  refine pwp_seq <| kx [(137, (vb true))] [] (zE (oBk true oLt) <| zZ) ?_
  refine pwp_seq <| pwp_cond (b := true) (by kernel_rfl) (fun _ => ?_) (fun h => by cases h)
  refine pwp_skip <| pwp_seq <| pwp_block <| pwp_seq <| kx [(20, (.ref 10 0))] [(10, some (bx (encR (RRat.mk (ofZ n4) (ofZ d4)))))] (zE (oXs el82 1) <| zE (oCa sh67) <| zN (oAl 10 ze67 zo67) <| zT (oSt sh67) <| zZ) ?_
  refine kx [] [(5, some (bx (encI (ofZ e4))))] (zR (oLa sh30) <| zE (oFr fo67_1) <| zR (oLa sh30) <| zE (oCl (by have h := l_times (ofZ e3) e3 (iu bn18) (ofZ d4) d4 (iu hd4); rw [he4] at h; exact h)) <| zT (oSt sh30) <| zZ) ?_
  refine kx [(136, (vin 2))] [] (zE (oAd 2 (hr := by decide)) <| zM <| zZ) ?_
  refine pwp_again (SimImp.refl _) ?_
  refine pwp_seq <| pwp_sim (wk (l := [(2, (vl 82 1 enc_sl_82 [y5, y6, y7])), (10, (.ref 3 0)), (11, (vi 0)), (12, (vin 0)), (15, (.ref 4 0)), (16, (.ref 5 0)), (128, (vl 82 1 enc_sl_82 [y5, y6, y7])), (129, (vin 3)), (130, (vin 1)), (134, (vl 67 4 encR y6)), (135, (vin 3)), (136, (vin 2))]) (b := [(3, some y2), (4, some y1), (5, some (bx (encI (ofZ e4))))])) ?_
  refine kx [(137, (vb true))] [] (zE (oBk true oLt) <| zZ) ?_
  refine pwp_seq <| pwp_cond (b := true) (by kernel_rfl) (fun _ => ?_) (fun h => by cases h)
  refine pwp_skip <| pwp_seq <| pwp_block <| pwp_seq <| kx [(20, (.ref 11 0))] [(11, some (bx (encR (RRat.mk (ofZ n5) (ofZ d5)))))] (zE (oXs el82 2) <| zE (oCa sh67) <| zN (oAl 11 ze67 zo67) <| zT (oSt sh67) <| zZ) ?_
  have bn19 : IOk (ofZ e5) e5 49 := (iok_eqz he5.symm (iok_mul (k := 49) bn4 hd5 (by decide)))
  refine kx [] [(5, some (bx (encI (ofZ e5))))] (zR (oLa sh30) <| zE (oFr fo67_1) <| zR (oLa sh30) <| zE (oCl (by have h := l_times (ofZ e4) e4 (iu bn4) (ofZ d5) d5 (iu hd5); rw [he5] at h; exact h)) <| zT (oSt sh30) <| zZ) ?_
  refine kx [(136, (vin 3))] [] (zE (oAd 3 (hr := by decide)) <| zM <| zZ) ?_
  refine pwp_again (SimImp.refl _) ?_
  refine pwp_seq <| kx [(137, (vb false))] [] (zE (oBk false oLt) <| zZ) ?_
  refine pwp_seq <| pwp_cond (b := false) (by kernel_rfl) (fun h => by cases h) (fun _ => ?_)
  refine pwp_exit <| kx [(130, (vin 2))] [] (zE (oAd 2 (hr := by decide)) <| zM <| zZ) ?_
  refine pwp_again (SimImp.refl _) ?_
  refine pwp_seq <| kx [(131, (vb true))] [] (zE (oBk true oLt) <| zZ) ?_
  refine pwp_seq <| pwp_cond (b := true) (by kernel_rfl) (fun _ => ?_) (fun h => by cases h)
  refine pwp_skip <| pwp_seq <| pwp_block <| pwp_seq <| kx [(18, (vl 67 4 encR y7))] [] (zE (oXs el76 2) <| zE (oC1 sh82) <| zM <| zZ) ?_
  refine pwp_seq <| kx [(134, (vl 67 4 encR y7)), (135, (vin 3)), (136, (vin 0))] [] (zM <| zE (oLn el82 3 (hr := rfl)) <| zM <| zZ) ?_
  refine pwp_block <| pwp_rounds 20 ?_
  refine pwp_round <| pwp_seq <| kx [(137, (vb true))] [] (zE (oBk true oLt) <| zZ) ?_
  refine pwp_seq <| pwp_cond (b := true) (by kernel_rfl) (fun _ => ?_) (fun h => by cases h)
  refine pwp_skip <| pwp_seq <| pwp_block <| pwp_seq <| kx [(20, (.ref 12 0))] [(12, some (bx (encR (RRat.mk (ofZ n6) (ofZ d6)))))] (zE (oXs el82 0) <| zE (oCa sh67) <| zN (oAl 12 ze67 zo67) <| zT (oSt sh67) <| zZ) ?_
  refine kx [] [(5, some (bx (encI (ofZ e6))))] (zR (oLa sh30) <| zE (oFr fo67_1) <| zR (oLa sh30) <| zE (oCl (by have h := l_times (ofZ e5) e5 (iu bn19) (ofZ d6) d6 (iu hd6); rw [he6] at h; exact h)) <| zT (oSt sh30) <| zZ) ?_
  refine kx [(136, (vin 1))] [] (zE (oAd 1 (hr := by decide)) <| zM <| zZ) ?_
  refine pwp_again (SimImp.refl _) ?_
  refine pwp_seq <| kx [(137, (vb true))] [] (zE (oBk true oLt) <| zZ) ?_
  refine pwp_seq <| pwp_cond (b := true) (by kernel_rfl) (fun _ => ?_) (fun h => by cases h)
  refine pwp_skip <| pwp_seq <| pwp_block <| pwp_seq <| pwp_sim (wk (l := [(2, (vl 82 1 enc_sl_82 [y5, y6, y7])), (10, (.ref 3 0)), (11, (vi 0)), (12, (vin 0)), (15, (.ref 4 0)), (16, (.ref 5 0)), (128, (vl 82 1 enc_sl_82 [y5, y6, y7])), (129, (vin 3)), (130, (vin 2)), (134, (vl 67 4 encR y7)), (135, (vin 3)), (136, (vin 1)), (137, (vb true))]) (b := [(3, some y2), (4, some y1), (5, some (bx (encI (ofZ e6))))])) ?_
  refine kx [(20, (.ref 13 0))] [(13, some (bx (encR (RRat.mk (ofZ n7) (ofZ d7)))))] (zE (oXs el82 1) <| zE (oCa sh67) <| zN (oAl 13 ze67 zo67) <| zT (oSt sh67) <| zZ) ?_
  have bn20 : IOk (ofZ e7) e7 65 := (iok_eqz he7.symm (iok_mul (k := 65) bn5 hd7 (by decide)))
  refine kx [] [(5, some (bx (encI (ofZ e7))))] (zR (oLa sh30) <| zE (oFr fo67_1) <| zR (oLa sh30) <| zE (oCl (by have h := l_times (ofZ e6) e6 (iu bn5) (ofZ d7) d7 (iu hd7); rw [he7] at h; exact h)) <| zT (oSt sh30) <| zZ) ?_
  refine kx [(136, (vin 2))] [] (zE (oAd 2 (hr := by decide)) <| zM <| zZ) ?_
  refine pwp_again (SimImp.refl _) ?_
  refine pwp_seq <| kx [(137, (vb true))] [] (zE (oBk true oLt) <| zZ) ?_
  refine pwp_seq <| pwp_cond (b := true) (by kernel_rfl) (fun _ => ?_) (fun h => by cases h)
  refine pwp_skip <| pwp_seq <| pwp_block <| pwp_seq <| kx [(20, (.ref 14 0))] [(14, some (bx (encR (RRat.mk (ofZ n8) (ofZ d8)))))] (zE (oXs el82 2) <| zE (oCa sh67) <| zN (oAl 14 ze67 zo67) <| zT (oSt sh67) <| zZ) ?_
  refine kx [] [(5, some (bx (encI (ofZ e8))))] (zR (oLa sh30) <| zE (oFr fo67_1) <| zR (oLa sh30) <| zE (oCl (by have h := l_times (ofZ e7) e7 (iu bn20) (ofZ d8) d8 (iu hd8); rw [he8] at h; exact h)) <| zT (oSt sh30) <| zZ) ?_
  refine kx [(136, (vin 3))] [] (zE (oAd 3 (hr := by decide)) <| zM <| zZ) ?_
  refine pwp_again (SimImp.refl _) ?_
  refine pwp_seq <| kx [(137, (vb false))] [] (zE (oBk false oLt) <| zZ) ?_
  refine pwp_seq <| pwp_cond (b := false) (by kernel_rfl) (fun h => by cases h) (fun _ => ?_)
  refine pwp_exit <| kx [(130, (vin 3))] [] (zE (oAd 3 (hr := by decide)) <| zM <| zZ) ?_
  refine pwp_again (SimImp.refl _) ?_
  refine pwp_seq <| kx [(131, (vb false))] [] (zE (oBk false oLt) <| zZ) ?_
  refine pwp_seq <| pwp_cond (b := false) (by kernel_rfl) (fun h => by cases h) (fun _ => ?_)
  refine pwp_exit <| pwp_seq <| pwp_seq <| kx [(146, (vl 82 1 enc_sl_82 [y5, y6, y7])), (147, (vin 3)), (148, (vin 0))] [] (zM <| zE (oLn el76 3 (hr := rfl)) <| zM <| zZ) ?_
  refine pwp_block <| pwp_rounds 20 ?_
  refine pwp_round <| pwp_seq <| kx [(149, (vb true))] [] (zE (oBk true oLt) <| zZ) ?_
  refine pwp_seq <| pwp_cond (b := true) (by kernel_rfl) (fun _ => ?_) (fun h => by cases h)
  refine pwp_skip <| pwp_seq <| pwp_block <| pwp_seq <| kx [(21, (vin 0)), (22, (vl 67 4 encR y5))] [] (zM <| zE (oXs el76 0) <| zE (oC1 sh82) <| zM <| zM <| zZ) ?_
  refine pwp_seq <| kx [(153, (vl 67 4 encR y5)), (154, (vin 3)), (155, (vin 0))] [] (zM <| zE (oLn el82 3 (hr := rfl)) <| zM <| zZ) ?_
  refine pwp_block <| pwp_rounds 20 ?_
  refine pwp_round <| pwp_seq <| pwp_sim (wk (l := [(10, (.ref 3 0)), (11, (vi 0)), (12, (vin 0)), (15, (.ref 4 0)), (16, (.ref 5 0)), (21, (vin 0)), (146, (vl 82 1 enc_sl_82 [y5, y6, y7])), (147, (vin 3)), (148, (vin 0)), (153, (vl 67 4 encR y5)), (154, (vin 3)), (155, (vin 0))]) (b := [(3, some y2), (4, some y1), (5, some (bx (encI (ofZ e8))))])) ?_
  refine kx [(156, (vb true))] [] (zE (oBk true oLt) <| zZ) ?_
  refine pwp_seq <| pwp_cond (b := true) (by kernel_rfl) (fun _ => ?_) (fun h => by cases h)
  refine pwp_skip <| pwp_seq <| pwp_block <| pwp_seq <| kx [(23, (vin 0)), (24, (.ref 15 0))] [(15, some (bx (encR (RRat.mk (ofZ n0) (ofZ d0)))))] (zM <| zE (oXs el82 0) <| zE (oCa sh67) <| zN (oAl 15 ze67 zo67) <| zM <| zT (oSt sh67) <| zZ) ?_
  refine pwp_seq <| kd [(25, (.ref 16 0))] [(16, some (bx (encI (ofZ w0)))), (17, none)] mo (wR (oLa sh30) <| wE (oFr fo67_0) <| wR (oLa sh30) <| wE (oCl (l_times (ofZ e8) e8 (iu bn6) (ofZ n0) n0 (iu hn0))) <| wE (oFr fo67_1) <| wR (oLa sh30) <| wE (oCl (by have h := rs_divide (iok_mul (k := 81) bn6 hn0 (by decide)) hd0 (by decide) (by decide) (by omega); rw [hq0] at h; exact h)) <| wM <| wE oEx <| wE oEx <| wE oEx <| wN (oAl 16 ze30 zo30) <| wN (oAl 17 ze30 zo30) <| wT (oSt sh30) <| wT (oSt sh30) <| wM <| wZ) ?_
  refine kx [] [(4, some (bx (encA31 (A9.mk (ofZ w0) (RInt.mk false []) (RInt.mk false []) (RInt.mk false []) (RInt.mk false []) (RInt.mk false []) (RInt.mk false []) (RInt.mk false []) (RInt.mk false [])))))] (zM <| zE (oMl 0 (hr := by decide)) <| zM <| zE (oAd 0 (hr := by decide)) <| zR (oLa sh30) <| zE (oXr ar32 0) <| zT (oSt sh30) <| zZ) ?_
  refine kx [(155, (vin 1))] [] (zE (oAd 1 (hr := by decide)) <| zM <| zZ) ?_
  refine pwp_again (SimImp.refl _) ?_
  refine pwp_seq <| kx [(156, (vb true))] [] (zE (oBk true oLt) <| zZ) ?_
  refine pwp_seq <| pwp_cond (b := true) (by kernel_rfl) (fun _ => ?_) (fun h => by cases h)
  refine pwp_skip <| pwp_seq <| pwp_block <| pwp_seq <| kx [(23, (vin 1)), (24, (.ref 18 0))] [(18, some (bx (encR (RRat.mk (ofZ n1) (ofZ d1)))))] (zM <| zE (oXs el82 1) <| zE (oCa sh67) <| zN (oAl 18 ze67 zo67) <| zM <| zT (oSt sh67) <| zZ) ?_
  refine pwp_seq <| kd [(25, (.ref 19 0))] [(19, some (bx (encI (ofZ w1)))), (20, none)] mo (wR (oLa sh30) <| wE (oFr fo67_0) <| wR (oLa sh30) <| wE (oCl (l_times (ofZ e8) e8 (iu bn6) (ofZ n1) n1 (iu hn1))) <| wE (oFr fo67_1) <| wR (oLa sh30) <| wE (oCl (by have h := rs_divide (iok_mul (k := 81) bn6 hn1 (by decide)) hd1 (by decide) (by decide) (by omega); rw [hq1] at h; exact h)) <| wM <| wE oEx <| wE oEx <| wE oEx <| wN (oAl 19 ze30 zo30) <| wN (oAl 20 ze30 zo30) <| wT (oSt sh30) <| wT (oSt sh30) <| wM <| wZ) ?_
  refine kx [] [(4, some (bx (encA31 (A9.mk (ofZ w0) (ofZ w1) (RInt.mk false []) (RInt.mk false []) (RInt.mk false []) (RInt.mk false []) (RInt.mk false []) (RInt.mk false []) (RInt.mk false [])))))] (zM <| zE (oMl 0 (hr := by decide)) <| zM <| zE (oAd 1 (hr := by decide)) <| zR (oLa sh30) <| zE (oXr ar32 1) <| zT (oSt sh30) <| zZ) ?_
  refine kx [(155, (vin 2))] [] (zE (oAd 2 (hr := by decide)) <| zM <| zZ) ?_
  refine pwp_again (SimImp.refl _) ?_
  refine pwp_seq <| kx [(156, (vb true))] [] (zE (oBk true oLt) <| zZ) ?_
  refine pwp_seq <| pwp_cond (b := true) (by kernel_rfl) (fun _ => ?_) (fun h => by cases h)
  refine pwp_skip <| pwp_seq <| pwp_block <| pwp_seq <| kx [(23, (vin 2)), (24, (.ref 21 0))] [(21, some (bx (encR (RRat.mk (ofZ n2) (ofZ d2)))))] (zM <| zE (oXs el82 2) <| zE (oCa sh67) <| zN (oAl 21 ze67 zo67) <| zM <| zT (oSt sh67) <| zZ) ?_
  refine pwp_seq <| kd [(25, (.ref 22 0))] [(22, some (bx (encI (ofZ w2)))), (23, none)] mo (wR (oLa sh30) <| wE (oFr fo67_0) <| wR (oLa sh30) <| wE (oCl (l_times (ofZ e8) e8 (iu bn6) (ofZ n2) n2 (iu hn2))) <| wE (oFr fo67_1) <| wR (oLa sh30) <| wE (oCl (by have h := rs_divide (iok_mul (k := 81) bn6 hn2 (by decide)) hd2 (by decide) (by decide) (by omega); rw [hq2] at h; exact h)) <| wM <| wE oEx <| wE oEx <| wE oEx <| wN (oAl 22 ze30 zo30) <| wN (oAl 23 ze30 zo30) <| wT (oSt sh30) <| wT (oSt sh30) <| wM <| wZ) ?_
  refine kx [] [(4, some (bx (encA31 (A9.mk (ofZ w0) (ofZ w1) (ofZ w2) (RInt.mk false []) (RInt.mk false []) (RInt.mk false []) (RInt.mk false []) (RInt.mk false []) (RInt.mk false [])))))] (zM <| zE (oMl 0 (hr := by decide)) <| zM <| zE (oAd 2 (hr := by decide)) <| zR (oLa sh30) <| zE (oXr ar32 2) <| zT (oSt sh30) <| zZ) ?_
  refine pwp_sim (wk (l := [(10, (.ref 3 0)), (11, (vi 0)), (12, (vin 0)), (15, (.ref 4 0)), (16, (.ref 5 0)), (21, (vin 0)), (146, (vl 82 1 enc_sl_82 [y5, y6, y7])), (147, (vin 3)), (148, (vin 0)), (153, (vl 67 4 encR y5)), (154, (vin 3)), (155, (vin 2))]) (b := [(3, some y2), (4, some (bx (encA31 (A9.mk (ofZ w0) (ofZ w1) (ofZ w2) (RInt.mk false []) (RInt.mk false []) (RInt.mk false []) (RInt.mk false []) (RInt.mk false []) (RInt.mk false []))))), (5, some (bx (encI (ofZ e8))))])) ?_
  refine kx [(155, (vin 3))] [] (zE (oAd 3 (hr := by decide)) <| zM <| zZ) ?_
  refine pwp_again (SimImp.refl _) ?_
  refine pwp_seq <| kx [(156, (vb false))] [] (zE (oBk false oLt) <| zZ) ?_
  refine pwp_seq <| pwp_cond (b := false) (by kernel_rfl) (fun h => by cases h) (fun _ => ?_)
  refine pwp_exit <| kx [(148, (vin 1))] [] (zE (oAd 1 (hr := by decide)) <| zM <| zZ) ?_
  refine pwp_again (SimImp.refl _) ?_
  refine pwp_seq <| kx [(149, (vb true))] [] (zE (oBk true oLt) <| zZ) ?_
  refine pwp_seq <| pwp_cond (b := true) (by kernel_rfl) (fun _ => ?_) (fun h => by cases h)
  refine pwp_skip <| pwp_seq <| pwp_block <| pwp_seq <| kx [(21, (vin 1)), (22, (vl 67 4 encR y6))] [] (zM <| zE (oXs el76 1) <| zE (oC1 sh82) <| zM <| zM <| zZ) ?_
  refine pwp_seq <| kx [(153, (vl 67 4 encR y6)), (154, (vin 3)), (155, (vin 0))] [] (zM <| zE (oLn el82 3 (hr := rfl)) <| zM <| zZ) ?_
  refine pwp_block <| pwp_rounds 20 ?_
  refine pwp_round <| pwp_seq <| kx [(156, (vb true))] [] (zE (oBk true oLt) <| zZ) ?_
  refine pwp_seq <| pwp_cond (b := true) (by kernel_rfl) (fun _ => ?_) (fun h => by cases h)
  refine pwp_skip <| pwp_seq <| pwp_block <| pwp_seq <| kx [(23, (vin 0)), (24, (.ref 24 0))] [(24, some (bx (encR (RRat.mk (ofZ n3) (ofZ d3)))))] (zM <| zE (oXs el82 0) <| zE (oCa sh67) <| zN (oAl 24 ze67 zo67) <| zM <| zT (oSt sh67) <| zZ) ?_
  refine pwp_seq <| kd [(25, (.ref 25 0))] [(25, some (bx (encI (ofZ w3)))), (26, none)] mo (wR (oLa sh30) <| wE (oFr fo67_0) <| wR (oLa sh30) <| wE (oCl (l_times (ofZ e8) e8 (iu bn6) (ofZ n3) n3 (iu hn3))) <| wE (oFr fo67_1) <| wR (oLa sh30) <| wE (oCl (by have h := rs_divide (iok_mul (k := 81) bn6 hn3 (by decide)) hd3 (by decide) (by decide) (by omega); rw [hq3] at h; exact h)) <| wM <| wE oEx <| wE oEx <| wE oEx <| wN (oAl 25 ze30 zo30) <| wN (oAl 26 ze30 zo30) <| wT (oSt sh30) <| wT (oSt sh30) <| wM <| wZ) ?_
  refine kx [] [(4, some (bx (encA31 (A9.mk (ofZ w0) (ofZ w1) (ofZ w2) (ofZ w3) (RInt.mk false []) (RInt.mk false []) (RInt.mk false []) (RInt.mk false []) (RInt.mk false [])))))] (zM <| zE (oMl 3 (hr := by decide)) <| zM <| zE (oAd 3 (hr := by decide)) <| zR (oLa sh30) <| zE (oXr ar32 3) <| zT (oSt sh30) <| zZ) ?_
  refine kx [(155, (vin 1))] [] (zE (oAd 1 (hr := by decide)) <| zM <| zZ) ?_
  refine pwp_again (SimImp.refl _) ?_
  refine pwp_seq <| kx [(156, (vb true))] [] (zE (oBk true oLt) <| zZ) ?_
  refine pwp_seq <| pwp_cond (b := true) (by kernel_rfl) (fun _ => ?_) (fun h => by cases h)
  refine pwp_skip <| pwp_seq <| pwp_block <| pwp_seq <| kx [(23, (vin 1)), (24, (.ref 27 0))] [(27, some (bx (encR (RRat.mk (ofZ n4) (ofZ d4)))))] (zM <| zE (oXs el82 1) <| zE (oCa sh67) <| zN (oAl 27 ze67 zo67) <| zM <| zT (oSt sh67) <| zZ) ?_
  refine pwp_seq <| kd [(25, (.ref 28 0))] [(28, some (bx (encI (ofZ w4)))), (29, none)] mo (wR (oLa sh30) <| wE (oFr fo67_0) <| wR (oLa sh30) <| wE (oCl (l_times (ofZ e8) e8 (iu bn6) (ofZ n4) n4 (iu hn4))) <| wE (oFr fo67_1) <| wR (oLa sh30) <| wE (oCl (by have h := rs_divide (iok_mul (k := 81) bn6 hn4 (by decide)) hd4 (by decide) (by decide) (by omega); rw [hq4] at h; exact h)) <| wM <| wE oEx <| wE oEx <| wE oEx <| wN (oAl 28 ze30 zo30) <| wN (oAl 29 ze30 zo30) <| wT (oSt sh30) <| wT (oSt sh30) <| wM <| wZ) ?_
  refine pwp_sim (wk (l := [(10, (.ref 3 0)), (11, (vi 0)), (12, (vin 0)), (15, (.ref 4 0)), (16, (.ref 5 0)), (21, (vin 1)), (23, (vin 1)), (25, (.ref 28 0)), (146, (vl 82 1 enc_sl_82 [y5, y6, y7])), (147, (vin 3)), (148, (vin 1)), (153, (vl 67 4 encR y6)), (154, (vin 3)), (155, (vin 1))]) (b := [(28, some (bx (encI (ofZ w4)))), (3, some y2), (4, some (bx (encA31 (A9.mk (ofZ w0) (ofZ w1) (ofZ w2) (ofZ w3) (RInt.mk false []) (RInt.mk false []) (RInt.mk false []) (RInt.mk false []) (RInt.mk false []))))), (5, some (bx (encI (ofZ e8))))])) ?_
  refine kx [] [(4, some (bx (encA31 (A9.mk (ofZ w0) (ofZ w1) (ofZ w2) (ofZ w3) (ofZ w4) (RInt.mk false []) (RInt.mk false []) (RInt.mk false []) (RInt.mk false [])))))] (zM <| zE (oMl 3 (hr := by decide)) <| zM <| zE (oAd 4 (hr := by decide)) <| zR (oLa sh30) <| zE (oXr ar32 4) <| zT (oSt sh30) <| zZ) ?_
  refine kx [(155, (vin 2))] [] (zE (oAd 2 (hr := by decide)) <| zM <| zZ) ?_
  refine pwp_again (SimImp.refl _) ?_
  refine pwp_seq <| kx [(156, (vb true))] [] (zE (oBk true oLt) <| zZ) ?_
  refine pwp_seq <| pwp_cond (b := true) (by kernel_rfl) (fun _ => ?_) (fun h => by cases h)
  refine pwp_skip <| pwp_seq <| pwp_block <| pwp_seq <| kx [(23, (vin 2)), (24, (.ref 30 0))] [(30, some (bx (encR (RRat.mk (ofZ n5) (ofZ d5)))))] (zM <| zE (oXs el82 2) <| zE (oCa sh67) <| zN (oAl 30 ze67 zo67) <| zM <| zT (oSt sh67) <| zZ) ?_
  refine pwp_seq <| kd [(25, (.ref 31 0))] [(31, some (bx (encI (ofZ w5)))), (32, none)] mo (wR (oLa sh30) <| wE (oFr fo67_0) <| wR (oLa sh30) <| wE (oCl (l_times (ofZ e8) e8 (iu bn6) (ofZ n5) n5 (iu hn5))) <| wE (oFr fo67_1) <| wR (oLa sh30) <| wE (oCl (by have h := rs_divide (iok_mul (k := 81) bn6 hn5 (by decide)) hd5 (by decide) (by decide) (by omega); rw [hq5] at h; exact h)) <| wM <| wE oEx <| wE oEx <| wE oEx <| wN (oAl 31 ze30 zo30) <| wN (oAl 32 ze30 zo30) <| wT (oSt sh30) <| wT (oSt sh30) <| wM <| wZ) ?_
  refine kx [] [(4, some (bx (encA31 (A9.mk (ofZ w0) (ofZ w1) (ofZ w2) (ofZ w3) (ofZ w4) (ofZ w5) (RInt.mk false []) (RInt.mk false []) (RInt.mk false [])))))] (zM <| zE (oMl 3 (hr := by decide)) <| zM <| zE (oAd 5 (hr := by decide)) <| zR (oLa sh30) <| zE (oXr ar32 5) <| zT (oSt sh30) <| zZ) ?_
  refine kx [(155, (vin 3))] [] (zE (oAd 3 (hr := by decide)) <| zM <| zZ) ?_
  refine pwp_again (SimImp.refl _) ?_
  refine pwp_seq <| kx [(156, (vb false))] [] (zE (oBk false oLt) <| zZ) ?_
  refine pwp_seq <| pwp_cond (b := false) (by kernel_rfl) (fun h => by cases h) (fun _ => ?_)
  refine pwp_exit <| kx [(148, (vin 2))] [] (zE (oAd 2 (hr := by decide)) <| zM <| zZ) ?_
  refine pwp_again (SimImp.refl _) ?_
  refine pwp_seq <| kx [(149, (vb true))] [] (zE (oBk true oLt) <| zZ) ?_
  refine pwp_seq <| pwp_cond (b := true) (by kernel_rfl) (fun _ => ?_) (fun h => by cases h)
  refine pwp_skip <| pwp_seq <| pwp_block <| pwp_seq <| kx [(21, (vin 2)), (22, (vl 67 4 encR y7))] [] (zM <| zE (oXs el76 2) <| zE (oC1 sh82) <| zM <| zM <| zZ) ?_
  refine pwp_seq <| kx [(153, (vl 67 4 encR y7)), (154, (vin 3)), (155, (vin 0))] [] (zM <| zE (oLn el82 3 (hr := rfl)) <| zM <| zZ) ?_
  refine pwp_block <| pwp_rounds 20 ?_
  refine pwp_round <| pwp_seq <| kx [(156, (vb true))] [] (zE (oBk true oLt) <| zZ) ?_
  refine pwp_seq <| pwp_cond (b := true) (by kernel_rfl) (fun _ => ?_) (fun h => by cases h)
  refine pwp_skip <| pwp_seq <| pwp_block <| pwp_seq <| kx [(23, (vin 0)), (24, (.ref 33 0))] [(33, some (bx (encR (RRat.mk (ofZ n6) (ofZ d6)))))] (zM <| zE (oXs el82 0) <| zE (oCa sh67) <| zN (oAl 33 ze67 zo67) <| zM <| zT (oSt sh67) <| zZ) ?_
  refine pwp_seq <| pwp_sim (wk (l := [(10, (.ref 3 0)), (11, (vi 0)), (12, (vin 0)), (15, (.ref 4 0)), (16, (.ref 5 0)), (21, (vin 2)), (23, (vin 0)), (24, (.ref 33 0)), (146, (vl 82 1 enc_sl_82 [y5, y6, y7])), (147, (vin 3)), (148, (vin 2)), (153, (vl 67 4 encR y7)), (154, (vin 3)), (155, (vin 0))]) (b := [(3, some y2), (33, some (bx (encR (RRat.mk (ofZ n6) (ofZ d6))))), (4, some (bx (encA31 (A9.mk (ofZ w0) (ofZ w1) (ofZ w2) (ofZ w3) (ofZ w4) (ofZ w5) (RInt.mk false []) (RInt.mk false []) (RInt.mk false []))))), (5, some (bx (encI (ofZ e8))))])) ?_
  refine kd [(25, (.ref 34 0))] [(34, some (bx (encI (ofZ w6)))), (35, none)] mo (wR (oLa sh30) <| wE (oFr fo67_0) <| wR (oLa sh30) <| wE (oCl (l_times (ofZ e8) e8 (iu bn6) (ofZ n6) n6 (iu hn6))) <| wE (oFr fo67_1) <| wR (oLa sh30) <| wE (oCl (by have h := rs_divide (iok_mul (k := 81) bn6 hn6 (by decide)) hd6 (by decide) (by decide) (by omega); rw [hq6] at h; exact h)) <| wM <| wE oEx <| wE oEx <| wE oEx <| wN (oAl 34 ze30 zo30) <| wN (oAl 35 ze30 zo30) <| wT (oSt sh30) <| wT (oSt sh30) <| wM <| wZ) ?_
  refine kx [] [(4, some (bx (encA31 (A9.mk (ofZ w0) (ofZ w1) (ofZ w2) (ofZ w3) (ofZ w4) (ofZ w5) (ofZ w6) (RInt.mk false []) (RInt.mk false [])))))] (zM <| zE (oMl 6 (hr := by decide)) <| zM <| zE (oAd 6 (hr := by decide)) <| zR (oLa sh30) <| zE (oXr ar32 6) <| zT (oSt sh30) <| zZ) ?_
  refine kx [(155, (vin 1))] [] (zE (oAd 1 (hr := by decide)) <| zM <| zZ) ?_
  refine pwp_again (SimImp.refl _) ?_
  refine pwp_seq <| kx [(156, (vb true))] [] (zE (oBk true oLt) <| zZ) ?_
  refine pwp_seq <| pwp_cond (b := true) (by kernel_rfl) (fun _ => ?_) (fun h => by cases h)
  refine pwp_skip <| pwp_seq <| pwp_block <| pwp_seq <| kx [(23, (vin 1)), (24, (.ref 36 0))] [(36, some (bx (encR (RRat.mk (ofZ n7) (ofZ d7)))))] (zM <| zE (oXs el82 1) <| zE (oCa sh67) <| zN (oAl 36 ze67 zo67) <| zM <| zT (oSt sh67) <| zZ) ?_
  refine pwp_seq <| kd [(25, (.ref 37 0))] [(37, some (bx (encI (ofZ w7)))), (38, none)] mo (wR (oLa sh30) <| wE (oFr fo67_0) <| wR (oLa sh30) <| wE (oCl (l_times (ofZ e8) e8 (iu bn6) (ofZ n7) n7 (iu hn7))) <| wE (oFr fo67_1) <| wR (oLa sh30) <| wE (oCl (by have h := rs_divide (iok_mul (k := 81) bn6 hn7 (by decide)) hd7 (by decide) (by decide) (by omega); rw [hq7] at h; exact h)) <| wM <| wE oEx <| wE oEx <| wE oEx <| wN (oAl 37 ze30 zo30) <| wN (oAl 38 ze30 zo30) <| wT (oSt sh30) <| wT (oSt sh30) <| wM <| wZ) ?_
  refine kx [] [(4, some (bx (encA31 (A9.mk (ofZ w0) (ofZ w1) (ofZ w2) (ofZ w3) (ofZ w4) (ofZ w5) (ofZ w6) (ofZ w7) (RInt.mk false [])))))] (zM <| zE (oMl 6 (hr := by decide)) <| zM <| zE (oAd 7 (hr := by decide)) <| zR (oLa sh30) <| zE (oXr ar32 7) <| zT (oSt sh30) <| zZ) ?_
  refine kx [(155, (vin 2))] [] (zE (oAd 2 (hr := by decide)) <| zM <| zZ) ?_
  refine pwp_again (SimImp.refl _) ?_
  refine pwp_seq <| kx [(156, (vb true))] [] (zE (oBk true oLt) <| zZ) ?_
  refine pwp_seq <| pwp_cond (b := true) (by kernel_rfl) (fun _ => ?_) (fun h => by cases h)
  refine pwp_skip <| pwp_seq <| pwp_block <| pwp_seq <| kx [(23, (vin 2)), (24, (.ref 39 0))] [(39, some (bx (encR (RRat.mk (ofZ n8) (ofZ d8)))))] (zM <| zE (oXs el82 2) <| zE (oCa sh67) <| zN (oAl 39 ze67 zo67) <| zM <| zT (oSt sh67) <| zZ) ?_
  refine pwp_seq <| kd [(25, (.ref 40 0))] [(40, some (bx (encI (ofZ w8)))), (41, none)] mo (wR (oLa sh30) <| wE (oFr fo67_0) <| wR (oLa sh30) <| wE (oCl (l_times (ofZ e8) e8 (iu bn6) (ofZ n8) n8 (iu hn8))) <| wE (oFr fo67_1) <| wR (oLa sh30) <| wE (oCl (by have h := rs_divide (iok_mul (k := 81) bn6 hn8 (by decide)) hd8 (by decide) (by decide) (by omega); rw [hq8] at h; exact h)) <| wM <| wE oEx <| wE oEx <| wE oEx <| wN (oAl 40 ze30 zo30) <| wN (oAl 41 ze30 zo30) <| wT (oSt sh30) <| wT (oSt sh30) <| wM <| wZ) ?_
  refine kx [] [(4, some (bx (encA31 y4)))] (zM <| zE (oMl 6 (hr := by decide)) <| zM <| zE (oAd 8 (hr := by decide)) <| zR (oLa sh30) <| zE (oXr ar32 8) <| zT (oSt sh30) <| zZ) ?_
  refine kx [(155, (vin 3))] [] (zE (oAd 3 (hr := by decide)) <| zM <| zZ) ?_
  refine pwp_again (SimImp.refl _) ?_
  refine pwp_seq <| kx [(156, (vb false))] [] (zE (oBk false oLt) <| zZ) ?_
  refine pwp_seq <| pwp_cond (b := false) (by kernel_rfl) (fun h => by cases h) (fun _ => ?_)
  refine pwp_exit <| pwp_sim (wk (l := [(10, (.ref 3 0)), (11, (vi 0)), (12, (vin 0)), (15, (.ref 4 0)), (16, (.ref 5 0)), (21, (vin 2)), (146, (vl 82 1 enc_sl_82 [y5, y6, y7])), (147, (vin 3)), (148, (vin 2)), (153, (vl 67 4 encR y7)), (154, (vin 3)), (155, (vin 3)), (156, (vb false))]) (b := [(3, some y2), (4, some (bx (encA31 y4))), (5, some (bx (encI (ofZ e8))))])) ?_
  refine kx [(148, (vin 3))] [] (zE (oAd 3 (hr := by decide)) <| zM <| zZ) ?_
  refine pwp_again (SimImp.refl _) ?_
  refine pwp_seq <| kx [(149, (vb false))] [] (zE (oBk false oLt) <| zZ) ?_
  refine pwp_seq <| pwp_cond (b := false) (by kernel_rfl) (fun h => by cases h) (fun _ => ?_)
  refine pwp_exit <| pwp_seq <| kx [(28, (.ref 42 0)), (29, (vb true))] [(42, some y2)] (zR (oLa sh32) <| zE (oCl (l_reduce y4 w0 w1 w2 w3 w4 w5 w6 w7 w8 (iu bn7) (iu bn8) (iu bn9) (iu bn10) (iu bn11) (iu bn12) (iu bn13) (iu bn14) (iu bn15) c0 c1 c2 c3 c4 c5 c6 c7 c8 hc hnz hd)) <| zM <| zE oEx <| zE oEx <| zN (oAl 42 ze32 zo32) <| zT (oSt sh32) <| zM <| zZ) ?_
  refine pwp_seq <| kx [] [(4, some y2)] (zR (oLa sh32) <| zT (oSt sh32) <| zZ) ?_
  refine pwp_seq <| kx [(186, (vb false))] [] (zM <| zE oNt <| zZ) ?_
  refine pwp_cond (b := false) (by kernel_rfl) (fun h => by cases h) (fun _ => ?_)
  refine pwp_skip <| pwp_seq <| pwp_seq <| kx [(188, (vb false))] [] (zM <| zE oNe <| zZ) ?_
  refine pwp_cond (b := false) (by kernel_rfl) (fun h => by cases h) (fun _ => ?_)
  refine pwp_skip <| pwp_seq <| kx [(6, (vb true))] [] (zM <| zE oEq <| zM <| zR (oLa sh32) <| zR (oLa sh32) <| zE (oCl (l_sameT9 y3 c0 c1 c2 c3 c4 c5 c6 c7 c8 (iok_up (bn16 c0 (by simp)) (by decide)) (iok_up (bn16 c1 (by simp)) (by decide)) (iok_up (bn16 c2 (by simp)) (by decide)) (iok_up (bn16 c3 (by simp)) (by decide)) (iok_up (bn16 c4 (by simp)) (by decide)) (iok_up (bn16 c5 (by simp)) (by decide)) (iok_up (bn16 c6 (by simp)) (by decide)) (iok_up (bn16 c7 (by simp)) (by decide)) (iok_up (bn16 c8 (by simp)) (by decide)) y3 c0 c1 c2 c3 c4 c5 c6 c7 c8 (iok_up (bn16 c0 (by simp)) (by decide)) (iok_up (bn16 c1 (by simp)) (by decide)) (iok_up (bn16 c2 (by simp)) (by decide)) (iok_up (bn16 c3 (by simp)) (by decide)) (iok_up (bn16 c4 (by simp)) (by decide)) (iok_up (bn16 c5 (by simp)) (by decide)) (iok_up (bn16 c6 (by simp)) (by decide)) (iok_up (bn16 c7 (by simp)) (by decide)) (iok_up (bn16 c8 (by simp)) (by decide)) (validI_ofZ _) (validI_ofZ _) (validI_ofZ _) (validI_ofZ _) (validI_ofZ _) (validI_ofZ _) (validI_ofZ _) (validI_ofZ _) (validI_ofZ _) (sameI_self _) (sameI_self _) (sameI_self _) (sameI_self _) (sameI_self _) (sameI_self _) (sameI_self _) (sameI_self _) (sameI_self _))) <| zE oPt <| zM <| zZ) ?_
  refine pwp_ret ⟨_, (.tmp (d := (.val (.bool (true)))) rfl .nil), ?_⟩
  rfl
set_option maxHeartbeats 4000000 in
theorem w_frmS (h : A9 RInt) (h0 h1 h2 h3 h4 h5 h6 h7 h8 : Int) (hh0 : IOk h.a0 h0 4) (hh1 : IOk h.a1 h1 4) (hh2 : IOk h.a2 h2 4) (hh3 : IOk h.a3 h3 4) (hh4 : IOk h.a4 h4 4) (hh5 : IOk h.a5 h5 4) (hh6 : IOk h.a6 h6 4) (hh7 : IOk h.a7 h7 4) (hh8 : IOk h.a8 h8 4) (p : A3 RInt) (p0 p1 p2 : Int) (hp0 : IOk p.a0 p0 4) (hp1 : IOk p.a1 p1 4) (hp2 : IOk p.a2 p2 4) (n0 d0 n1 d1 n2 d2 n3 d3 n4 d4 n5 d5 n6 d6 n7 d7 n8 d8 : Int) (hn0 : IOk (ofZ n0) n0 8) (hd0 : IOk (ofZ d0) d0 8) (hn1 : IOk (ofZ n1) n1 8) (hd1 : IOk (ofZ d1) d1 8) (hn2 : IOk (ofZ n2) n2 8) (hd2 : IOk (ofZ d2) d2 8) (hn3 : IOk (ofZ n3) n3 8) (hd3 : IOk (ofZ d3) d3 8) (hn4 : IOk (ofZ n4) n4 8) (hd4 : IOk (ofZ d4) d4 8) (hn5 : IOk (ofZ n5) n5 8) (hd5 : IOk (ofZ d5) d5 8) (hn6 : IOk (ofZ n6) n6 8) (hd6 : IOk (ofZ d6) d6 8) (hn7 : IOk (ofZ n7) n7 8) (hd7 : IOk (ofZ d7) d7 8) (hn8 : IOk (ofZ n8) n8 8) (hd8 : IOk (ofZ d8) d8 8) (hm : MatOk 8 [[(RRat.mk (ofZ n0) (ofZ d0)), (RRat.mk (ofZ n1) (ofZ d1)), (RRat.mk (ofZ n2) (ofZ d2))], [(RRat.mk (ofZ n3) (ofZ d3)), (RRat.mk (ofZ n4) (ofZ d4)), (RRat.mk (ofZ n5) (ofZ d5))], [(RRat.mk (ofZ n6) (ofZ d6)), (RRat.mk (ofZ n7) (ofZ d7)), (RRat.mk (ofZ n8) (ofZ d8))]]) (e0 : Int) (he0 : (1 * d0) = e0) (e1 : Int) (he1 : (e0 * d1) = e1) (e2 : Int) (he2 : (e1 * d2) = e2) (e3 : Int) (he3 : (e2 * d3) = e3) (e4 : Int) (he4 : (e3 * d4) = e4) (e5 : Int) (he5 : (e4 * d5) = e5) (e6 : Int) (he6 : (e5 * d6) = e6) (e7 : Int) (he7 : (e6 * d7) = e7) (e8 : Int) (he8 : (e7 * d8) = e8) (w0 : Int) (hw0 : ((e8.fdiv d0) * n0) = w0) (w1 : Int) (hw1 : ((e8.fdiv d1) * n1) = w1) (w2 : Int) (hw2 : ((e8.fdiv d2) * n2) = w2) (w3 : Int) (hw3 : ((e8.fdiv d3) * n3) = w3) (w4 : Int) (hw4 : ((e8.fdiv d4) * n4) = w4) (w5 : Int) (hw5 : ((e8.fdiv d5) * n5) = w5) (w6 : Int) (hw6 : ((e8.fdiv d6) * n6) = w6) (w7 : Int) (hw7 : ((e8.fdiv d7) * n7) = w7) (w8 : Int) (hw8 : ((e8.fdiv d8) * n8) = w8) (hb0 : List.all [h.a0, h.a1, h.a2, h.a3, h.a4, h.a5, h.a6, h.a7, h.a8] short4 = true) (hb1 : List.all [p.a0, p.a1, p.a2] short4 = true) (hs : shortMat [[(RRat.mk (ofZ n0) (ofZ d0)), (RRat.mk (ofZ n1) (ofZ d1)), (RRat.mk (ofZ n2) (ofZ d2))], [(RRat.mk (ofZ n3) (ofZ d3)), (RRat.mk (ofZ n4) (ofZ d4)), (RRat.mk (ofZ n5) (ofZ d5))], [(RRat.mk (ofZ n6) (ofZ d6)), (RRat.mk (ofZ n7) (ofZ d7)), (RRat.mk (ofZ n8) (ofZ d8))]] = true) (hv0 : validR (RRat.mk (ofZ n0) (ofZ d0)) = true) (hv1 : validR (RRat.mk (ofZ n1) (ofZ d1)) = true) (hv2 : validR (RRat.mk (ofZ n2) (ofZ d2)) = true) (hv3 : validR (RRat.mk (ofZ n3) (ofZ d3)) = true) (hv4 : validR (RRat.mk (ofZ n4) (ofZ d4)) = true) (hv5 : validR (RRat.mk (ofZ n5) (ofZ d5)) = true) (hv6 : validR (RRat.mk (ofZ n6) (ofZ d6)) = true) (hv7 : validR (RRat.mk (ofZ n7) (ofZ d7)) = true) (hv8 : validR (RRat.mk (ofZ n8) (ofZ d8)) = true) (hz0 : d0 ≠ 0) (hz1 : d1 ≠ 0) (hz2 : d2 ≠ 0) (hz3 : d3 ≠ 0) (hz4 : d4 ≠ 0) (hz5 : d5 ≠ 0) (hz6 : d6 ≠ 0) (hz7 : d7 ≠ 0) (hz8 : d8 ≠ 0) (hr0 : vRow [(RRat.mk (ofZ n0) (ofZ d0)), (RRat.mk (ofZ n1) (ofZ d1)), (RRat.mk (ofZ n2) (ofZ d2))] = true) (hr1 : vRow [(RRat.mk (ofZ n3) (ofZ d3)), (RRat.mk (ofZ n4) (ofZ d4)), (RRat.mk (ofZ n5) (ofZ d5))] = true) (hr2 : vRow [(RRat.mk (ofZ n6) (ofZ d6)), (RRat.mk (ofZ n7) (ofZ d7)), (RRat.mk (ofZ n8) (ofZ d8))] = true) (hq0 : (e8 * n0).fdiv d0 = w0) (hq1 : (e8 * n1).fdiv d1 = w1) (hq2 : (e8 * n2).fdiv d2 = w2) (hq3 : (e8 * n3).fdiv d3 = w3) (hq4 : (e8 * n4).fdiv d4 = w4) (hq5 : (e8 * n5).fdiv d5 = w5) (hq6 : (e8 * n6).fdiv d6 = w6) (hq7 : (e8 * n7).fdiv d7 = w7) (hq8 : (e8 * n8).fdiv d8 = w8) (hnz : sgnL [w0, w1, w2, w3, w4, w5, w6, w7, w8] ≠ 0) (hd : signI (det3 w0 w1 w2 w3 w4 w5 w6 w7 w8) = 0) : Takes Tryz.prog 8 [(encA31 h), (encA43 p), (.sl 82 1 (List.map enc_sl_82 [[(RRat.mk (ofZ n0) (ofZ d0)), (RRat.mk (ofZ n1) (ofZ d1)), (RRat.mk (ofZ n2) (ofZ d2))], [(RRat.mk (ofZ n3) (ofZ d3)), (RRat.mk (ofZ n4) (ofZ d4)), (RRat.mk (ofZ n5) (ofZ d5))], [(RRat.mk (ofZ n6) (ofZ d6)), (RRat.mk (ofZ n7) (ofZ d7)), (RRat.mk (ofZ n8) (ofZ d8))]]))] (.val (.bool (true))) := by
  let y6 := [(RRat.mk (ofZ n6) (ofZ d6)), (RRat.mk (ofZ n7) (ofZ d7)), (RRat.mk (ofZ n8) (ofZ d8))]
  let y5 := [(RRat.mk (ofZ n3) (ofZ d3)), (RRat.mk (ofZ n4) (ofZ d4)), (RRat.mk (ofZ n5) (ofZ d5))]
  let y4 := [(RRat.mk (ofZ n0) (ofZ d0)), (RRat.mk (ofZ n1) (ofZ d1)), (RRat.mk (ofZ n2) (ofZ d2))]
  let y3 := (A9.mk (ofZ w0) (ofZ w1) (ofZ w2) (ofZ w3) (ofZ w4) (ofZ w5) (ofZ w6) (ofZ w7) (ofZ w8))
  let y2 := [(RInt.mk false []), (RInt.mk false []), (RInt.mk false []), (RInt.mk false []), (RInt.mk false []), (RInt.mk false []), (RInt.mk false []), (RInt.mk false []), (RInt.mk false [])]
  let y1 := (bx (encA31 (A9.mk (RInt.mk false []) (RInt.mk false []) (RInt.mk false []) (RInt.mk false []) (RInt.mk false []) (RInt.mk false []) (RInt.mk false []) (RInt.mk false []) (RInt.mk false []))))
  refine fn_intro Tryz.func8 rfl cb8 rfl ?_
  show PWp _ _ _ _ ⟨[(0, (.d (encA31 h))), (1, (.d (encA43 p))), (2, (vl 82 1 enc_sl_82 [y4, y5, y6]))], []⟩
  refine pwp_seq <| kx [(3, (.ref 0 0)), (4, (.ref 1 0))] [(0, some (bx (encA31 h))), (1, some (bx (encA43 p)))] (zN (oBx 0) <| zN (oBx 1) <| zM <| zZ) ?_
  refine pwp_seq <| pwp_seq <| kx [(31, (vb false))] [] (zE (oCl l_known27) <| zE oNt <| zZ) ?_
  refine pwp_cond (b := false) (by kernel_rfl) (fun h => by cases h) (fun _ => ?_)
  refine pwp_skip <| pwp_seq <| pwp_seq <| kd [(42, (vb false))] [] mo (wR (oLa sh32) <| wE (oCl (l_map1 h h0 h1 h2 h3 h4 h5 h6 h7 h8 (iu hh0) (iu hh1) (iu hh2) (iu hh3) (iu hh4) (iu hh5) (iu hh6) (iu hh7) (iu hh8))) <| wR (oLa sh44) <| wE (oBs el65 ze44 zo44) <| wE (oCl (l_briefT11 h h0 h1 h2 h3 h4 h5 h6 h7 h8 (iu hh0) (iu hh1) (iu hh2) (iu hh3) (iu hh4) (iu hh5) (iu hh6) (iu hh7) (iu hh8) p p0 p1 p2 (iu hp0) (iu hp1) (iu hp2) hb0 hb1)) <| wE oNt <| wM <| wM <| wE (oBk true (oCl (g_shortM8 [y4, y5, y6] (mat_up hm (by decide)))) (by exact hs)) <| wE oNt <| wE oPf <| wZ) ?_
  refine pwp_cond (b := false) (by kernel_rfl) (fun h => by cases h) (fun _ => ?_)
  refine pwp_skip <| pwp_seq <| kx [(7, (vb (valH [h.a0, h.a1, h.a2, h.a3, h.a4, h.a5, h.a6, h.a7, h.a8] (det3 h0 h1 h2 h3 h4 h5 h6 h7 h8))))] [] (zR (oLa sh32) <| zE (oCl (l_valid h h0 h1 h2 h3 h4 h5 h6 h7 h8 (iu hh0) (iu hh1) (iu hh2) (iu hh3) (iu hh4) (iu hh5) (iu hh6) (iu hh7) (iu hh8))) <| zM <| zZ) ?_
  refine pwp_seq <| pwp_seq <| kd [(71, (vb false))] [] mo ?_ ?_
  · refine wR (oLa sh32) <| wE (oCl (d_valid h h0 h1 h2 h3 h4 h5 h6 h7 h8 (iu hh0) (iu hh1) (iu hh2) (iu hh3) (iu hh4) (iu hh5) (iu hh6) (iu hh7) (iu hh8))) <| wM <| wE (oBk false (oNb bo4) (by exact congrArg (!·) (beq_self_eq_true _))) <| wM <| wR (oLa sh44) <| wE (oCl (d_proper p p0 p1 p2 (iu hp0) (iu hp1) (iu hp2))) <| wR (oLa sh44) <| wE (oCl (l_proper p p0 p1 p2 (iu hp0) (iu hp1) (iu hp2))) <| wE (oBk false (oNb bo4) (by exact congrArg (!·) (beq_self_eq_true _))) <| wE oPf <| wM <| wR (oLa sh32) <| wE (oCl (d_affine h h0 h1 h2 h3 h4 h5 h6 h7 h8 (iu hh0) (iu hh1) (iu hh2) (iu hh3) (iu hh4) (iu hh5) (iu hh6) (iu hh7) (iu hh8))) <| wM <| wE (oV (vb (valH [h.a0, h.a1, h.a2, h.a3, h.a4, h.a5, h.a6, h.a7, h.a8] (det3 h0 h1 h2 h3 h4 h5 h6 h7 h8))) (mv_ok (by kernel_rfl))) <| ?_
    rcases hb1 : (valH [h.a0, h.a1, h.a2, h.a3, h.a4, h.a5, h.a6, h.a7, h.a8] (det3 h0 h1 h2 h3 h4 h5 h6 h7 h8)) with _ | _
    · exact wK <| wK <| wK <| wE oPf <| wM <| wK <| wK <| wK <| wE oPf <| wE (oBk false (oNb bo4) (by simp)) <| wE oPf <| wZ
    · refine wE (oXr ar32 6) <| wR (oLa sh30) <| wE (oCl (l_zero h.a6 h6 (iu hh6))) <| wE oPa <| wE (oV (vb (true && (signI h6 == 0))) (mv_ok (by kernel_rfl))) <| ?_
      rcases hb2 : (true && (signI h6 == 0)) with _ | _
      · exact wK <| wK <| wK <| wE oPf <| wE (oBk false (oNb bo4) (by simp)) <| wE oPf <| wZ
      · exact wE (oXr ar32 7) <| wR (oLa sh30) <| wE (oCl (l_zero h.a7 h7 (iu hh7))) <| wE oPa <| wE (oBk false (oNb bo4) (by simp)) <| wE oPf <| wZ
  refine pwp_cond (b := false) (by kernel_rfl) (fun h => by cases h) (fun _ => ?_)
  refine pwp_skip <| pwp_seq ?_
  have bn1 : ∀ c ∈ [1, 0, 0, 0, 1, 0, 0, 0, 1], IOk (ofZ c) c 1 := red_iok (n := 1) (.cons (iok_small (z := 1) (by decide)) (.cons (iok_small (z := 0) (by decide)) (.cons (iok_small (z := 0) (by decide)) (.cons (iok_small (z := 0) (by decide)) (.cons (iok_small (z := 1) (by decide)) (.cons (iok_small (z := 0) (by decide)) (.cons (iok_small (z := 0) (by decide)) (.cons (iok_small (z := 0) (by decide)) (.cons (iok_small (z := 1) (by decide)) .nil))))))))) (by decide +kernel)
  refine kx [(8, (.ref 2 0))] [(2, some (bx (encA31 (A9.mk (ofZ 1) (ofZ 0) (ofZ 0) (ofZ 0) (ofZ 1) (ofZ 0) (ofZ 0) (ofZ 0) (ofZ 1)))))] (zE (oBf ar80 ze80 zo80) <| zE (oCl (l_made ((1 : Nat) : Int) ((0 : Nat) : Int) ((0 : Nat) : Int) ((0 : Nat) : Int) ((1 : Nat) : Int) ((0 : Nat) : Int) ((0 : Nat) : Int) ((0 : Nat) : Int) ((1 : Nat) : Int) (by omega) (by omega) (by omega) (by omega) (by omega) (by omega) (by omega) (by omega) (by omega) 1 0 0 0 1 0 0 0 1 (by decide +kernel) (by decide +kernel) (by decide +kernel))) <| zM <| zE oEx <| zE oEx <| zN (oAl 2 ze32 zo32) <| zT (oSt sh32) <| zM <| zZ) ?_
  refine pwp_seq <| pwp_seq <| kd [(80, (vb false))] [] mo (wE (oCl d_ident) <| wR (oLa sh32) <| wE (oCl (l_sameT9 (A9.mk (ofZ 1) (ofZ 0) (ofZ 0) (ofZ 0) (ofZ 1) (ofZ 0) (ofZ 0) (ofZ 0) (ofZ 1)) 1 0 0 0 1 0 0 0 1 (iok_up (iok_small (z := 1) (by decide)) (by decide)) (iok_up (iok_small (z := 0) (by decide)) (by decide)) (iok_up (iok_small (z := 0) (by decide)) (by decide)) (iok_up (iok_small (z := 0) (by decide)) (by decide)) (iok_up (iok_small (z := 1) (by decide)) (by decide)) (iok_up (iok_small (z := 0) (by decide)) (by decide)) (iok_up (iok_small (z := 0) (by decide)) (by decide)) (iok_up (iok_small (z := 0) (by decide)) (by decide)) (iok_up (iok_small (z := 1) (by decide)) (by decide)) (A9.mk (ofZ 1) (ofZ 0) (ofZ 0) (ofZ 0) (ofZ 1) (ofZ 0) (ofZ 0) (ofZ 0) (ofZ 1)) 1 0 0 0 1 0 0 0 1 (iok_up (bn1 1 (by simp)) (by decide)) (iok_up (bn1 0 (by simp)) (by decide)) (iok_up (bn1 0 (by simp)) (by decide)) (iok_up (bn1 0 (by simp)) (by decide)) (iok_up (bn1 1 (by simp)) (by decide)) (iok_up (bn1 0 (by simp)) (by decide)) (iok_up (bn1 0 (by simp)) (by decide)) (iok_up (bn1 0 (by simp)) (by decide)) (iok_up (bn1 1 (by simp)) (by decide)) (validI_ofZ _) (validI_ofZ _) (validI_ofZ _) (validI_ofZ _) (validI_ofZ _) (validI_ofZ _) (validI_ofZ _) (validI_ofZ _) (validI_ofZ _) (sameI_self _) (sameI_self _) (sameI_self _) (sameI_self _) (sameI_self _) (sameI_self _) (sameI_self _) (sameI_self _) (sameI_self _))) <| wE oNt <| wZ) ?_
  refine pwp_cond (b := false) (by kernel_rfl) (fun h => by cases h) (fun _ => ?_)
  refine pwp_skip <| pwp_seq ?_
  have bn2 : IOk (ofZ e0) e0 9 := (iok_eqz he0.symm (iok_mul (k := 9) (iok_small (z := 1) (by decide)) hd0 (by decide)))
  have bn3 : IOk (ofZ e2) e2 25 := (iok_eqz he2.symm (iok_mul (k := 25) (iok_eqz he1.symm (iok_mul (k := 17) bn2 hd1 (by decide))) hd2 (by decide)))
  have bn4 : IOk (ofZ e4) e4 41 := (iok_eqz he4.symm (iok_mul (k := 41) (iok_eqz he3.symm (iok_mul (k := 33) bn3 hd3 (by decide))) hd4 (by decide)))
  have bn5 : IOk (ofZ e6) e6 57 := (iok_eqz he6.symm (iok_mul (k := 57) (iok_eqz he5.symm (iok_mul (k := 49) bn4 hd5 (by decide))) hd6 (by decide)))
  have bn6 : IOk (ofZ e8) e8 73 := (iok_eqz he8.symm (iok_mul (k := 73) (iok_eqz he7.symm (iok_mul (k := 65) bn5 hd7 (by decide))) hd8 (by decide)))
  have bn7 : IOk (ofZ w0) w0 82 := (iok_eqz hw0.symm (iok_mul (k := 82) (iok_fdiv (k := 74) bn6 hd0 (by decide)) hn0 (by decide)))
  have bn8 : IOk (ofZ w1) w1 82 := (iok_eqz hw1.symm (iok_mul (k := 82) (iok_fdiv (k := 74) bn6 hd1 (by decide)) hn1 (by decide)))
  have bn9 : IOk (ofZ w2) w2 82 := (iok_eqz hw2.symm (iok_mul (k := 82) (iok_fdiv (k := 74) bn6 hd2 (by decide)) hn2 (by decide)))
  have bn10 : IOk (ofZ w3) w3 82 := (iok_eqz hw3.symm (iok_mul (k := 82) (iok_fdiv (k := 74) bn6 hd3 (by decide)) hn3 (by decide)))
  have bn11 : IOk (ofZ w4) w4 82 := (iok_eqz hw4.symm (iok_mul (k := 82) (iok_fdiv (k := 74) bn6 hd4 (by decide)) hn4 (by decide)))
  have bn12 : IOk (ofZ w5) w5 82 := (iok_eqz hw5.symm (iok_mul (k := 82) (iok_fdiv (k := 74) bn6 hd5 (by decide)) hn5 (by decide)))
  have bn13 : IOk (ofZ w6) w6 82 := (iok_eqz hw6.symm (iok_mul (k := 82) (iok_fdiv (k := 74) bn6 hd6 (by decide)) hn6 (by decide)))
  have bn14 : IOk (ofZ w7) w7 82 := (iok_eqz hw7.symm (iok_mul (k := 82) (iok_fdiv (k := 74) bn6 hd7 (by decide)) hn7 (by decide)))
  have bn15 : IOk (ofZ w8) w8 82 := (iok_eqz hw8.symm (iok_mul (k := 82) (iok_fdiv (k := 74) bn6 hd8 (by decide)) hn8 (by decide)))
  refine kx [(10, (.ref 3 0)), (11, (vi 14))] [(3, some y1)] (zM <| zE (oCl (d_ofS n0 d0 n1 d1 n2 d2 n3 d3 n4 d4 n5 d5 n6 d6 n7 d7 n8 d8 hn0 hd0 hn1 hd1 hn2 hd2 hn3 hd3 hn4 hd4 hn5 hd5 hn6 hd6 hn7 hd7 hn8 hd8 hm e0 he0 e1 he1 e2 he2 e3 he3 e4 he4 e5 he5 e6 he6 e7 he7 e8 he8 w0 hw0 w1 hw1 w2 hw2 w3 hw3 w4 hw4 w5 hw5 w6 hw6 w7 hw7 w8 hw8 hv0 hv1 hv2 hv3 hv4 hv5 hv6 hv7 hv8 hz0 hz1 hz2 hz3 hz4 hz5 hz6 hz7 hz8 hd)) <| zM <| zE oEx <| zE oEx <| zN (oAl 3 ze32 zo32) <| zT (oSt sh32) <| zM <| zZ) ?_
  refine pwp_seq <| kx [(12, (vin 0))] [] (zM <| zZ) ?_
  refine pwp_seq <| pwp_seq <| kx [(86, (vl 82 1 enc_sl_82 [y4, y5, y6])), (87, (vin 3)), (88, (vin 0))] [] (zM <| zE (oLn el76 3 (hr := rfl)) <| zM <| zZ) ?_
  refine pwp_block <| pwp_rounds 20 ?_
  refine pwp_round <| pwp_seq <| kx [(89, (vb true))] [] (zE (oBk true oLt) <| zZ) ?_
  refine pwp_seq <| pwp_cond (b := true) (by kernel_rfl) (fun _ => ?_) (fun h => by cases h)
  refine pwp_skip <| pwp_seq <| pwp_block <| pwp_seq <| kx [(14, (vl 67 4 encR y4))] [] (zE (oXs el76 0) <| zE (oC1 sh82) <| zM <| zZ) ?_
  refine pwp_seq <| kx [(94, (vb false))] [] (zM <| zE (oBk true (oCl (g_validL y4 (hm.1 _ (.head _)))) (by exact hr0)) <| zE oNt <| zZ) ?_
  refine pwp_cond (b := false) (by kernel_rfl) (fun h => by cases h) (fun _ => ?_)
  refine pwp_skip <| kx [(88, (vin 1))] [] (zE (oAd 1 (hr := by decide)) <| zM <| zZ) ?_
  refine pwp_again (SimImp.refl _) ?_
  refine pwp_seq <| pwp_sim (wk (l := [(2, (vl 82 1 enc_sl_82 [y4, y5, y6])), (10, (.ref 3 0)), (11, (vi 14)), (12, (vin 0)), (86, (vl 82 1 enc_sl_82 [y4, y5, y6])), (87, (vin 3)), (88, (vin 1))]) (b := [(3, some y1)])) ?_
  refine kx [(89, (vb true))] [] (zE (oBk true oLt) <| zZ) ?_
  refine pwp_seq <| pwp_cond (b := true) (by kernel_rfl) (fun _ => ?_) (fun h => by cases h)
  refine pwp_skip <| pwp_seq <| pwp_block <| pwp_seq <| kx [(14, (vl 67 4 encR y5))] [] (zE (oXs el76 1) <| zE (oC1 sh82) <| zM <| zZ) ?_
  refine pwp_seq <| kx [(94, (vb false))] [] (zM <| zE (oBk true (oCl (g_validL y5 (hm.1 _ (.tail _ (.head _))))) (by exact hr1)) <| zE oNt <| zZ) ?_
  refine pwp_cond (b := false) (by kernel_rfl) (fun h => by cases h) (fun _ => ?_)
  refine pwp_skip <| kx [(88, (vin 2))] [] (zE (oAd 2 (hr := by decide)) <| zM <| zZ) ?_
  refine pwp_again (SimImp.refl _) ?_
  refine pwp_seq <| kx [(89, (vb true))] [] (zE (oBk true oLt) <| zZ) ?_
  refine pwp_seq <| pwp_cond (b := true) (by kernel_rfl) (fun _ => ?_) (fun h => by cases h)
  refine pwp_skip <| pwp_seq <| pwp_block <| pwp_seq <| kx [(14, (vl 67 4 encR y6))] [] (zE (oXs el76 2) <| zE (oC1 sh82) <| zM <| zZ) ?_
  refine pwp_seq <| kx [(94, (vb false))] [] (zM <| zE (oBk true (oCl (g_validL y6 (hm.1 _ (.tail _ (.tail _ (.head _)))))) (by exact hr2)) <| zE oNt <| zZ) ?_
  refine pwp_cond (b := false) (by kernel_rfl) (fun h => by cases h) (fun _ => ?_)
  refine pwp_skip <| kx [(88, (vin 3))] [] (zE (oAd 3 (hr := by decide)) <| zM <| zZ) ?_
  refine pwp_again (SimImp.refl _) ?_
  refine pwp_seq <| kx [(89, (vb false))] [] (zE (oBk false oLt) <| zZ) ?_
  refine pwp_seq <| pwp_cond (b := false) (by kernel_rfl) (fun h => by cases h) (fun _ => ?_)
  refine pwp_exit <| pwp_seq <| pwp_seq <| kx [(123, (vb false))] [] (zM <| zE oEq <| zM <| zM <| zE (oLn el76 3 (hr := rfl)) <| zE oNe <| zM <| zM <| zE (oXs el76 0) <| zE (oC1 sh82) <| zE (oLn el82 3 (hr := rfl)) <| zE oNe <| zE oPf <| zM <| zM <| zE (oXs el76 1) <| zE (oC1 sh82) <| zE (oLn el82 3 (hr := rfl)) <| zE oNe <| zE oPf <| zM <| zM <| zE (oXs el76 2) <| zE (oC1 sh82) <| zE (oLn el82 3 (hr := rfl)) <| zE oNe <| zE oPf <| zE oPt <| zZ) ?_
  refine pwp_cond (b := false) (by kernel_rfl) (fun h => by cases h) (fun _ => ?_)
  refine pwp_skip <| pwp_seq <| kx [(15, (.ref 4 0))] [(4, some y1)] (zE (oBa ar32 ze32 zo32) <| zN (oAl 4 ze32 zo32) <| zT (oSt sh32) <| zZ) ?_
  refine pwp_seq <| pwp_seq <| kx [(126, (vb true))] [] (zM <| zE oEq <| zZ) ?_
  refine pwp_cond (b := true) (by kernel_rfl) (fun _ => ?_) (fun h => by cases h)
  refine pwp_seq <| kx [(16, (.ref 5 0))] [(5, some (bx (encI (ofZ 1))))] (zE (oCl (l_wholeI 1 (by decide) (by decide))) <| zN (oAl 5 ze30 zo30) <| zT (oSt sh30) <| zZ) ?_
  refine pwp_seq <| pwp_seq <| kx [(128, (vl 82 1 enc_sl_82 [y4, y5, y6])), (129, (vin 3)), (130, (vin 0))] [] (zM <| zE (oLn el76 3 (hr := rfl)) <| zM <| zZ) ?_
  refine pwp_block <| pwp_rounds 20 ?_
  refine pwp_round <| pwp_seq <| pwp_sim (wk (l := [(2, (vl 82 1 enc_sl_82 [y4, y5, y6])), (10, (.ref 3 0)), (11, (vi 14)), (12, (vin 0)), (15, (.ref 4 0)), (16, (.ref 5 0)), (128, (vl 82 1 enc_sl_82 [y4, y5, y6])), (129, (vin 3)), (130, (vin 0))]) (b := [(3, some y1), (4, some y1), (5, some (bx (encI (ofZ 1))))])) ?_
  refine kx [(131, (vb true))] [] (zE (oBk true oLt) <| zZ) ?_
  refine pwp_seq <| pwp_cond (b := true) (by kernel_rfl) (fun _ => ?_) (fun h => by cases h)
  refine pwp_skip <| pwp_seq <| pwp_block <| pwp_seq <| kx [(18, (vl 67 4 encR y4))] [] (zE (oXs el76 0) <| zE (oC1 sh82) <| zM <| zZ) ?_
  refine pwp_seq <| kx [(134, (vl 67 4 encR y4)), (135, (vin 3)), (136, (vin 0))] [] (zM <| zE (oLn el82 3 (hr := rfl)) <| zM <| zZ) ?_
  refine pwp_block <| pwp_rounds 20 ?_
  refine pwp_round <| pwp_seq <| kx [(137, (vb true))] [] (zE (oBk true oLt) <| zZ) ?_
  refine pwp_seq <| pwp_cond (b := true) (by kernel_rfl) (fun _ => ?_) (fun h => by cases h)
  refine pwp_skip <| pwp_seq <| pwp_block <| pwp_seq <| kx [(20, (.ref 6 0))] [(6, some (bx (encR (RRat.mk (ofZ n0) (ofZ d0)))))] (zE (oXs el82 0) <| zE (oCa sh67) <| zN (oAl 6 ze67 zo67) <| zT (oSt sh67) <| zZ) ?_
  refine kx [] [(5, some (bx (encI (ofZ e0))))] (zR (oLa sh30) <| zE (oFr fo67_1) <| zR (oLa sh30) <| zE (oCl (by have h := l_times (ofZ 1) 1 (iok_up (iok_small (z := 1) (by decide)) (by decide)) (ofZ d0) d0 (iu hd0); rw [he0] at h; exact h)) <| zT (oSt sh30) <| zZ) ?_
  refine kx [(136, (vin 1))] [] (zE (oAd 1 (hr := by decide)) <| zM <| zZ) ?_
  refine pwp_again (SimImp.refl _) ?_
  refine pwp_seq <| kx [(137, (vb true))] [] (zE (oBk true oLt) <| zZ) ?_
  refine pwp_seq <| pwp_cond (b := true) (by kernel_rfl) (fun _ => ?_) (fun h => by cases h)
  refine pwp_skip <| pwp_seq <| pwp_block <| pwp_seq <| kx [(20, (.ref 7 0))] [(7, some (bx (encR (RRat.mk (ofZ n1) (ofZ d1)))))] (zE (oXs el82 1) <| zE (oCa sh67) <| zN (oAl 7 ze67 zo67) <| zT (oSt sh67) <| zZ) ?_
  have bn16 : IOk (ofZ e1) e1 17 := (iok_eqz he1.symm (iok_mul (k := 17) bn2 hd1 (by decide)))
  refine kx [] [(5, some (bx (encI (ofZ e1))))] (zR (oLa sh30) <| zE (oFr fo67_1) <| zR (oLa sh30) <| zE (oCl (by have h := l_times (ofZ e0) e0 (iu bn2) (ofZ d1) d1 (iu hd1); rw [he1] at h; exact h)) <| zT (oSt sh30) <| zZ) ?_
  refine kx [(136, (vin 2))] [] (zE (oAd 2 (hr := by decide)) <| zM <| zZ) ?_
  refine pwp_again (SimImp.refl _) ?_
  refine pwp_seq <| kx [(137, (vb true))] [] (zE (oBk true oLt) <| zZ) ?_
  refine pwp_seq <| pwp_cond (b := true) (by kernel_rfl) (fun _ => ?_) (fun h => by cases h)
  refine pwp_skip <| pwp_seq <| pwp_block <| pwp_seq <| kx [(20, (.ref 8 0))] [(8, some (bx (encR (RRat.mk (ofZ n2) (ofZ d2)))))] (zE (oXs el82 2) <| zE (oCa sh67) <| zN (oAl 8 ze67 zo67) <| zT (oSt sh67) <| zZ) ?_
  refine kx [] [(5, some (bx (encI (ofZ e2))))] (zR (oLa sh30) <| zE (oFr fo67_1) <| zR (oLa sh30) <| zE (oCl (by have h := l_times (ofZ e1) e1 (iu bn16) (ofZ d2) d2 (iu hd2); rw [he2] at h; exact h)) <| zT (oSt sh30) <| zZ) ?_
  refine pwp_sim (wk (l := [(2, (vl 82 1 enc_sl_82 [y4, y5, y6])), (10, (.ref 3 0)), (11, (vi 14)), (12, (vin 0)), (15, (.ref 4 0)), (16, (.ref 5 0)), (128, (vl 82 1 enc_sl_82 [y4, y5, y6])), (129, (vin 3)), (130, (vin 0)), (134, (vl 67 4 encR y4)), (135, (vin 3)), (136, (vin 2))]) (b := [(3, some y1), (4, some y1), (5, some (bx (encI (ofZ e2))))])) ?_
  refine kx [(136, (vin 3))] [] (zE (oAd 3 (hr := by decide)) <| zM <| zZ) ?_
  refine pwp_again (SimImp.refl _) ?_
  refine pwp_seq <| kx [(137, (vb false))] [] (zE (oBk false oLt) <| zZ) ?_
  refine pwp_seq <| pwp_cond (b := false) (by kernel_rfl) (fun h => by cases h) (fun _ => ?_)
  refine pwp_exit <| kx [(130, (vin 1))] [] (zE (oAd 1 (hr := by decide)) <| zM <| zZ) ?_
  refine pwp_again (SimImp.refl _) ?_
  refine pwp_seq <| kx [(131, (vb true))] [] (zE (oBk true oLt) <| zZ) ?_
  refine pwp_seq <| pwp_cond (b := true) (by kernel_rfl) (fun _ => ?_) (fun h => by cases h)
  refine pwp_skip <| pwp_seq <| pwp_block <| pwp_seq <| kx [(18, (vl 67 4 encR y5))] [] (zE (oXs el76 1) <| zE (oC1 sh82) <| zM <| zZ) ?_
  refine pwp_seq <| kx [(134, (vl 67 4 encR y5)), (135, (vin 3)), (136, (vin 0))] [] (zM <| zE (oLn el82 3 (hr := rfl)) <| zM <| zZ) ?_
  refine pwp_block <| pwp_rounds 20 ?_
  refine pwp_round <| pwp_seq <| kx [(137, (vb true))] [] (zE (oBk true oLt) <| zZ) ?_
  refine pwp_seq <| pwp_cond (b := true) (by kernel_rfl) (fun _ => ?_) (fun h => by cases h)
  refine pwp_skip <| pwp_seq <| pwp_block <| pwp_seq <| kx [(20, (.ref 9 0))] [(9, some (bx (encR (RRat.mk (ofZ n3) (ofZ d3)))))] (zE (oXs el82 0) <| zE (oCa sh67) <| zN (oAl 9 ze67 zo67) <| zT (oSt sh67) <| zZ) ?_
  have bn17 : IOk (ofZ e3) e3 33 := (iok_eqz he3.symm (iok_mul (k := 33) bn3 hd3 (by decide)))
  refine kx [] [(5, some (bx (encI (ofZ e3))))] (zR (oLa sh30) <| zE (oFr fo67_1) <| zR (oLa sh30) <| zE (oCl (by have h := l_times (ofZ e2) e2 (iu bn3) (ofZ d3) d3 (iu hd3); rw [he3] at h; exact h)) <| zT (oSt sh30) <| zZ) ?_
  refine kx [(136, (vin 1))] [] (zE (oAd 1 (hr := by decide)) <| zM <| zZ) ?_
  refine pwp_again (SimImp.refl _) ?_
  refine pwp_seq <| kx [(137, (vb true))] [] (zE (oBk true oLt) <| zZ) ?_
  refine pwp_seq <| pwp_cond (b := true) (by kernel_rfl) (fun _ => ?_) (fun h => by cases h)
  refine pwp_skip <| pwp_seq <| pwp_block <| pwp_seq <| kx [(20, (.ref 10 0))] [(10, some (bx (encR (RRat.mk (ofZ n4) (ofZ d4)))))] (zE (oXs el82 1) <| zE (oCa sh67) <| zN (oAl 10 ze67 zo67) <| zT (oSt sh67) <| zZ) ?_
  refine kx [] [(5, some (bx (encI (ofZ e4))))] (zR (oLa sh30) <| zE (oFr fo67_1) <| zR (oLa sh30) <| zE (oCl (by have h := l_times (ofZ e3) e3 (iu bn17) (ofZ d4) d4 (iu hd4); rw [he4] at h; exact h)) <| zT (oSt sh30) <| zZ) ?_
  refine kx [(136, (vin 2))] [] (zE (oAd 2 (hr := by decide)) <| zM <| zZ) ?_
  refine pwp_again (SimImp.refl _) ?_
  refine pwp_seq <| pwp_sim (wk (l := [(2, (vl 82 1 enc_sl_82 [y4, y5, y6])), (10, (.ref 3 0)), (11, (vi 14)), (12, (vin 0)), (15, (.ref 4 0)), (16, (.ref 5 0)), (128, (vl 82 1 enc_sl_82 [y4, y5, y6])), (129, (vin 3)), (130, (vin 1)), (134, (vl 67 4 encR y5)), (135, (vin 3)), (136, (vin 2))]) (b := [(3, some y1), (4, some y1), (5, some (bx (encI (ofZ e4))))])) ?_
  refine kx [(137, (vb true))] [] (zE (oBk true oLt) <| zZ) ?_
  refine pwp_seq <| pwp_cond (b := true) (by kernel_rfl) (fun _ => ?_) (fun h => by cases h)
  refine pwp_skip <| pwp_seq <| pwp_block <| pwp_seq <| kx [(20, (.ref 11 0))] [(11, some (bx (encR (RRat.mk (ofZ n5) (ofZ d5)))))] (zE (oXs el82 2) <| zE (oCa sh67) <| zN (oAl 11 ze67 zo67) <| zT (oSt sh67) <| zZ) ?_
  have bn18 : IOk (ofZ e5) e5 49 := (iok_eqz he5.symm (iok_mul (k := 49) bn4 hd5 (by decide)))
  refine kx [] [(5, some (bx (encI (ofZ e5))))] (zR (oLa sh30) <| zE (oFr fo67_1) <| zR (oLa sh30) <| zE (oCl (by have h := l_times (ofZ e4) e4 (iu bn4) (ofZ d5) d5 (iu hd5); rw [he5] at h; exact h)) <| zT (oSt sh30) <| zZ) ?_
  refine kx [(136, (vin 3))] [] (zE (oAd 3 (hr := by decide)) <| zM <| zZ) ?_
  refine pwp_again (SimImp.refl _) ?_
  refine pwp_seq <| kx [(137, (vb false))] [] (zE (oBk false oLt) <| zZ) ?_
  refine pwp_seq <| pwp_cond (b := false) (by kernel_rfl) (fun h => by cases h) (fun _ => ?_)
  refine pwp_exit <| kx [(130, (vin 2))] [] (zE (oAd 2 (hr := by decide)) <| zM <| zZ) ?_
  refine pwp_again (SimImp.refl _) ?_
  refine pwp_seq <| kx [(131, (vb true))] [] (zE (oBk true oLt) <| zZ) ?_
  refine pwp_seq <| pwp_cond (b := true) (by kernel_rfl) (fun _ => ?_) (fun h => by cases h)
  refine pwp_skip <| pwp_seq <| pwp_block <| pwp_seq <| kx [(18, (vl 67 4 encR y6))] [] (zE (oXs el76 2) <| zE (oC1 sh82) <| zM <| zZ) ?_
  refine pwp_seq <| kx [(134, (vl 67 4 encR y6)), (135, (vin 3)), (136, (vin 0))] [] (zM <| zE (oLn el82 3 (hr := rfl)) <| zM <| zZ) ?_
  refine pwp_block <| pwp_rounds 20 ?_
  refine pwp_round <| pwp_seq <| kx [(137, (vb true))] [] (zE (oBk true oLt) <| zZ) ?_
  refine pwp_seq <| pwp_cond (b := true) (by kernel_rfl) (fun _ => ?_) (fun h => by cases h)
  refine pwp_skip <| pwp_seq <| pwp_block <| pwp_seq <| kx [(20, (.ref 12 0))] [(12, some (bx (encR (RRat.mk (ofZ n6) (ofZ d6)))))] (zE (oXs el82 0) <| zE (oCa sh67) <| zN (oAl 12 ze67 zo67) <| zT (oSt sh67) <| zZ) ?_
  refine kx [] [(5, some (bx (encI (ofZ e6))))] (zR (oLa sh30) <| zE (oFr fo67_1) <| zR (oLa sh30) <| zE (oCl (by have h := l_times (ofZ e5) e5 (iu bn18) (ofZ d6) d6 (iu hd6); rw [he6] at h; exact h)) <| zT (oSt sh30) <| zZ) ?_
  refine kx [(136, (vin 1))] [] (zE (oAd 1 (hr := by decide)) <| zM <| zZ) ?_
  refine pwp_again (SimImp.refl _) ?_
  refine pwp_seq <| kx [(137, (vb true))] [] (zE (oBk true oLt) <| zZ) ?_
  refine pwp_seq <| pwp_cond (b := true) (by kernel_rfl) (fun _ => ?_) (fun h => by cases h)
  refine pwp_skip <| pwp_seq <| pwp_block <| pwp_seq <| pwp_sim (wk (l := [(2, (vl 82 1 enc_sl_82 [y4, y5, y6])), (10, (.ref 3 0)), (11, (vi 14)), (12, (vin 0)), (15, (.ref 4 0)), (16, (.ref 5 0)), (128, (vl 82 1 enc_sl_82 [y4, y5, y6])), (129, (vin 3)), (130, (vin 2)), (134, (vl 67 4 encR y6)), (135, (vin 3)), (136, (vin 1)), (137, (vb true))]) (b := [(3, some y1), (4, some y1), (5, some (bx (encI (ofZ e6))))])) ?_
  refine kx [(20, (.ref 13 0))] [(13, some (bx (encR (RRat.mk (ofZ n7) (ofZ d7)))))] (zE (oXs el82 1) <| zE (oCa sh67) <| zN (oAl 13 ze67 zo67) <| zT (oSt sh67) <| zZ) ?_
  have bn19 : IOk (ofZ e7) e7 65 := (iok_eqz he7.symm (iok_mul (k := 65) bn5 hd7 (by decide)))
  refine kx [] [(5, some (bx (encI (ofZ e7))))] (zR (oLa sh30) <| zE (oFr fo67_1) <| zR (oLa sh30) <| zE (oCl (by have h := l_times (ofZ e6) e6 (iu bn5) (ofZ d7) d7 (iu hd7); rw [he7] at h; exact h)) <| zT (oSt sh30) <| zZ) ?_
  refine kx [(136, (vin 2))] [] (zE (oAd 2 (hr := by decide)) <| zM <| zZ) ?_
  refine pwp_again (SimImp.refl _) ?_
  refine pwp_seq <| kx [(137, (vb true))] [] (zE (oBk true oLt) <| zZ) ?_
  refine pwp_seq <| pwp_cond (b := true) (by kernel_rfl) (fun _ => ?_) (fun h => by cases h)
  refine pwp_skip <| pwp_seq <| pwp_block <| pwp_seq <| kx [(20, (.ref 14 0))] [(14, some (bx (encR (RRat.mk (ofZ n8) (ofZ d8)))))] (zE (oXs el82 2) <| zE (oCa sh67) <| zN (oAl 14 ze67 zo67) <| zT (oSt sh67) <| zZ) ?_
  refine kx [] [(5, some (bx (encI (ofZ e8))))] (zR (oLa sh30) <| zE (oFr fo67_1) <| zR (oLa sh30) <| zE (oCl (by have h := l_times (ofZ e7) e7 (iu bn19) (ofZ d8) d8 (iu hd8); rw [he8] at h; exact h)) <| zT (oSt sh30) <| zZ) ?_
  refine kx [(136, (vin 3))] [] (zE (oAd 3 (hr := by decide)) <| zM <| zZ) ?_
  refine pwp_again (SimImp.refl _) ?_
  refine pwp_seq <| kx [(137, (vb false))] [] (zE (oBk false oLt) <| zZ) ?_
  refine pwp_seq <| pwp_cond (b := false) (by kernel_rfl) (fun h => by cases h) (fun _ => ?_)
  refine pwp_exit <| kx [(130, (vin 3))] [] (zE (oAd 3 (hr := by decide)) <| zM <| zZ) ?_
  refine pwp_again (SimImp.refl _) ?_
  refine pwp_seq <| kx [(131, (vb false))] [] (zE (oBk false oLt) <| zZ) ?_
  refine pwp_seq <| pwp_cond (b := false) (by kernel_rfl) (fun h => by cases h) (fun _ => ?_)
  refine pwp_exit <| pwp_seq <| pwp_seq <| kx [(146, (vl 82 1 enc_sl_82 [y4, y5, y6])), (147, (vin 3)), (148, (vin 0))] [] (zM <| zE (oLn el76 3 (hr := rfl)) <| zM <| zZ) ?_
  refine pwp_block <| pwp_rounds 20 ?_
  refine pwp_round <| pwp_seq <| kx [(149, (vb true))] [] (zE (oBk true oLt) <| zZ) ?_
  refine pwp_seq <| pwp_cond (b := true) (by kernel_rfl) (fun _ => ?_) (fun h => by cases h)
  refine pwp_skip <| pwp_seq <| pwp_block <| pwp_seq <| kx [(21, (vin 0)), (22, (vl 67 4 encR y4))] [] (zM <| zE (oXs el76 0) <| zE (oC1 sh82) <| zM <| zM <| zZ) ?_
  refine pwp_seq <| kx [(153, (vl 67 4 encR y4)), (154, (vin 3)), (155, (vin 0))] [] (zM <| zE (oLn el82 3 (hr := rfl)) <| zM <| zZ) ?_
  refine pwp_block <| pwp_rounds 20 ?_
  refine pwp_round <| pwp_seq <| pwp_sim (wk (l := [(10, (.ref 3 0)), (11, (vi 14)), (12, (vin 0)), (15, (.ref 4 0)), (16, (.ref 5 0)), (21, (vin 0)), (146, (vl 82 1 enc_sl_82 [y4, y5, y6])), (147, (vin 3)), (148, (vin 0)), (153, (vl 67 4 encR y4)), (154, (vin 3)), (155, (vin 0))]) (b := [(3, some y1), (4, some y1), (5, some (bx (encI (ofZ e8))))])) ?_
  refine kx [(156, (vb true))] [] (zE (oBk true oLt) <| zZ) ?_
  refine pwp_seq <| pwp_cond (b := true) (by kernel_rfl) (fun _ => ?_) (fun h => by cases h)
  refine pwp_skip <| pwp_seq <| pwp_block <| pwp_seq <| kx [(23, (vin 0)), (24, (.ref 15 0))] [(15, some (bx (encR (RRat.mk (ofZ n0) (ofZ d0)))))] (zM <| zE (oXs el82 0) <| zE (oCa sh67) <| zN (oAl 15 ze67 zo67) <| zM <| zT (oSt sh67) <| zZ) ?_
  refine pwp_seq <| kd [(25, (.ref 16 0))] [(16, some (bx (encI (ofZ w0)))), (17, none)] mo (wR (oLa sh30) <| wE (oFr fo67_0) <| wR (oLa sh30) <| wE (oCl (l_times (ofZ e8) e8 (iu bn6) (ofZ n0) n0 (iu hn0))) <| wE (oFr fo67_1) <| wR (oLa sh30) <| wE (oCl (by have h := rs_divide (iok_mul (k := 81) bn6 hn0 (by decide)) hd0 (by decide) (by decide) (by omega); rw [hq0] at h; exact h)) <| wM <| wE oEx <| wE oEx <| wE oEx <| wN (oAl 16 ze30 zo30) <| wN (oAl 17 ze30 zo30) <| wT (oSt sh30) <| wT (oSt sh30) <| wM <| wZ) ?_
  refine kx [] [(4, some (bx (encA31 (A9.mk (ofZ w0) (RInt.mk false []) (RInt.mk false []) (RInt.mk false []) (RInt.mk false []) (RInt.mk false []) (RInt.mk false []) (RInt.mk false []) (RInt.mk false [])))))] (zM <| zE (oMl 0 (hr := by decide)) <| zM <| zE (oAd 0 (hr := by decide)) <| zR (oLa sh30) <| zE (oXr ar32 0) <| zT (oSt sh30) <| zZ) ?_
  refine kx [(155, (vin 1))] [] (zE (oAd 1 (hr := by decide)) <| zM <| zZ) ?_
  refine pwp_again (SimImp.refl _) ?_
  refine pwp_seq <| kx [(156, (vb true))] [] (zE (oBk true oLt) <| zZ) ?_
  refine pwp_seq <| pwp_cond (b := true) (by kernel_rfl) (fun _ => ?_) (fun h => by cases h)
  refine pwp_skip <| pwp_seq <| pwp_block <| pwp_seq <| kx [(23, (vin 1)), (24, (.ref 18 0))] [(18, some (bx (encR (RRat.mk (ofZ n1) (ofZ d1)))))] (zM <| zE (oXs el82 1) <| zE (oCa sh67) <| zN (oAl 18 ze67 zo67) <| zM <| zT (oSt sh67) <| zZ) ?_
  refine pwp_seq <| kd [(25, (.ref 19 0))] [(19, some (bx (encI (ofZ w1)))), (20, none)] mo (wR (oLa sh30) <| wE (oFr fo67_0) <| wR (oLa sh30) <| wE (oCl (l_times (ofZ e8) e8 (iu bn6) (ofZ n1) n1 (iu hn1))) <| wE (oFr fo67_1) <| wR (oLa sh30) <| wE (oCl (by have h := rs_divide (iok_mul (k := 81) bn6 hn1 (by decide)) hd1 (by decide) (by decide) (by omega); rw [hq1] at h; exact h)) <| wM <| wE oEx <| wE oEx <| wE oEx <| wN (oAl 19 ze30 zo30) <| wN (oAl 20 ze30 zo30) <| wT (oSt sh30) <| wT (oSt sh30) <| wM <| wZ) ?_
  refine kx [] [(4, some (bx (encA31 (A9.mk (ofZ w0) (ofZ w1) (RInt.mk false []) (RInt.mk false []) (RInt.mk false []) (RInt.mk false []) (RInt.mk false []) (RInt.mk false []) (RInt.mk false [])))))] (zM <| zE (oMl 0 (hr := by decide)) <| zM <| zE (oAd 1 (hr := by decide)) <| zR (oLa sh30) <| zE (oXr ar32 1) <| zT (oSt sh30) <| zZ) ?_
  refine kx [(155, (vin 2))] [] (zE (oAd 2 (hr := by decide)) <| zM <| zZ) ?_
  refine pwp_again (SimImp.refl _) ?_
  refine pwp_seq <| kx [(156, (vb true))] [] (zE (oBk true oLt) <| zZ) ?_
  refine pwp_seq <| pwp_cond (b := true) (by kernel_rfl) (fun _ => ?_) (fun h => by cases h)
  refine pwp_skip <| pwp_seq <| pwp_block <| pwp_seq <| kx [(23, (vin 2)), (24, (.ref 21 0))] [(21, some (bx (encR (RRat.mk (ofZ n2) (ofZ d2)))))] (zM <| zE (oXs el82 2) <| zE (oCa sh67) <| zN (oAl 21 ze67 zo67) <| zM <| zT (oSt sh67) <| zZ) ?_
  refine pwp_seq <| kd [(25, (.ref 22 0))] [(22, some (bx (encI (ofZ w2)))), (23, none)] mo (wR (oLa sh30) <| wE (oFr fo67_0) <| wR (oLa sh30) <| wE (oCl (l_times (ofZ e8) e8 (iu bn6) (ofZ n2) n2 (iu hn2))) <| wE (oFr fo67_1) <| wR (oLa sh30) <| wE (oCl (by have h := rs_divide (iok_mul (k := 81) bn6 hn2 (by decide)) hd2 (by decide) (by decide) (by omega); rw [hq2] at h; exact h)) <| wM <| wE oEx <| wE oEx <| wE oEx <| wN (oAl 22 ze30 zo30) <| wN (oAl 23 ze30 zo30) <| wT (oSt sh30) <| wT (oSt sh30) <| wM <| wZ) ?_
  refine kx [] [(4, some (bx (encA31 (A9.mk (ofZ w0) (ofZ w1) (ofZ w2) (RInt.mk false []) (RInt.mk false []) (RInt.mk false []) (RInt.mk false []) (RInt.mk false []) (RInt.mk false [])))))] (zM <| zE (oMl 0 (hr := by decide)) <| zM <| zE (oAd 2 (hr := by decide)) <| zR (oLa sh30) <| zE (oXr ar32 2) <| zT (oSt sh30) <| zZ) ?_
  refine pwp_sim (wk (l := [(10, (.ref 3 0)), (11, (vi 14)), (12, (vin 0)), (15, (.ref 4 0)), (16, (.ref 5 0)), (21, (vin 0)), (146, (vl 82 1 enc_sl_82 [y4, y5, y6])), (147, (vin 3)), (148, (vin 0)), (153, (vl 67 4 encR y4)), (154, (vin 3)), (155, (vin 2))]) (b := [(3, some y1), (4, some (bx (encA31 (A9.mk (ofZ w0) (ofZ w1) (ofZ w2) (RInt.mk false []) (RInt.mk false []) (RInt.mk false []) (RInt.mk false []) (RInt.mk false []) (RInt.mk false []))))), (5, some (bx (encI (ofZ e8))))])) ?_
  refine kx [(155, (vin 3))] [] (zE (oAd 3 (hr := by decide)) <| zM <| zZ) ?_
  refine pwp_again (SimImp.refl _) ?_
  refine pwp_seq <| kx [(156, (vb false))] [] (zE (oBk false oLt) <| zZ) ?_
  refine pwp_seq <| pwp_cond (b := false) (by kernel_rfl) (fun h => by cases h) (fun _ => ?_)
  refine pwp_exit <| kx [(148, (vin 1))] [] (zE (oAd 1 (hr := by decide)) <| zM <| zZ) ?_
  refine pwp_again (SimImp.refl _) ?_
  refine pwp_seq <| kx [(149, (vb true))] [] (zE (oBk true oLt) <| zZ) ?_
  refine pwp_seq <| pwp_cond (b := true) (by kernel_rfl) (fun _ => ?_) (fun h => by cases h)
  refine pwp_skip <| pwp_seq <| pwp_block <| pwp_seq <| kx [(21, (vin 1)), (22, (vl 67 4 encR y5))] [] (zM <| zE (oXs el76 1) <| zE (oC1 sh82) <| zM <| zM <| zZ) ?_
  refine pwp_seq <| kx [(153, (vl 67 4 encR y5)), (154, (vin 3)), (155, (vin 0))] [] (zM <| zE (oLn el82 3 (hr := rfl)) <| zM <| zZ) ?_
  refine pwp_block <| pwp_rounds 20 ?_
  refine pwp_round <| pwp_seq <| kx [(156, (vb true))] [] (zE (oBk true oLt) <| zZ) ?_
  refine pwp_seq <| pwp_cond (b := true) (by kernel_rfl) (fun _ => ?_) (fun h => by cases h)
  refine pwp_skip <| pwp_seq <| pwp_block <| pwp_seq <| kx [(23, (vin 0)), (24, (.ref 24 0))] [(24, some (bx (encR (RRat.mk (ofZ n3) (ofZ d3)))))] (zM <| zE (oXs el82 0) <| zE (oCa sh67) <| zN (oAl 24 ze67 zo67) <| zM <| zT (oSt sh67) <| zZ) ?_
  refine pwp_seq <| kd [(25, (.ref 25 0))] [(25, some (bx (encI (ofZ w3)))), (26, none)] mo (wR (oLa sh30) <| wE (oFr fo67_0) <| wR (oLa sh30) <| wE (oCl (l_times (ofZ e8) e8 (iu bn6) (ofZ n3) n3 (iu hn3))) <| wE (oFr fo67_1) <| wR (oLa sh30) <| wE (oCl (by have h := rs_divide (iok_mul (k := 81) bn6 hn3 (by decide)) hd3 (by decide) (by decide) (by omega); rw [hq3] at h; exact h)) <| wM <| wE oEx <| wE oEx <| wE oEx <| wN (oAl 25 ze30 zo30) <| wN (oAl 26 ze30 zo30) <| wT (oSt sh30) <| wT (oSt sh30) <| wM <| wZ) ?_
  refine kx [] [(4, some (bx (encA31 (A9.mk (ofZ w0) (ofZ w1) (ofZ w2) (ofZ w3) (RInt.mk false []) (RInt.mk false []) (RInt.mk false []) (RInt.mk false []) (RInt.mk false [])))))] (zM <| zE (oMl 3 (hr := by decide)) <| zM <| zE (oAd 3 (hr := by decide)) <| zR (oLa sh30) <| zE (oXr ar32 3) <| zT (oSt sh30) <| zZ) ?_
  refine kx [(155, (vin 1))] [] (zE (oAd 1 (hr := by decide)) <| zM <| zZ) ?_
  refine pwp_again (SimImp.refl _) ?_
  refine pwp_seq <| kx [(156, (vb true))] [] (zE (oBk true oLt) <| zZ) ?_
  refine pwp_seq <| pwp_cond (b := true) (by kernel_rfl) (fun _ => ?_) (fun h => by cases h)
  refine pwp_skip <| pwp_seq <| pwp_block <| pwp_seq <| kx [(23, (vin 1)), (24, (.ref 27 0))] [(27, some (bx (encR (RRat.mk (ofZ n4) (ofZ d4)))))] (zM <| zE (oXs el82 1) <| zE (oCa sh67) <| zN (oAl 27 ze67 zo67) <| zM <| zT (oSt sh67) <| zZ) ?_
  refine pwp_seq <| kd [(25, (.ref 28 0))] [(28, some (bx (encI (ofZ w4)))), (29, none)] mo (wR (oLa sh30) <| wE (oFr fo67_0) <| wR (oLa sh30) <| wE (oCl (l_times (ofZ e8) e8 (iu bn6) (ofZ n4) n4 (iu hn4))) <| wE (oFr fo67_1) <| wR (oLa sh30) <| wE (oCl (by have h := rs_divide (iok_mul (k := 81) bn6 hn4 (by decide)) hd4 (by decide) (by decide) (by omega); rw [hq4] at h; exact h)) <| wM <| wE oEx <| wE oEx <| wE oEx <| wN (oAl 28 ze30 zo30) <| wN (oAl 29 ze30 zo30) <| wT (oSt sh30) <| wT (oSt sh30) <| wM <| wZ) ?_
  refine pwp_sim (wk (l := [(10, (.ref 3 0)), (11, (vi 14)), (12, (vin 0)), (15, (.ref 4 0)), (16, (.ref 5 0)), (21, (vin 1)), (23, (vin 1)), (25, (.ref 28 0)), (146, (vl 82 1 enc_sl_82 [y4, y5, y6])), (147, (vin 3)), (148, (vin 1)), (153, (vl 67 4 encR y5)), (154, (vin 3)), (155, (vin 1))]) (b := [(28, some (bx (encI (ofZ w4)))), (3, some y1), (4, some (bx (encA31 (A9.mk (ofZ w0) (ofZ w1) (ofZ w2) (ofZ w3) (RInt.mk false []) (RInt.mk false []) (RInt.mk false []) (RInt.mk false []) (RInt.mk false []))))), (5, some (bx (encI (ofZ e8))))])) ?_
  refine kx [] [(4, some (bx (encA31 (A9.mk (ofZ w0) (ofZ w1) (ofZ w2) (ofZ w3) (ofZ w4) (RInt.mk false []) (RInt.mk false []) (RInt.mk false []) (RInt.mk false [])))))] (zM <| zE (oMl 3 (hr := by decide)) <| zM <| zE (oAd 4 (hr := by decide)) <| zR (oLa sh30) <| zE (oXr ar32 4) <| zT (oSt sh30) <| zZ) ?_
  refine kx [(155, (vin 2))] [] (zE (oAd 2 (hr := by decide)) <| zM <| zZ) ?_
  refine pwp_again (SimImp.refl _) ?_
  refine pwp_seq <| kx [(156, (vb true))] [] (zE (oBk true oLt) <| zZ) ?_
  refine pwp_seq <| pwp_cond (b := true) (by kernel_rfl) (fun _ => ?_) (fun h => by cases h)
  refine pwp_skip <| pwp_seq <| pwp_block <| pwp_seq <| kx [(23, (vin 2)), (24, (.ref 30 0))] [(30, some (bx (encR (RRat.mk (ofZ n5) (ofZ d5)))))] (zM <| zE (oXs el82 2) <| zE (oCa sh67) <| zN (oAl 30 ze67 zo67) <| zM <| zT (oSt sh67) <| zZ) ?_
  refine pwp_seq <| kd [(25, (.ref 31 0))] [(31, some (bx (encI (ofZ w5)))), (32, none)] mo (wR (oLa sh30) <| wE (oFr fo67_0) <| wR (oLa sh30) <| wE (oCl (l_times (ofZ e8) e8 (iu bn6) (ofZ n5) n5 (iu hn5))) <| wE (oFr fo67_1) <| wR (oLa sh30) <| wE (oCl (by have h := rs_divide (iok_mul (k := 81) bn6 hn5 (by decide)) hd5 (by decide) (by decide) (by omega); rw [hq5] at h; exact h)) <| wM <| wE oEx <| wE oEx <| wE oEx <| wN (oAl 31 ze30 zo30) <| wN (oAl 32 ze30 zo30) <| wT (oSt sh30) <| wT (oSt sh30) <| wM <| wZ) ?_
  refine kx [] [(4, some (bx (encA31 (A9.mk (ofZ w0) (ofZ w1) (ofZ w2) (ofZ w3) (ofZ w4) (ofZ w5) (RInt.mk false []) (RInt.mk false []) (RInt.mk false [])))))] (zM <| zE (oMl 3 (hr := by decide)) <| zM <| zE (oAd 5 (hr := by decide)) <| zR (oLa sh30) <| zE (oXr ar32 5) <| zT (oSt sh30) <| zZ) ?_
  refine kx [(155, (vin 3))] [] (zE (oAd 3 (hr := by decide)) <| zM <| zZ) ?_
  refine pwp_again (SimImp.refl _) ?_
  refine pwp_seq <| kx [(156, (vb false))] [] (zE (oBk false oLt) <| zZ) ?_
  refine pwp_seq <| pwp_cond (b := false) (by kernel_rfl) (fun h => by cases h) (fun _ => ?_)
  refine pwp_exit <| kx [(148, (vin 2))] [] (zE (oAd 2 (hr := by decide)) <| zM <| zZ) ?_
  refine pwp_again (SimImp.refl _) ?_
  refine pwp_seq <| kx [(149, (vb true))] [] (zE (oBk true oLt) <| zZ) ?_
  refine pwp_seq <| pwp_cond (b := true) (by kernel_rfl) (fun _ => ?_) (fun h => by cases h)
  refine pwp_skip <| pwp_seq <| pwp_block <| pwp_seq <| kx [(21, (vin 2)), (22, (vl 67 4 encR y6))] [] (zM <| zE (oXs el76 2) <| zE (oC1 sh82) <| zM <| zM <| zZ) ?_
  refine pwp_seq <| kx [(153, (vl 67 4 encR y6)), (154, (vin 3)), (155, (vin 0))] [] (zM <| zE (oLn el82 3 (hr := rfl)) <| zM <| zZ) ?_
  refine pwp_block <| pwp_rounds 20 ?_
  refine pwp_round <| pwp_seq <| kx [(156, (vb true))] [] (zE (oBk true oLt) <| zZ) ?_
  refine pwp_seq <| pwp_cond (b := true) (by kernel_rfl) (fun _ => ?_) (fun h => by cases h)
  refine pwp_skip <| pwp_seq <| pwp_block <| pwp_seq <| kx [(23, (vin 0)), (24, (.ref 33 0))] [(33, some (bx (encR (RRat.mk (ofZ n6) (ofZ d6)))))] (zM <| zE (oXs el82 0) <| zE (oCa sh67) <| zN (oAl 33 ze67 zo67) <| zM <| zT (oSt sh67) <| zZ) ?_
  refine pwp_seq <| pwp_sim (wk (l := [(10, (.ref 3 0)), (11, (vi 14)), (12, (vin 0)), (15, (.ref 4 0)), (16, (.ref 5 0)), (21, (vin 2)), (23, (vin 0)), (24, (.ref 33 0)), (146, (vl 82 1 enc_sl_82 [y4, y5, y6])), (147, (vin 3)), (148, (vin 2)), (153, (vl 67 4 encR y6)), (154, (vin 3)), (155, (vin 0))]) (b := [(3, some y1), (33, some (bx (encR (RRat.mk (ofZ n6) (ofZ d6))))), (4, some (bx (encA31 (A9.mk (ofZ w0) (ofZ w1) (ofZ w2) (ofZ w3) (ofZ w4) (ofZ w5) (RInt.mk false []) (RInt.mk false []) (RInt.mk false []))))), (5, some (bx (encI (ofZ e8))))])) ?_
  refine kd [(25, (.ref 34 0))] [(34, some (bx (encI (ofZ w6)))), (35, none)] mo (wR (oLa sh30) <| wE (oFr fo67_0) <| wR (oLa sh30) <| wE (oCl (l_times (ofZ e8) e8 (iu bn6) (ofZ n6) n6 (iu hn6))) <| wE (oFr fo67_1) <| wR (oLa sh30) <| wE (oCl (by have h := rs_divide (iok_mul (k := 81) bn6 hn6 (by decide)) hd6 (by decide) (by decide) (by omega); rw [hq6] at h; exact h)) <| wM <| wE oEx <| wE oEx <| wE oEx <| wN (oAl 34 ze30 zo30) <| wN (oAl 35 ze30 zo30) <| wT (oSt sh30) <| wT (oSt sh30) <| wM <| wZ) ?_
  refine kx [] [(4, some (bx (encA31 (A9.mk (ofZ w0) (ofZ w1) (ofZ w2) (ofZ w3) (ofZ w4) (ofZ w5) (ofZ w6) (RInt.mk false []) (RInt.mk false [])))))] (zM <| zE (oMl 6 (hr := by decide)) <| zM <| zE (oAd 6 (hr := by decide)) <| zR (oLa sh30) <| zE (oXr ar32 6) <| zT (oSt sh30) <| zZ) ?_
  refine kx [(155, (vin 1))] [] (zE (oAd 1 (hr := by decide)) <| zM <| zZ) ?_
  refine pwp_again (SimImp.refl _) ?_
  refine pwp_seq <| kx [(156, (vb true))] [] (zE (oBk true oLt) <| zZ) ?_
  refine pwp_seq <| pwp_cond (b := true) (by kernel_rfl) (fun _ => ?_) (fun h => by cases h)
  refine pwp_skip <| pwp_seq <| pwp_block <| pwp_seq <| kx [(23, (vin 1)), (24, (.ref 36 0))] [(36, some (bx (encR (RRat.mk (ofZ n7) (ofZ d7)))))] (zM <| zE (oXs el82 1) <| zE (oCa sh67) <| zN (oAl 36 ze67 zo67) <| zM <| zT (oSt sh67) <| zZ) ?_
  refine pwp_seq <| kd [(25, (.ref 37 0))] [(37, some (bx (encI (ofZ w7)))), (38, none)] mo (wR (oLa sh30) <| wE (oFr fo67_0) <| wR (oLa sh30) <| wE (oCl (l_times (ofZ e8) e8 (iu bn6) (ofZ n7) n7 (iu hn7))) <| wE (oFr fo67_1) <| wR (oLa sh30) <| wE (oCl (by have h := rs_divide (iok_mul (k := 81) bn6 hn7 (by decide)) hd7 (by decide) (by decide) (by omega); rw [hq7] at h; exact h)) <| wM <| wE oEx <| wE oEx <| wE oEx <| wN (oAl 37 ze30 zo30) <| wN (oAl 38 ze30 zo30) <| wT (oSt sh30) <| wT (oSt sh30) <| wM <| wZ) ?_
  refine kx [] [(4, some (bx (encA31 (A9.mk (ofZ w0) (ofZ w1) (ofZ w2) (ofZ w3) (ofZ w4) (ofZ w5) (ofZ w6) (ofZ w7) (RInt.mk false [])))))] (zM <| zE (oMl 6 (hr := by decide)) <| zM <| zE (oAd 7 (hr := by decide)) <| zR (oLa sh30) <| zE (oXr ar32 7) <| zT (oSt sh30) <| zZ) ?_
  refine kx [(155, (vin 2))] [] (zE (oAd 2 (hr := by decide)) <| zM <| zZ) ?_
  refine pwp_again (SimImp.refl _) ?_
  refine pwp_seq <| kx [(156, (vb true))] [] (zE (oBk true oLt) <| zZ) ?_
  refine pwp_seq <| pwp_cond (b := true) (by kernel_rfl) (fun _ => ?_) (fun h => by cases h)
  refine pwp_skip <| pwp_seq <| pwp_block <| pwp_seq <| kx [(23, (vin 2)), (24, (.ref 39 0))] [(39, some (bx (encR (RRat.mk (ofZ n8) (ofZ d8)))))] (zM <| zE (oXs el82 2) <| zE (oCa sh67) <| zN (oAl 39 ze67 zo67) <| zM <| zT (oSt sh67) <| zZ) ?_
  refine pwp_seq <| kd [(25, (.ref 40 0))] [(40, some (bx (encI (ofZ w8)))), (41, none)] mo (wR (oLa sh30) <| wE (oFr fo67_0) <| wR (oLa sh30) <| wE (oCl (l_times (ofZ e8) e8 (iu bn6) (ofZ n8) n8 (iu hn8))) <| wE (oFr fo67_1) <| wR (oLa sh30) <| wE (oCl (by have h := rs_divide (iok_mul (k := 81) bn6 hn8 (by decide)) hd8 (by decide) (by decide) (by omega); rw [hq8] at h; exact h)) <| wM <| wE oEx <| wE oEx <| wE oEx <| wN (oAl 40 ze30 zo30) <| wN (oAl 41 ze30 zo30) <| wT (oSt sh30) <| wT (oSt sh30) <| wM <| wZ) ?_
  refine kx [] [(4, some (bx (encA31 y3)))] (zM <| zE (oMl 6 (hr := by decide)) <| zM <| zE (oAd 8 (hr := by decide)) <| zR (oLa sh30) <| zE (oXr ar32 8) <| zT (oSt sh30) <| zZ) ?_
  refine kx [(155, (vin 3))] [] (zE (oAd 3 (hr := by decide)) <| zM <| zZ) ?_
  refine pwp_again (SimImp.refl _) ?_
  refine pwp_seq <| kx [(156, (vb false))] [] (zE (oBk false oLt) <| zZ) ?_
  refine pwp_seq <| pwp_cond (b := false) (by kernel_rfl) (fun h => by cases h) (fun _ => ?_)
  refine pwp_exit <| pwp_sim (wk (l := [(10, (.ref 3 0)), (11, (vi 14)), (12, (vin 0)), (15, (.ref 4 0)), (16, (.ref 5 0)), (21, (vin 2)), (146, (vl 82 1 enc_sl_82 [y4, y5, y6])), (147, (vin 3)), (148, (vin 2)), (153, (vl 67 4 encR y6)), (154, (vin 3)), (155, (vin 3)), (156, (vb false))]) (b := [(3, some y1), (4, some (bx (encA31 y3))), (5, some (bx (encI (ofZ e8))))])) ?_
  refine kx [(148, (vin 3))] [] (zE (oAd 3 (hr := by decide)) <| zM <| zZ) ?_
  refine pwp_again (SimImp.refl _) ?_
  refine pwp_seq <| kx [(149, (vb false))] [] (zE (oBk false oLt) <| zZ) ?_
  refine pwp_seq <| pwp_cond (b := false) (by kernel_rfl) (fun h => by cases h) (fun _ => ?_)
  refine pwp_exit <| pwp_seq <| kx [(28, (.ref 42 0)), (29, (vb false))] [(42, some y1)] (zR (oLa sh32) <| zE (oCl (l_reduceS y3 w0 w1 w2 w3 w4 w5 w6 w7 w8 (iu bn7) (iu bn8) (iu bn9) (iu bn10) (iu bn11) (iu bn12) (iu bn13) (iu bn14) (iu bn15) hnz hd)) <| zM <| zE oEx <| zE oEx <| zN (oAl 42 ze32 zo32) <| zT (oSt sh32) <| zM <| zZ) ?_
  refine pwp_seq <| kx [] [(4, some y1)] (zR (oLa sh32) <| zT (oSt sh32) <| zZ) ?_
  refine pwp_seq <| kx [(186, (vb true))] [] (zM <| zE oNt <| zZ) ?_
  refine pwp_cond (b := true) (by kernel_rfl) (fun _ => ?_) (fun h => by cases h)
  refine kx [(12, (vin 14))] [] (zM <| zZ) ?_
  refine pwp_seq <| pwp_seq <| kx [(188, (vb true))] [] (zM <| zE oNe <| zZ) ?_
  refine pwp_cond (b := true) (by kernel_rfl) (fun _ => ?_) (fun h => by cases h)
  refine pwp_seq <| kx [(6, (vb true))] [] (zM <| zM <| zE oEq <| zM <| zE (e_slv (by exact rfl) ar32 (by exact rfl) (by kernel_rfl) (by kernel_rfl)) <| zR ⟨y1, e_clv (es := List.map encI y2) (l_empty 1000000 y2 [0, 0, 0, 0, 0, 0, 0, 0, 0] (.cons (iu iok_zero) (.cons (iu iok_zero) (.cons (iu iok_zero) (.cons (iu iok_zero) (.cons (iu iok_zero) (.cons (iu iok_zero) (.cons (iu iok_zero) (.cons (iu iok_zero) (.cons (iu iok_zero) .nil))))))))) (Nat.le_of_ble_eq_true rfl) (allnil_of rfl)) (by exact rfl) (by kernel_rfl) (by exact rfl) (.v .nil) (pubs_cells _ _ (fun _ => rfl)) (by kernel_rfl) (by kernel_rfl) (.val _), by kernel_rfl⟩ <| zE oPt <| zM <| zZ) ?_
  refine pwp_ret ⟨_, (.tmp (d := (.val (.bool (true)))) rfl .nil), ?_⟩
  rfl
set_option maxHeartbeats 4000000 in
theorem w_frmZ (h : A9 RInt) (h0 h1 h2 h3 h4 h5 h6 h7 h8 : Int) (hh0 : IOk h.a0 h0 4) (hh1 : IOk h.a1 h1 4) (hh2 : IOk h.a2 h2 4) (hh3 : IOk h.a3 h3 4) (hh4 : IOk h.a4 h4 4) (hh5 : IOk h.a5 h5 4) (hh6 : IOk h.a6 h6 4) (hh7 : IOk h.a7 h7 4) (hh8 : IOk h.a8 h8 4) (p : A3 RInt) (p0 p1 p2 : Int) (hp0 : IOk p.a0 p0 4) (hp1 : IOk p.a1 p1 4) (hp2 : IOk p.a2 p2 4) (n0 d0 n1 d1 n2 d2 n3 d3 n4 d4 n5 d5 n6 d6 n7 d7 n8 d8 : Int) (hn0 : IOk (ofZ n0) n0 8) (hd0 : IOk (ofZ d0) d0 8) (hn1 : IOk (ofZ n1) n1 8) (hd1 : IOk (ofZ d1) d1 8) (hn2 : IOk (ofZ n2) n2 8) (hd2 : IOk (ofZ d2) d2 8) (hn3 : IOk (ofZ n3) n3 8) (hd3 : IOk (ofZ d3) d3 8) (hn4 : IOk (ofZ n4) n4 8) (hd4 : IOk (ofZ d4) d4 8) (hn5 : IOk (ofZ n5) n5 8) (hd5 : IOk (ofZ d5) d5 8) (hn6 : IOk (ofZ n6) n6 8) (hd6 : IOk (ofZ d6) d6 8) (hn7 : IOk (ofZ n7) n7 8) (hd7 : IOk (ofZ d7) d7 8) (hn8 : IOk (ofZ n8) n8 8) (hd8 : IOk (ofZ d8) d8 8) (hm : MatOk 8 [[(RRat.mk (ofZ n0) (ofZ d0)), (RRat.mk (ofZ n1) (ofZ d1)), (RRat.mk (ofZ n2) (ofZ d2))], [(RRat.mk (ofZ n3) (ofZ d3)), (RRat.mk (ofZ n4) (ofZ d4)), (RRat.mk (ofZ n5) (ofZ d5))], [(RRat.mk (ofZ n6) (ofZ d6)), (RRat.mk (ofZ n7) (ofZ d7)), (RRat.mk (ofZ n8) (ofZ d8))]]) (e0 : Int) (he0 : (1 * d0) = e0) (e1 : Int) (he1 : (e0 * d1) = e1) (e2 : Int) (he2 : (e1 * d2) = e2) (e3 : Int) (he3 : (e2 * d3) = e3) (e4 : Int) (he4 : (e3 * d4) = e4) (e5 : Int) (he5 : (e4 * d5) = e5) (e6 : Int) (he6 : (e5 * d6) = e6) (e7 : Int) (he7 : (e6 * d7) = e7) (e8 : Int) (he8 : (e7 * d8) = e8) (w0 : Int) (hw0 : ((e8.fdiv d0) * n0) = w0) (w1 : Int) (hw1 : ((e8.fdiv d1) * n1) = w1) (w2 : Int) (hw2 : ((e8.fdiv d2) * n2) = w2) (w3 : Int) (hw3 : ((e8.fdiv d3) * n3) = w3) (w4 : Int) (hw4 : ((e8.fdiv d4) * n4) = w4) (w5 : Int) (hw5 : ((e8.fdiv d5) * n5) = w5) (w6 : Int) (hw6 : ((e8.fdiv d6) * n6) = w6) (w7 : Int) (hw7 : ((e8.fdiv d7) * n7) = w7) (w8 : Int) (hw8 : ((e8.fdiv d8) * n8) = w8) (hb0 : List.all [h.a0, h.a1, h.a2, h.a3, h.a4, h.a5, h.a6, h.a7, h.a8] short4 = true) (hb1 : List.all [p.a0, p.a1, p.a2] short4 = true) (hs : shortMat [[(RRat.mk (ofZ n0) (ofZ d0)), (RRat.mk (ofZ n1) (ofZ d1)), (RRat.mk (ofZ n2) (ofZ d2))], [(RRat.mk (ofZ n3) (ofZ d3)), (RRat.mk (ofZ n4) (ofZ d4)), (RRat.mk (ofZ n5) (ofZ d5))], [(RRat.mk (ofZ n6) (ofZ d6)), (RRat.mk (ofZ n7) (ofZ d7)), (RRat.mk (ofZ n8) (ofZ d8))]] = true) (hv0 : validR (RRat.mk (ofZ n0) (ofZ d0)) = true) (hv1 : validR (RRat.mk (ofZ n1) (ofZ d1)) = true) (hv2 : validR (RRat.mk (ofZ n2) (ofZ d2)) = true) (hv3 : validR (RRat.mk (ofZ n3) (ofZ d3)) = true) (hv4 : validR (RRat.mk (ofZ n4) (ofZ d4)) = true) (hv5 : validR (RRat.mk (ofZ n5) (ofZ d5)) = true) (hv6 : validR (RRat.mk (ofZ n6) (ofZ d6)) = true) (hv7 : validR (RRat.mk (ofZ n7) (ofZ d7)) = true) (hv8 : validR (RRat.mk (ofZ n8) (ofZ d8)) = true) (hz0 : d0 ≠ 0) (hz1 : d1 ≠ 0) (hz2 : d2 ≠ 0) (hz3 : d3 ≠ 0) (hz4 : d4 ≠ 0) (hz5 : d5 ≠ 0) (hz6 : d6 ≠ 0) (hz7 : d7 ≠ 0) (hz8 : d8 ≠ 0) (hr0 : vRow [(RRat.mk (ofZ n0) (ofZ d0)), (RRat.mk (ofZ n1) (ofZ d1)), (RRat.mk (ofZ n2) (ofZ d2))] = true) (hr1 : vRow [(RRat.mk (ofZ n3) (ofZ d3)), (RRat.mk (ofZ n4) (ofZ d4)), (RRat.mk (ofZ n5) (ofZ d5))] = true) (hr2 : vRow [(RRat.mk (ofZ n6) (ofZ d6)), (RRat.mk (ofZ n7) (ofZ d7)), (RRat.mk (ofZ n8) (ofZ d8))] = true) (hq0 : (e8 * n0).fdiv d0 = w0) (hq1 : (e8 * n1).fdiv d1 = w1) (hq2 : (e8 * n2).fdiv d2 = w2) (hq3 : (e8 * n3).fdiv d3 = w3) (hq4 : (e8 * n4).fdiv d4 = w4) (hq5 : (e8 * n5).fdiv d5 = w5) (hq6 : (e8 * n6).fdiv d6 = w6) (hq7 : (e8 * n7).fdiv d7 = w7) (hq8 : (e8 * n8).fdiv d8 = w8) (hnz : sgnL [w0, w1, w2, w3, w4, w5, w6, w7, w8] = 0) (hd : signI (det3 w0 w1 w2 w3 w4 w5 w6 w7 w8) = 0) : Takes Tryz.prog 8 [(encA31 h), (encA43 p), (.sl 82 1 (List.map enc_sl_82 [[(RRat.mk (ofZ n0) (ofZ d0)), (RRat.mk (ofZ n1) (ofZ d1)), (RRat.mk (ofZ n2) (ofZ d2))], [(RRat.mk (ofZ n3) (ofZ d3)), (RRat.mk (ofZ n4) (ofZ d4)), (RRat.mk (ofZ n5) (ofZ d5))], [(RRat.mk (ofZ n6) (ofZ d6)), (RRat.mk (ofZ n7) (ofZ d7)), (RRat.mk (ofZ n8) (ofZ d8))]]))] (.val (.bool (true))) := by
  let y6 := [(RRat.mk (ofZ n6) (ofZ d6)), (RRat.mk (ofZ n7) (ofZ d7)), (RRat.mk (ofZ n8) (ofZ d8))]
  let y5 := [(RRat.mk (ofZ n3) (ofZ d3)), (RRat.mk (ofZ n4) (ofZ d4)), (RRat.mk (ofZ n5) (ofZ d5))]
  let y4 := [(RRat.mk (ofZ n0) (ofZ d0)), (RRat.mk (ofZ n1) (ofZ d1)), (RRat.mk (ofZ n2) (ofZ d2))]
  let y3 := (A9.mk (ofZ w0) (ofZ w1) (ofZ w2) (ofZ w3) (ofZ w4) (ofZ w5) (ofZ w6) (ofZ w7) (ofZ w8))
  let y2 := [(RInt.mk false []), (RInt.mk false []), (RInt.mk false []), (RInt.mk false []), (RInt.mk false []), (RInt.mk false []), (RInt.mk false []), (RInt.mk false []), (RInt.mk false [])]
  let y1 := (bx (encA31 (A9.mk (RInt.mk false []) (RInt.mk false []) (RInt.mk false []) (RInt.mk false []) (RInt.mk false []) (RInt.mk false []) (RInt.mk false []) (RInt.mk false []) (RInt.mk false []))))
  refine fn_intro Tryz.func8 rfl cb8 rfl ?_
  show PWp _ _ _ _ ⟨[(0, (.d (encA31 h))), (1, (.d (encA43 p))), (2, (vl 82 1 enc_sl_82 [y4, y5, y6]))], []⟩
  refine pwp_seq <| kx [(3, (.ref 0 0)), (4, (.ref 1 0))] [(0, some (bx (encA31 h))), (1, some (bx (encA43 p)))] (zN (oBx 0) <| zN (oBx 1) <| zM <| zZ) ?_
  refine pwp_seq <| pwp_seq <| kx [(31, (vb false))] [] (zE (oCl l_known27) <| zE oNt <| zZ) ?_
  refine pwp_cond (b := false) (by kernel_rfl) (fun h => by cases h) (fun _ => ?_)
  refine pwp_skip <| pwp_seq <| pwp_seq <| kd [(42, (vb false))] [] mo (wR (oLa sh32) <| wE (oCl (l_map1 h h0 h1 h2 h3 h4 h5 h6 h7 h8 (iu hh0) (iu hh1) (iu hh2) (iu hh3) (iu hh4) (iu hh5) (iu hh6) (iu hh7) (iu hh8))) <| wR (oLa sh44) <| wE (oBs el65 ze44 zo44) <| wE (oCl (l_briefT11 h h0 h1 h2 h3 h4 h5 h6 h7 h8 (iu hh0) (iu hh1) (iu hh2) (iu hh3) (iu hh4) (iu hh5) (iu hh6) (iu hh7) (iu hh8) p p0 p1 p2 (iu hp0) (iu hp1) (iu hp2) hb0 hb1)) <| wE oNt <| wM <| wM <| wE (oBk true (oCl (g_shortM8 [y4, y5, y6] (mat_up hm (by decide)))) (by exact hs)) <| wE oNt <| wE oPf <| wZ) ?_
  refine pwp_cond (b := false) (by kernel_rfl) (fun h => by cases h) (fun _ => ?_)
  refine pwp_skip <| pwp_seq <| kx [(7, (vb (valH [h.a0, h.a1, h.a2, h.a3, h.a4, h.a5, h.a6, h.a7, h.a8] (det3 h0 h1 h2 h3 h4 h5 h6 h7 h8))))] [] (zR (oLa sh32) <| zE (oCl (l_valid h h0 h1 h2 h3 h4 h5 h6 h7 h8 (iu hh0) (iu hh1) (iu hh2) (iu hh3) (iu hh4) (iu hh5) (iu hh6) (iu hh7) (iu hh8))) <| zM <| zZ) ?_
  refine pwp_seq <| pwp_seq <| kd [(71, (vb false))] [] mo ?_ ?_
  · refine wR (oLa sh32) <| wE (oCl (d_valid h h0 h1 h2 h3 h4 h5 h6 h7 h8 (iu hh0) (iu hh1) (iu hh2) (iu hh3) (iu hh4) (iu hh5) (iu hh6) (iu hh7) (iu hh8))) <| wM <| wE (oBk false (oNb bo4) (by exact congrArg (!·) (beq_self_eq_true _))) <| wM <| wR (oLa sh44) <| wE (oCl (d_proper p p0 p1 p2 (iu hp0) (iu hp1) (iu hp2))) <| wR (oLa sh44) <| wE (oCl (l_proper p p0 p1 p2 (iu hp0) (iu hp1) (iu hp2))) <| wE (oBk false (oNb bo4) (by exact congrArg (!·) (beq_self_eq_true _))) <| wE oPf <| wM <| wR (oLa sh32) <| wE (oCl (d_affine h h0 h1 h2 h3 h4 h5 h6 h7 h8 (iu hh0) (iu hh1) (iu hh2) (iu hh3) (iu hh4) (iu hh5) (iu hh6) (iu hh7) (iu hh8))) <| wM <| wE (oV (vb (valH [h.a0, h.a1, h.a2, h.a3, h.a4, h.a5, h.a6, h.a7, h.a8] (det3 h0 h1 h2 h3 h4 h5 h6 h7 h8))) (mv_ok (by kernel_rfl))) <| ?_
    rcases hb1 : (valH [h.a0, h.a1, h.a2, h.a3, h.a4, h.a5, h.a6, h.a7, h.a8] (det3 h0 h1 h2 h3 h4 h5 h6 h7 h8)) with _ | _
    · exact wK <| wK <| wK <| wE oPf <| wM <| wK <| wK <| wK <| wE oPf <| wE (oBk false (oNb bo4) (by simp)) <| wE oPf <| wZ
    · refine wE (oXr ar32 6) <| wR (oLa sh30) <| wE (oCl (l_zero h.a6 h6 (iu hh6))) <| wE oPa <| wE (oV (vb (true && (signI h6 == 0))) (mv_ok (by kernel_rfl))) <| ?_
      rcases hb2 : (true && (signI h6 == 0)) with _ | _
      · exact wK <| wK <| wK <| wE oPf <| wE (oBk false (oNb bo4) (by simp)) <| wE oPf <| wZ
      · exact wE (oXr ar32 7) <| wR (oLa sh30) <| wE (oCl (l_zero h.a7 h7 (iu hh7))) <| wE oPa <| wE (oBk false (oNb bo4) (by simp)) <| wE oPf <| wZ
  refine pwp_cond (b := false) (by kernel_rfl) (fun h => by cases h) (fun _ => ?_)
  refine pwp_skip <| pwp_seq ?_
  have bn1 : ∀ c ∈ [1, 0, 0, 0, 1, 0, 0, 0, 1], IOk (ofZ c) c 1 := red_iok (n := 1) (.cons (iok_small (z := 1) (by decide)) (.cons (iok_small (z := 0) (by decide)) (.cons (iok_small (z := 0) (by decide)) (.cons (iok_small (z := 0) (by decide)) (.cons (iok_small (z := 1) (by decide)) (.cons (iok_small (z := 0) (by decide)) (.cons (iok_small (z := 0) (by decide)) (.cons (iok_small (z := 0) (by decide)) (.cons (iok_small (z := 1) (by decide)) .nil))))))))) (by decide +kernel)
  refine kx [(8, (.ref 2 0))] [(2, some (bx (encA31 (A9.mk (ofZ 1) (ofZ 0) (ofZ 0) (ofZ 0) (ofZ 1) (ofZ 0) (ofZ 0) (ofZ 0) (ofZ 1)))))] (zE (oBf ar80 ze80 zo80) <| zE (oCl (l_made ((1 : Nat) : Int) ((0 : Nat) : Int) ((0 : Nat) : Int) ((0 : Nat) : Int) ((1 : Nat) : Int) ((0 : Nat) : Int) ((0 : Nat) : Int) ((0 : Nat) : Int) ((1 : Nat) : Int) (by omega) (by omega) (by omega) (by omega) (by omega) (by omega) (by omega) (by omega) (by omega) 1 0 0 0 1 0 0 0 1 (by decide +kernel) (by decide +kernel) (by decide +kernel))) <| zM <| zE oEx <| zE oEx <| zN (oAl 2 ze32 zo32) <| zT (oSt sh32) <| zM <| zZ) ?_
  refine pwp_seq <| pwp_seq <| kd [(80, (vb false))] [] mo (wE (oCl d_ident) <| wR (oLa sh32) <| wE (oCl (l_sameT9 (A9.mk (ofZ 1) (ofZ 0) (ofZ 0) (ofZ 0) (ofZ 1) (ofZ 0) (ofZ 0) (ofZ 0) (ofZ 1)) 1 0 0 0 1 0 0 0 1 (iok_up (iok_small (z := 1) (by decide)) (by decide)) (iok_up (iok_small (z := 0) (by decide)) (by decide)) (iok_up (iok_small (z := 0) (by decide)) (by decide)) (iok_up (iok_small (z := 0) (by decide)) (by decide)) (iok_up (iok_small (z := 1) (by decide)) (by decide)) (iok_up (iok_small (z := 0) (by decide)) (by decide)) (iok_up (iok_small (z := 0) (by decide)) (by decide)) (iok_up (iok_small (z := 0) (by decide)) (by decide)) (iok_up (iok_small (z := 1) (by decide)) (by decide)) (A9.mk (ofZ 1) (ofZ 0) (ofZ 0) (ofZ 0) (ofZ 1) (ofZ 0) (ofZ 0) (ofZ 0) (ofZ 1)) 1 0 0 0 1 0 0 0 1 (iok_up (bn1 1 (by simp)) (by decide)) (iok_up (bn1 0 (by simp)) (by decide)) (iok_up (bn1 0 (by simp)) (by decide)) (iok_up (bn1 0 (by simp)) (by decide)) (iok_up (bn1 1 (by simp)) (by decide)) (iok_up (bn1 0 (by simp)) (by decide)) (iok_up (bn1 0 (by simp)) (by decide)) (iok_up (bn1 0 (by simp)) (by decide)) (iok_up (bn1 1 (by simp)) (by decide)) (validI_ofZ _) (validI_ofZ _) (validI_ofZ _) (validI_ofZ _) (validI_ofZ _) (validI_ofZ _) (validI_ofZ _) (validI_ofZ _) (validI_ofZ _) (sameI_self _) (sameI_self _) (sameI_self _) (sameI_self _) (sameI_self _) (sameI_self _) (sameI_self _) (sameI_self _) (sameI_self _))) <| wE oNt <| wZ) ?_
  refine pwp_cond (b := false) (by kernel_rfl) (fun h => by cases h) (fun _ => ?_)
  refine pwp_skip <| pwp_seq ?_
  have bn2 : IOk (ofZ e0) e0 9 := (iok_eqz he0.symm (iok_mul (k := 9) (iok_small (z := 1) (by decide)) hd0 (by decide)))
  have bn3 : IOk (ofZ e2) e2 25 := (iok_eqz he2.symm (iok_mul (k := 25) (iok_eqz he1.symm (iok_mul (k := 17) bn2 hd1 (by decide))) hd2 (by decide)))
  have bn4 : IOk (ofZ e4) e4 41 := (iok_eqz he4.symm (iok_mul (k := 41) (iok_eqz he3.symm (iok_mul (k := 33) bn3 hd3 (by decide))) hd4 (by decide)))
  have bn5 : IOk (ofZ e6) e6 57 := (iok_eqz he6.symm (iok_mul (k := 57) (iok_eqz he5.symm (iok_mul (k := 49) bn4 hd5 (by decide))) hd6 (by decide)))
  have bn6 : IOk (ofZ e8) e8 73 := (iok_eqz he8.symm (iok_mul (k := 73) (iok_eqz he7.symm (iok_mul (k := 65) bn5 hd7 (by decide))) hd8 (by decide)))
  have bn7 : IOk (ofZ w0) w0 82 := (iok_eqz hw0.symm (iok_mul (k := 82) (iok_fdiv (k := 74) bn6 hd0 (by decide)) hn0 (by decide)))
  have bn8 : IOk (ofZ w1) w1 82 := (iok_eqz hw1.symm (iok_mul (k := 82) (iok_fdiv (k := 74) bn6 hd1 (by decide)) hn1 (by decide)))
  have bn9 : IOk (ofZ w2) w2 82 := (iok_eqz hw2.symm (iok_mul (k := 82) (iok_fdiv (k := 74) bn6 hd2 (by decide)) hn2 (by decide)))
  have bn10 : IOk (ofZ w3) w3 82 := (iok_eqz hw3.symm (iok_mul (k := 82) (iok_fdiv (k := 74) bn6 hd3 (by decide)) hn3 (by decide)))
  have bn11 : IOk (ofZ w4) w4 82 := (iok_eqz hw4.symm (iok_mul (k := 82) (iok_fdiv (k := 74) bn6 hd4 (by decide)) hn4 (by decide)))
  have bn12 : IOk (ofZ w5) w5 82 := (iok_eqz hw5.symm (iok_mul (k := 82) (iok_fdiv (k := 74) bn6 hd5 (by decide)) hn5 (by decide)))
  have bn13 : IOk (ofZ w6) w6 82 := (iok_eqz hw6.symm (iok_mul (k := 82) (iok_fdiv (k := 74) bn6 hd6 (by decide)) hn6 (by decide)))
  have bn14 : IOk (ofZ w7) w7 82 := (iok_eqz hw7.symm (iok_mul (k := 82) (iok_fdiv (k := 74) bn6 hd7 (by decide)) hn7 (by decide)))
  have bn15 : IOk (ofZ w8) w8 82 := (iok_eqz hw8.symm (iok_mul (k := 82) (iok_fdiv (k := 74) bn6 hd8 (by decide)) hn8 (by decide)))
  refine kx [(10, (.ref 3 0)), (11, (vi 14))] [(3, some y1)] (zM <| zE (oCl (d_ofS n0 d0 n1 d1 n2 d2 n3 d3 n4 d4 n5 d5 n6 d6 n7 d7 n8 d8 hn0 hd0 hn1 hd1 hn2 hd2 hn3 hd3 hn4 hd4 hn5 hd5 hn6 hd6 hn7 hd7 hn8 hd8 hm e0 he0 e1 he1 e2 he2 e3 he3 e4 he4 e5 he5 e6 he6 e7 he7 e8 he8 w0 hw0 w1 hw1 w2 hw2 w3 hw3 w4 hw4 w5 hw5 w6 hw6 w7 hw7 w8 hw8 hv0 hv1 hv2 hv3 hv4 hv5 hv6 hv7 hv8 hz0 hz1 hz2 hz3 hz4 hz5 hz6 hz7 hz8 hd)) <| zM <| zE oEx <| zE oEx <| zN (oAl 3 ze32 zo32) <| zT (oSt sh32) <| zM <| zZ) ?_
  refine pwp_seq <| kx [(12, (vin 0))] [] (zM <| zZ) ?_
  refine pwp_seq <| pwp_seq <| kx [(86, (vl 82 1 enc_sl_82 [y4, y5, y6])), (87, (vin 3)), (88, (vin 0))] [] (zM <| zE (oLn el76 3 (hr := rfl)) <| zM <| zZ) ?_
  refine pwp_block <| pwp_rounds 20 ?_
  refine pwp_round <| pwp_seq <| kx [(89, (vb true))] [] (zE (oBk true oLt) <| zZ) ?_
  refine pwp_seq <| pwp_cond (b := true) (by kernel_rfl) (fun _ => ?_) (fun h => by cases h)
  refine pwp_skip <| pwp_seq <| pwp_block <| pwp_seq <| kx [(14, (vl 67 4 encR y4))] [] (zE (oXs el76 0) <| zE (oC1 sh82) <| zM <| zZ) ?_
  refine pwp_seq <| kx [(94, (vb false))] [] (zM <| zE (oBk true (oCl (g_validL y4 (hm.1 _ (.head _)))) (by exact hr0)) <| zE oNt <| zZ) ?_
  refine pwp_cond (b := false) (by kernel_rfl) (fun h => by cases h) (fun _ => ?_)
  refine pwp_skip <| kx [(88, (vin 1))] [] (zE (oAd 1 (hr := by decide)) <| zM <| zZ) ?_
  refine pwp_again (SimImp.refl _) ?_
  refine pwp_seq <| pwp_sim (wk (l := [(2, (vl 82 1 enc_sl_82 [y4, y5, y6])), (10, (.ref 3 0)), (11, (vi 14)), (12, (vin 0)), (86, (vl 82 1 enc_sl_82 [y4, y5, y6])), (87, (vin 3)), (88, (vin 1))]) (b := [(3, some y1)])) ?_
  refine kx [(89, (vb true))] [] (zE (oBk true oLt) <| zZ) ?_
  refine pwp_seq <| pwp_cond (b := true) (by kernel_rfl) (fun _ => ?_) (fun h => by cases h)
  refine pwp_skip <| pwp_seq <| pwp_block <| pwp_seq <| kx [(14, (vl 67 4 encR y5))] [] (zE (oXs el76 1) <| zE (oC1 sh82) <| zM <| zZ) ?_
  refine pwp_seq <| kx [(94, (vb false))] [] (zM <| zE (oBk true (oCl (g_validL y5 (hm.1 _ (.tail _ (.head _))))) (by exact hr1)) <| zE oNt <| zZ) ?_
  refine pwp_cond (b := false) (by kernel_rfl) (fun h => by cases h) (fun _ => ?_)
  refine pwp_skip <| kx [(88, (vin 2))] [] (zE (oAd 2 (hr := by decide)) <| zM <| zZ) ?_
  refine pwp_again (SimImp.refl _) ?_
  refine pwp_seq <| kx [(89, (vb true))] [] (zE (oBk true oLt) <| zZ) ?_
  refine pwp_seq <| pwp_cond (b := true) (by kernel_rfl) (fun _ => ?_) (fun h => by cases h)
  refine pwp_skip <| pwp_seq <| pwp_block <| pwp_seq <| kx [(14, (vl 67 4 encR y6))] [] (zE (oXs el76 2) <| zE (oC1 sh82) <| zM <| zZ) ?_
  refine pwp_seq <| kx [(94, (vb false))] [] (zM <| zE (oBk true (oCl (g_validL y6 (hm.1 _ (.tail _ (.tail _ (.head _)))))) (by exact hr2)) <| zE oNt <| zZ) ?_
  refine pwp_cond (b := false) (by kernel_rfl) (fun h => by cases h) (fun _ => ?_)
  refine pwp_skip <| kx [(88, (vin 3))] [] (zE (oAd 3 (hr := by decide)) <| zM <| zZ) ?_
  refine pwp_again (SimImp.refl _) ?_
  refine pwp_seq <| kx [(89, (vb false))] [] (zE (oBk false oLt) <| zZ) ?_
  refine pwp_seq <| pwp_cond (b := false) (by kernel_rfl) (fun h => by cases h) (fun _ => ?_)
  refine pwp_exit <| pwp_seq <| pwp_seq <| kx [(123, (vb false))] [] (zM <| zE oEq <| zM <| zM <| zE (oLn el76 3 (hr := rfl)) <| zE oNe <| zM <| zM <| zE (oXs el76 0) <| zE (oC1 sh82) <| zE (oLn el82 3 (hr := rfl)) <| zE oNe <| zE oPf <| zM <| zM <| zE (oXs el76 1) <| zE (oC1 sh82) <| zE (oLn el82 3 (hr := rfl)) <| zE oNe <| zE oPf <| zM <| zM <| zE (oXs el76 2) <| zE (oC1 sh82) <| zE (oLn el82 3 (hr := rfl)) <| zE oNe <| zE oPf <| zE oPt <| zZ) ?_
  refine pwp_cond (b := false) (by kernel_rfl) (fun h => by cases h) (fun _ => ?_)
  refine pwp_skip <| pwp_seq <| kx [(15, (.ref 4 0))] [(4, some y1)] (zE (oBa ar32 ze32 zo32) <| zN (oAl 4 ze32 zo32) <| zT (oSt sh32) <| zZ) ?_
  refine pwp_seq <| pwp_seq <| kx [(126, (vb true))] [] (zM <| zE oEq <| zZ) ?_
  refine pwp_cond (b := true) (by kernel_rfl) (fun _ => ?_) (fun h => by cases h)
  refine pwp_seq <| kx [(16, (.ref 5 0))] [(5, some (bx (encI (ofZ 1))))] (zE (oCl (l_wholeI 1 (by decide) (by decide))) <| zN (oAl 5 ze30 zo30) <| zT (oSt sh30) <| zZ) ?_
  refine pwp_seq <| pwp_seq <| kx [(128, (vl 82 1 enc_sl_82 [y4, y5, y6])), (129, (vin 3)), (130, (vin 0))] [] (zM <| zE (oLn el76 3 (hr := rfl)) <| zM <| zZ) ?_
  refine pwp_block <| pwp_rounds 20 ?_
  refine pwp_round <| pwp_seq <| pwp_sim (wk (l := [(2, (vl 82 1 enc_sl_82 [y4, y5, y6])), (10, (.ref 3 0)), (11, (vi 14)), (12, (vin 0)), (15, (.ref 4 0)), (16, (.ref 5 0)), (128, (vl 82 1 enc_sl_82 [y4, y5, y6])), (129, (vin 3)), (130, (vin 0))]) (b := [(3, some y1), (4, some y1), (5, some (bx (encI (ofZ 1))))])) ?_
  refine kx [(131, (vb true))] [] (zE (oBk true oLt) <| zZ) ?_
  refine pwp_seq <| pwp_cond (b := true) (by kernel_rfl) (fun _ => ?_) (fun h => by cases h)
  refine pwp_skip <| pwp_seq <| pwp_block <| pwp_seq <| kx [(18, (vl 67 4 encR y4))] [] (zE (oXs el76 0) <| zE (oC1 sh82) <| zM <| zZ) ?_
  refine pwp_seq <| kx [(134, (vl 67 4 encR y4)), (135, (vin 3)), (136, (vin 0))] [] (zM <| zE (oLn el82 3 (hr := rfl)) <| zM <| zZ) ?_
  refine pwp_block <| pwp_rounds 20 ?_
  refine pwp_round <| pwp_seq <| kx [(137, (vb true))] [] (zE (oBk true oLt) <| zZ) ?_
  refine pwp_seq <| pwp_cond (b := true) (by kernel_rfl) (fun _ => ?_) (fun h => by cases h)
  refine pwp_skip <| pwp_seq <| pwp_block <| pwp_seq <| kx [(20, (.ref 6 0))] [(6, some (bx (encR (RRat.mk (ofZ n0) (ofZ d0)))))] (zE (oXs el82 0) <| zE (oCa sh67) <| zN (oAl 6 ze67 zo67) <| zT (oSt sh67) <| zZ) ?_
  refine kx [] [(5, some (bx (encI (ofZ e0))))] (zR (oLa sh30) <| zE (oFr fo67_1) <| zR (oLa sh30) <| zE (oCl (by have h := l_times (ofZ 1) 1 (iok_up (iok_small (z := 1) (by decide)) (by decide)) (ofZ d0) d0 (iu hd0); rw [he0] at h; exact h)) <| zT (oSt sh30) <| zZ) ?_
  refine kx [(136, (vin 1))] [] (zE (oAd 1 (hr := by decide)) <| zM <| zZ) ?_
  refine pwp_again (SimImp.refl _) ?_
  refine pwp_seq <| kx [(137, (vb true))] [] (zE (oBk true oLt) <| zZ) ?_
  refine pwp_seq <| pwp_cond (b := true) (by kernel_rfl) (fun _ => ?_) (fun h => by cases h)
  refine pwp_skip <| pwp_seq <| pwp_block <| pwp_seq <| kx [(20, (.ref 7 0))] [(7, some (bx (encR (RRat.mk (ofZ n1) (ofZ d1)))))] (zE (oXs el82 1) <| zE (oCa sh67) <| zN (oAl 7 ze67 zo67) <| zT (oSt sh67) <| zZ) ?_
  have bn16 : IOk (ofZ e1) e1 17 := (iok_eqz he1.symm (iok_mul (k := 17) bn2 hd1 (by decide)))
  refine kx [] [(5, some (bx (encI (ofZ e1))))] (zR (oLa sh30) <| zE (oFr fo67_1) <| zR (oLa sh30) <| zE (oCl (by have h := l_times (ofZ e0) e0 (iu bn2) (ofZ d1) d1 (iu hd1); rw [he1] at h; exact h)) <| zT (oSt sh30) <| zZ) ?_
  refine kx [(136, (vin 2))] [] (zE (oAd 2 (hr := by decide)) <| zM <| zZ) ?_
  refine pwp_again (SimImp.refl _) ?_
  refine pwp_seq <| kx [(137, (vb true))] [] (zE (oBk true oLt) <| zZ) ?_
  refine pwp_seq <| pwp_cond (b := true) (by kernel_rfl) (fun _ => ?_) (fun h => by cases h)
  refine pwp_skip <| pwp_seq <| pwp_block <| pwp_seq <| kx [(20, (.ref 8 0))] [(8, some (bx (encR (RRat.mk (ofZ n2) (ofZ d2)))))] (zE (oXs el82 2) <| zE (oCa sh67) <| zN (oAl 8 ze67 zo67) <| zT (oSt sh67) <| zZ) ?_
  refine kx [] [(5, some (bx (encI (ofZ e2))))] (zR (oLa sh30) <| zE (oFr fo67_1) <| zR (oLa sh30) <| zE (oCl (by have h := l_times (ofZ e1) e1 (iu bn16) (ofZ d2) d2 (iu hd2); rw [he2] at h; exact h)) <| zT (oSt sh30) <| zZ) ?_
  refine pwp_sim (wk (l := [(2, (vl 82 1 enc_sl_82 [y4, y5, y6])), (10, (.ref 3 0)), (11, (vi 14)), (12, (vin 0)), (15, (.ref 4 0)), (16, (.ref 5 0)), (128, (vl 82 1 enc_sl_82 [y4, y5, y6])), (129, (vin 3)), (130, (vin 0)), (134, (vl 67 4 encR y4)), (135, (vin 3)), (136, (vin 2))]) (b := [(3, some y1), (4, some y1), (5, some (bx (encI (ofZ e2))))])) ?_
  refine kx [(136, (vin 3))] [] (zE (oAd 3 (hr := by decide)) <| zM <| zZ) ?_
  refine pwp_again (SimImp.refl _) ?_
  refine pwp_seq <| kx [(137, (vb false))] [] (zE (oBk false oLt) <| zZ) ?_
  refine pwp_seq <| pwp_cond (b := false) (by kernel_rfl) (fun h => by cases h) (fun _ => ?_)
  refine pwp_exit <| kx [(130, (vin 1))] [] (zE (oAd 1 (hr := by decide)) <| zM <| zZ) ?_
  refine pwp_again (SimImp.refl _) ?_
  refine pwp_seq <| kx [(131, (vb true))] [] (zE (oBk true oLt) <| zZ) ?_
  refine pwp_seq <| pwp_cond (b := true) (by kernel_rfl) (fun _ => ?_) (fun h => by cases h)
  refine pwp_skip <| pwp_seq <| pwp_block <| pwp_seq <| kx [(18, (vl 67 4 encR y5))] [] (zE (oXs el76 1) <| zE (oC1 sh82) <| zM <| zZ) ?_
  refine pwp_seq <| kx [(134, (vl 67 4 encR y5)), (135, (vin 3)), (136, (vin 0))] [] (zM <| zE (oLn el82 3 (hr := rfl)) <| zM <| zZ) ?_
  refine pwp_block <| pwp_rounds 20 ?_
  refine pwp_round <| pwp_seq <| kx [(137, (vb true))] [] (zE (oBk true oLt) <| zZ) ?_
  refine pwp_seq <| pwp_cond (b := true) (by kernel_rfl) (fun _ => ?_) (fun h => by cases h)
  refine pwp_skip <| pwp_seq <| pwp_block <| pwp_seq <| kx [(20, (.ref 9 0))] [(9, some (bx (encR (RRat.mk (ofZ n3) (ofZ d3)))))] (zE (oXs el82 0) <| zE (oCa sh67) <| zN (oAl 9 ze67 zo67) <| zT (oSt sh67) <| zZ) ?_
  have bn17 : IOk (ofZ e3) e3 33 := (iok_eqz he3.symm (iok_mul (k := 33) bn3 hd3 (by decide)))
  refine kx [] [(5, some (bx (encI (ofZ e3))))] (zR (oLa sh30) <| zE (oFr fo67_1) <| zR (oLa sh30) <| zE (oCl (by have h := l_times (ofZ e2) e2 (iu bn3) (ofZ d3) d3 (iu hd3); rw [he3] at h; exact h)) <| zT (oSt sh30) <| zZ) ?_
  refine kx [(136, (vin 1))] [] (zE (oAd 1 (hr := by decide)) <| zM <| zZ) ?_
  refine pwp_again (SimImp.refl _) ?_
  refine pwp_seq <| kx [(137, (vb true))] [] (zE (oBk true oLt) <| zZ) ?_
  refine pwp_seq <| pwp_cond (b := true) (by kernel_rfl) (fun _ => ?_) (fun h => by cases h)
  refine pwp_skip <| pwp_seq <| pwp_block <| pwp_seq <| kx [(20, (.ref 10 0))] [(10, some (bx (encR (RRat.mk (ofZ n4) (ofZ d4)))))] (zE (oXs el82 1) <| zE (oCa sh67) <| zN (oAl 10 ze67 zo67) <| zT (oSt sh67) <| zZ) ?_
  refine kx [] [(5, some (bx (encI (ofZ e4))))] (zR (oLa sh30) <| zE (oFr fo67_1) <| zR (oLa sh30) <| zE (oCl (by have h := l_times (ofZ e3) e3 (iu bn17) (ofZ d4) d4 (iu hd4); rw [he4] at h; exact h)) <| zT (oSt sh30) <| zZ) ?_
  refine kx [(136, (vin 2))] [] (zE (oAd 2 (hr := by decide)) <| zM <| zZ) ?_
  refine pwp_again (SimImp.refl _) ?_
  refine pwp_seq <| pwp_sim (wk (l := [(2, (vl 82 1 enc_sl_82 [y4, y5, y6])), (10, (.ref 3 0)), (11, (vi 14)), (12, (vin 0)), (15, (.ref 4 0)), (16, (.ref 5 0)), (128, (vl 82 1 enc_sl_82 [y4, y5, y6])), (129, (vin 3)), (130, (vin 1)), (134, (vl 67 4 encR y5)), (135, (vin 3)), (136, (vin 2))]) (b := [(3, some y1), (4, some y1), (5, some (bx (encI (ofZ e4))))])) ?_
  refine kx [(137, (vb true))] [] (zE (oBk true oLt) <| zZ) ?_
  refine pwp_seq <| pwp_cond (b := true) (by kernel_rfl) (fun _ => ?_) (fun h => by cases h)
  refine pwp_skip <| pwp_seq <| pwp_block <| pwp_seq <| kx [(20, (.ref 11 0))] [(11, some (bx (encR (RRat.mk (ofZ n5) (ofZ d5)))))] (zE (oXs el82 2) <| zE (oCa sh67) <| zN (oAl 11 ze67 zo67) <| zT (oSt sh67) <| zZ) ?_
  have bn18 : IOk (ofZ e5) e5 49 := (iok_eqz he5.symm (iok_mul (k := 49) bn4 hd5 (by decide)))
  refine kx [] [(5, some (bx (encI (ofZ e5))))] (zR (oLa sh30) <| zE (oFr fo67_1) <| zR (oLa sh30) <| zE (oCl (by have h := l_times (ofZ e4) e4 (iu bn4) (ofZ d5) d5 (iu hd5); rw [he5] at h; exact h)) <| zT (oSt sh30) <| zZ) ?_
  refine kx [(136, (vin 3))] [] (zE (oAd 3 (hr := by decide)) <| zM <| zZ) ?_
  refine pwp_again (SimImp.refl _) ?_
  refine pwp_seq <| kx [(137, (vb false))] [] (zE (oBk false oLt) <| zZ) ?_
  refine pwp_seq <| pwp_cond (b := false) (by kernel_rfl) (fun h => by cases h) (fun _ => ?_)
  refine pwp_exit <| kx [(130, (vin 2))] [] (zE (oAd 2 (hr := by decide)) <| zM <| zZ) ?_
  refine pwp_again (SimImp.refl _) ?_
  refine pwp_seq <| kx [(131, (vb true))] [] (zE (oBk true oLt) <| zZ) ?_
  refine pwp_seq <| pwp_cond (b := true) (by kernel_rfl) (fun _ => ?_) (fun h => by cases h)
  refine pwp_skip <| pwp_seq <| pwp_block <| pwp_seq <| kx [(18, (vl 67 4 encR y6))] [] (zE (oXs el76 2) <| zE (oC1 sh82) <| zM <| zZ) ?_
  refine pwp_seq <| kx [(134, (vl 67 4 encR y6)), (135, (vin 3)), (136, (vin 0))] [] (zM <| zE (oLn el82 3 (hr := rfl)) <| zM <| zZ) ?_
  refine pwp_block <| pwp_rounds 20 ?_
  refine pwp_round <| pwp_seq <| kx [(137, (vb true))] [] (zE (oBk true oLt) <| zZ) ?_
  refine pwp_seq <| pwp_cond (b := true) (by kernel_rfl) (fun _ => ?_) (fun h => by cases h)
  refine pwp_skip <| pwp_seq <| pwp_block <| pwp_seq <| kx [(20, (.ref 12 0))] [(12, some (bx (encR (RRat.mk (ofZ n6) (ofZ d6)))))] (zE (oXs el82 0) <| zE (oCa sh67) <| zN (oAl 12 ze67 zo67) <| zT (oSt sh67) <| zZ) ?_
  refine kx [] [(5, some (bx (encI (ofZ e6))))] (zR (oLa sh30) <| zE (oFr fo67_1) <| zR (oLa sh30) <| zE (oCl (by have h := l_times (ofZ e5) e5 (iu bn18) (ofZ d6) d6 (iu hd6); rw [he6] at h; exact h)) <| zT (oSt sh30) <| zZ) ?_
  refine kx [(136, (vin 1))] [] (zE (oAd 1 (hr := by decide)) <| zM <| zZ) ?_
  refine pwp_again (SimImp.refl _) ?_
  refine pwp_seq <| kx [(137, (vb true))] [] (zE (oBk true oLt) <| zZ) ?_
  refine pwp_seq <| pwp_cond (b := true) (by kernel_rfl) (fun _ => ?_) (fun h => by cases h)
  refine pwp_skip <| pwp_seq <| pwp_block <| pwp_seq <| pwp_sim (wk (l := [(2, (vl 82 1 enc_sl_82 [y4, y5, y6])), (10, (.ref 3 0)), (11, (vi 14)), (12, (vin 0)), (15, (.ref 4 0)), (16, (.ref 5 0)), (128, (vl 82 1 enc_sl_82 [y4, y5, y6])), (129, (vin 3)), (130, (vin 2)), (134, (vl 67 4 encR y6)), (135, (vin 3)), (136, (vin 1)), (137, (vb true))]) (b := [(3, some y1), (4, some y1), (5, some (bx (encI (ofZ e6))))])) ?_
  refine kx [(20, (.ref 13 0))] [(13, some (bx (encR (RRat.mk (ofZ n7) (ofZ d7)))))] (zE (oXs el82 1) <| zE (oCa sh67) <| zN (oAl 13 ze67 zo67) <| zT (oSt sh67) <| zZ) ?_
  have bn19 : IOk (ofZ e7) e7 65 := (iok_eqz he7.symm (iok_mul (k := 65) bn5 hd7 (by decide)))
  refine kx [] [(5, some (bx (encI (ofZ e7))))] (zR (oLa sh30) <| zE (oFr fo67_1) <| zR (oLa sh30) <| zE (oCl (by have h := l_times (ofZ e6) e6 (iu bn5) (ofZ d7) d7 (iu hd7); rw [he7] at h; exact h)) <| zT (oSt sh30) <| zZ) ?_
  refine kx [(136, (vin 2))] [] (zE (oAd 2 (hr := by decide)) <| zM <| zZ) ?_
  refine pwp_again (SimImp.refl _) ?_
  refine pwp_seq <| kx [(137, (vb true))] [] (zE (oBk true oLt) <| zZ) ?_
  refine pwp_seq <| pwp_cond (b := true) (by kernel_rfl) (fun _ => ?_) (fun h => by cases h)
  refine pwp_skip <| pwp_seq <| pwp_block <| pwp_seq <| kx [(20, (.ref 14 0))] [(14, some (bx (encR (RRat.mk (ofZ n8) (ofZ d8)))))] (zE (oXs el82 2) <| zE (oCa sh67) <| zN (oAl 14 ze67 zo67) <| zT (oSt sh67) <| zZ) ?_
  refine kx [] [(5, some (bx (encI (ofZ e8))))] (zR (oLa sh30) <| zE (oFr fo67_1) <| zR (oLa sh30) <| zE (oCl (by have h := l_times (ofZ e7) e7 (iu bn19) (ofZ d8) d8 (iu hd8); rw [he8] at h; exact h)) <| zT (oSt sh30) <| zZ) ?_
  refine kx [(136, (vin 3))] [] (zE (oAd 3 (hr := by decide)) <| zM <| zZ) ?_
  refine pwp_again (SimImp.refl _) ?_
  refine pwp_seq <| kx [(137, (vb false))] [] (zE (oBk false oLt) <| zZ) ?_
  refine pwp_seq <| pwp_cond (b := false) (by kernel_rfl) (fun h => by cases h) (fun _ => ?_)
  refine pwp_exit <| kx [(130, (vin 3))] [] (zE (oAd 3 (hr := by decide)) <| zM <| zZ) ?_
  refine pwp_again (SimImp.refl _) ?_
  refine pwp_seq <| kx [(131, (vb false))] [] (zE (oBk false oLt) <| zZ) ?_
  refine pwp_seq <| pwp_cond (b := false) (by kernel_rfl) (fun h => by cases h) (fun _ => ?_)
  refine pwp_exit <| pwp_seq <| pwp_seq <| kx [(146, (vl 82 1 enc_sl_82 [y4, y5, y6])), (147, (vin 3)), (148, (vin 0))] [] (zM <| zE (oLn el76 3 (hr := rfl)) <| zM <| zZ) ?_
  refine pwp_block <| pwp_rounds 20 ?_
  refine pwp_round <| pwp_seq <| kx [(149, (vb true))] [] (zE (oBk true oLt) <| zZ) ?_
  refine pwp_seq <| pwp_cond (b := true) (by kernel_rfl) (fun _ => ?_) (fun h => by cases h)
  refine pwp_skip <| pwp_seq <| pwp_block <| pwp_seq <| kx [(21, (vin 0)), (22, (vl 67 4 encR y4))] [] (zM <| zE (oXs el76 0) <| zE (oC1 sh82) <| zM <| zM <| zZ) ?_
  refine pwp_seq <| kx [(153, (vl 67 4 encR y4)), (154, (vin 3)), (155, (vin 0))] [] (zM <| zE (oLn el82 3 (hr := rfl)) <| zM <| zZ) ?_
  refine pwp_block <| pwp_rounds 20 ?_
  refine pwp_round <| pwp_seq <| pwp_sim (wk (l := [(10, (.ref 3 0)), (11, (vi 14)), (12, (vin 0)), (15, (.ref 4 0)), (16, (.ref 5 0)), (21, (vin 0)), (146, (vl 82 1 enc_sl_82 [y4, y5, y6])), (147, (vin 3)), (148, (vin 0)), (153, (vl 67 4 encR y4)), (154, (vin 3)), (155, (vin 0))]) (b := [(3, some y1), (4, some y1), (5, some (bx (encI (ofZ e8))))])) ?_
  refine kx [(156, (vb true))] [] (zE (oBk true oLt) <| zZ) ?_
  refine pwp_seq <| pwp_cond (b := true) (by kernel_rfl) (fun _ => ?_) (fun h => by cases h)
  refine pwp_skip <| pwp_seq <| pwp_block <| pwp_seq <| kx [(23, (vin 0)), (24, (.ref 15 0))] [(15, some (bx (encR (RRat.mk (ofZ n0) (ofZ d0)))))] (zM <| zE (oXs el82 0) <| zE (oCa sh67) <| zN (oAl 15 ze67 zo67) <| zM <| zT (oSt sh67) <| zZ) ?_
  refine pwp_seq <| kd [(25, (.ref 16 0))] [(16, some (bx (encI (ofZ w0)))), (17, none)] mo (wR (oLa sh30) <| wE (oFr fo67_0) <| wR (oLa sh30) <| wE (oCl (l_times (ofZ e8) e8 (iu bn6) (ofZ n0) n0 (iu hn0))) <| wE (oFr fo67_1) <| wR (oLa sh30) <| wE (oCl (by have h := rs_divide (iok_mul (k := 81) bn6 hn0 (by decide)) hd0 (by decide) (by decide) (by omega); rw [hq0] at h; exact h)) <| wM <| wE oEx <| wE oEx <| wE oEx <| wN (oAl 16 ze30 zo30) <| wN (oAl 17 ze30 zo30) <| wT (oSt sh30) <| wT (oSt sh30) <| wM <| wZ) ?_
  refine kx [] [(4, some (bx (encA31 (A9.mk (ofZ w0) (RInt.mk false []) (RInt.mk false []) (RInt.mk false []) (RInt.mk false []) (RInt.mk false []) (RInt.mk false []) (RInt.mk false []) (RInt.mk false [])))))] (zM <| zE (oMl 0 (hr := by decide)) <| zM <| zE (oAd 0 (hr := by decide)) <| zR (oLa sh30) <| zE (oXr ar32 0) <| zT (oSt sh30) <| zZ) ?_
  refine kx [(155, (vin 1))] [] (zE (oAd 1 (hr := by decide)) <| zM <| zZ) ?_
  refine pwp_again (SimImp.refl _) ?_
  refine pwp_seq <| kx [(156, (vb true))] [] (zE (oBk true oLt) <| zZ) ?_
  refine pwp_seq <| pwp_cond (b := true) (by kernel_rfl) (fun _ => ?_) (fun h => by cases h)
  refine pwp_skip <| pwp_seq <| pwp_block <| pwp_seq <| kx [(23, (vin 1)), (24, (.ref 18 0))] [(18, some (bx (encR (RRat.mk (ofZ n1) (ofZ d1)))))] (zM <| zE (oXs el82 1) <| zE (oCa sh67) <| zN (oAl 18 ze67 zo67) <| zM <| zT (oSt sh67) <| zZ) ?_
  refine pwp_seq <| kd [(25, (.ref 19 0))] [(19, some (bx (encI (ofZ w1)))), (20, none)] mo (wR (oLa sh30) <| wE (oFr fo67_0) <| wR (oLa sh30) <| wE (oCl (l_times (ofZ e8) e8 (iu bn6) (ofZ n1) n1 (iu hn1))) <| wE (oFr fo67_1) <| wR (oLa sh30) <| wE (oCl (by have h := rs_divide (iok_mul (k := 81) bn6 hn1 (by decide)) hd1 (by decide) (by decide) (by omega); rw [hq1] at h; exact h)) <| wM <| wE oEx <| wE oEx <| wE oEx <| wN (oAl 19 ze30 zo30) <| wN (oAl 20 ze30 zo30) <| wT (oSt sh30) <| wT (oSt sh30) <| wM <| wZ) ?_
  refine kx [] [(4, some (bx (encA31 (A9.mk (ofZ w0) (ofZ w1) (RInt.mk false []) (RInt.mk false []) (RInt.mk false []) (RInt.mk false []) (RInt.mk false []) (RInt.mk false []) (RInt.mk false [])))))] (zM <| zE (oMl 0 (hr := by decide)) <| zM <| zE (oAd 1 (hr := by decide)) <| zR (oLa sh30) <| zE (oXr ar32 1) <| zT (oSt sh30) <| zZ) ?_
  refine kx [(155, (vin 2))] [] (zE (oAd 2 (hr := by decide)) <| zM <| zZ) ?_
  refine pwp_again (SimImp.refl _) ?_
  refine pwp_seq <| kx [(156, (vb true))] [] (zE (oBk true oLt) <| zZ) ?_
  refine pwp_seq <| pwp_cond (b := true) (by kernel_rfl) (fun _ => ?_) (fun h => by cases h)
  refine pwp_skip <| pwp_seq <| pwp_block <| pwp_seq <| kx [(23, (vin 2)), (24, (.ref 21 0))] [(21, some (bx (encR (RRat.mk (ofZ n2) (ofZ d2)))))] (zM <| zE (oXs el82 2) <| zE (oCa sh67) <| zN (oAl 21 ze67 zo67) <| zM <| zT (oSt sh67) <| zZ) ?_
  refine pwp_seq <| kd [(25, (.ref 22 0))] [(22, some (bx (encI (ofZ w2)))), (23, none)] mo (wR (oLa sh30) <| wE (oFr fo67_0) <| wR (oLa sh30) <| wE (oCl (l_times (ofZ e8) e8 (iu bn6) (ofZ n2) n2 (iu hn2))) <| wE (oFr fo67_1) <| wR (oLa sh30) <| wE (oCl (by have h := rs_divide (iok_mul (k := 81) bn6 hn2 (by decide)) hd2 (by decide) (by decide) (by omega); rw [hq2] at h; exact h)) <| wM <| wE oEx <| wE oEx <| wE oEx <| wN (oAl 22 ze30 zo30) <| wN (oAl 23 ze30 zo30) <| wT (oSt sh30) <| wT (oSt sh30) <| wM <| wZ) ?_
  refine kx [] [(4, some (bx (encA31 (A9.mk (ofZ w0) (ofZ w1) (ofZ w2) (RInt.mk false []) (RInt.mk false []) (RInt.mk false []) (RInt.mk false []) (RInt.mk false []) (RInt.mk false [])))))] (zM <| zE (oMl 0 (hr := by decide)) <| zM <| zE (oAd 2 (hr := by decide)) <| zR (oLa sh30) <| zE (oXr ar32 2) <| zT (oSt sh30) <| zZ) ?_
  refine pwp_sim (wk (l := [(10, (.ref 3 0)), (11, (vi 14)), (12, (vin 0)), (15, (.ref 4 0)), (16, (.ref 5 0)), (21, (vin 0)), (146, (vl 82 1 enc_sl_82 [y4, y5, y6])), (147, (vin 3)), (148, (vin 0)), (153, (vl 67 4 encR y4)), (154, (vin 3)), (155, (vin 2))]) (b := [(3, some y1), (4, some (bx (encA31 (A9.mk (ofZ w0) (ofZ w1) (ofZ w2) (RInt.mk false []) (RInt.mk false []) (RInt.mk false []) (RInt.mk false []) (RInt.mk false []) (RInt.mk false []))))), (5, some (bx (encI (ofZ e8))))])) ?_
  refine kx [(155, (vin 3))] [] (zE (oAd 3 (hr := by decide)) <| zM <| zZ) ?_
  refine pwp_again (SimImp.refl _) ?_
  refine pwp_seq <| kx [(156, (vb false))] [] (zE (oBk false oLt) <| zZ) ?_
  refine pwp_seq <| pwp_cond (b := false) (by kernel_rfl) (fun h => by cases h) (fun _ => ?_)
  refine pwp_exit <| kx [(148, (vin 1))] [] (zE (oAd 1 (hr := by decide)) <| zM <| zZ) ?_
  refine pwp_again (SimImp.refl _) ?_
  refine pwp_seq <| kx [(149, (vb true))] [] (zE (oBk true oLt) <| zZ) ?_
  refine pwp_seq <| pwp_cond (b := true) (by kernel_rfl) (fun _ => ?_) (fun h => by cases h)
  refine pwp_skip <| pwp_seq <| pwp_block <| pwp_seq <| kx [(21, (vin 1)), (22, (vl 67 4 encR y5))] [] (zM <| zE (oXs el76 1) <| zE (oC1 sh82) <| zM <| zM <| zZ) ?_
  refine pwp_seq <| kx [(153, (vl 67 4 encR y5)), (154, (vin 3)), (155, (vin 0))] [] (zM <| zE (oLn el82 3 (hr := rfl)) <| zM <| zZ) ?_
  refine pwp_block <| pwp_rounds 20 ?_
  refine pwp_round <| pwp_seq <| kx [(156, (vb true))] [] (zE (oBk true oLt) <| zZ) ?_
  refine pwp_seq <| pwp_cond (b := true) (by kernel_rfl) (fun _ => ?_) (fun h => by cases h)
  refine pwp_skip <| pwp_seq <| pwp_block <| pwp_seq <| kx [(23, (vin 0)), (24, (.ref 24 0))] [(24, some (bx (encR (RRat.mk (ofZ n3) (ofZ d3)))))] (zM <| zE (oXs el82 0) <| zE (oCa sh67) <| zN (oAl 24 ze67 zo67) <| zM <| zT (oSt sh67) <| zZ) ?_
  refine pwp_seq <| kd [(25, (.ref 25 0))] [(25, some (bx (encI (ofZ w3)))), (26, none)] mo (wR (oLa sh30) <| wE (oFr fo67_0) <| wR (oLa sh30) <| wE (oCl (l_times (ofZ e8) e8 (iu bn6) (ofZ n3) n3 (iu hn3))) <| wE (oFr fo67_1) <| wR (oLa sh30) <| wE (oCl (by have h := rs_divide (iok_mul (k := 81) bn6 hn3 (by decide)) hd3 (by decide) (by decide) (by omega); rw [hq3] at h; exact h)) <| wM <| wE oEx <| wE oEx <| wE oEx <| wN (oAl 25 ze30 zo30) <| wN (oAl 26 ze30 zo30) <| wT (oSt sh30) <| wT (oSt sh30) <| wM <| wZ) ?_
  refine kx [] [(4, some (bx (encA31 (A9.mk (ofZ w0) (ofZ w1) (ofZ w2) (ofZ w3) (RInt.mk false []) (RInt.mk false []) (RInt.mk false []) (RInt.mk false []) (RInt.mk false [])))))] (zM <| zE (oMl 3 (hr := by decide)) <| zM <| zE (oAd 3 (hr := by decide)) <| zR (oLa sh30) <| zE (oXr ar32 3) <| zT (oSt sh30) <| zZ) ?_
  refine kx [(155, (vin 1))] [] (zE (oAd 1 (hr := by decide)) <| zM <| zZ) ?_
  refine pwp_again (SimImp.refl _) ?_
  refine pwp_seq <| kx [(156, (vb true))] [] (zE (oBk true oLt) <| zZ) ?_
  refine pwp_seq <| pwp_cond (b := true) (by kernel_rfl) (fun _ => ?_) (fun h => by cases h)
  refine pwp_skip <| pwp_seq <| pwp_block <| pwp_seq <| kx [(23, (vin 1)), (24, (.ref 27 0))] [(27, some (bx (encR (RRat.mk (ofZ n4) (ofZ d4)))))] (zM <| zE (oXs el82 1) <| zE (oCa sh67) <| zN (oAl 27 ze67 zo67) <| zM <| zT (oSt sh67) <| zZ) ?_
  refine pwp_seq <| kd [(25, (.ref 28 0))] [(28, some (bx (encI (ofZ w4)))), (29, none)] mo (wR (oLa sh30) <| wE (oFr fo67_0) <| wR (oLa sh30) <| wE (oCl (l_times (ofZ e8) e8 (iu bn6) (ofZ n4) n4 (iu hn4))) <| wE (oFr fo67_1) <| wR (oLa sh30) <| wE (oCl (by have h := rs_divide (iok_mul (k := 81) bn6 hn4 (by decide)) hd4 (by decide) (by decide) (by omega); rw [hq4] at h; exact h)) <| wM <| wE oEx <| wE oEx <| wE oEx <| wN (oAl 28 ze30 zo30) <| wN (oAl 29 ze30 zo30) <| wT (oSt sh30) <| wT (oSt sh30) <| wM <| wZ) ?_
  refine pwp_sim (wk (l := [(10, (.ref 3 0)), (11, (vi 14)), (12, (vin 0)), (15, (.ref 4 0)), (16, (.ref 5 0)), (21, (vin 1)), (23, (vin 1)), (25, (.ref 28 0)), (146, (vl 82 1 enc_sl_82 [y4, y5, y6])), (147, (vin 3)), (148, (vin 1)), (153, (vl 67 4 encR y5)), (154, (vin 3)), (155, (vin 1))]) (b := [(28, some (bx (encI (ofZ w4)))), (3, some y1), (4, some (bx (encA31 (A9.mk (ofZ w0) (ofZ w1) (ofZ w2) (ofZ w3) (RInt.mk false []) (RInt.mk false []) (RInt.mk false []) (RInt.mk false []) (RInt.mk false []))))), (5, some (bx (encI (ofZ e8))))])) ?_
  refine kx [] [(4, some (bx (encA31 (A9.mk (ofZ w0) (ofZ w1) (ofZ w2) (ofZ w3) (ofZ w4) (RInt.mk false []) (RInt.mk false []) (RInt.mk false []) (RInt.mk false [])))))] (zM <| zE (oMl 3 (hr := by decide)) <| zM <| zE (oAd 4 (hr := by decide)) <| zR (oLa sh30) <| zE (oXr ar32 4) <| zT (oSt sh30) <| zZ) ?_
  refine kx [(155, (vin 2))] [] (zE (oAd 2 (hr := by decide)) <| zM <| zZ) ?_
  refine pwp_again (SimImp.refl _) ?_
  refine pwp_seq <| kx [(156, (vb true))] [] (zE (oBk true oLt) <| zZ) ?_
  refine pwp_seq <| pwp_cond (b := true) (by kernel_rfl) (fun _ => ?_) (fun h => by cases h)
  refine pwp_skip <| pwp_seq <| pwp_block <| pwp_seq <| kx [(23, (vin 2)), (24, (.ref 30 0))] [(30, some (bx (encR (RRat.mk (ofZ n5) (ofZ d5)))))] (zM <| zE (oXs el82 2) <| zE (oCa sh67) <| zN (oAl 30 ze67 zo67) <| zM <| zT (oSt sh67) <| zZ) ?_
  refine pwp_seq <| kd [(25, (.ref 31 0))] [(31, some (bx (encI (ofZ w5)))), (32, none)] mo (wR (oLa sh30) <| wE (oFr fo67_0) <| wR (oLa sh30) <| wE (oCl (l_times (ofZ e8) e8 (iu bn6) (ofZ n5) n5 (iu hn5))) <| wE (oFr fo67_1) <| wR (oLa sh30) <| wE (oCl (by have h := rs_divide (iok_mul (k := 81) bn6 hn5 (by decide)) hd5 (by decide) (by decide) (by omega); rw [hq5] at h; exact h)) <| wM <| wE oEx <| wE oEx <| wE oEx <| wN (oAl 31 ze30 zo30) <| wN (oAl 32 ze30 zo30) <| wT (oSt sh30) <| wT (oSt sh30) <| wM <| wZ) ?_
  refine kx [] [(4, some (bx (encA31 (A9.mk (ofZ w0) (ofZ w1) (ofZ w2) (ofZ w3) (ofZ w4) (ofZ w5) (RInt.mk false []) (RInt.mk false []) (RInt.mk false [])))))] (zM <| zE (oMl 3 (hr := by decide)) <| zM <| zE (oAd 5 (hr := by decide)) <| zR (oLa sh30) <| zE (oXr ar32 5) <| zT (oSt sh30) <| zZ) ?_
  refine kx [(155, (vin 3))] [] (zE (oAd 3 (hr := by decide)) <| zM <| zZ) ?_
  refine pwp_again (SimImp.refl _) ?_
  refine pwp_seq <| kx [(156, (vb false))] [] (zE (oBk false oLt) <| zZ) ?_
  refine pwp_seq <| pwp_cond (b := false) (by kernel_rfl) (fun h => by cases h) (fun _ => ?_)
  refine pwp_exit <| kx [(148, (vin 2))] [] (zE (oAd 2 (hr := by decide)) <| zM <| zZ) ?_
  refine pwp_again (SimImp.refl _) ?_
  refine pwp_seq <| kx [(149, (vb true))] [] (zE (oBk true oLt) <| zZ) ?_
  refine pwp_seq <| pwp_cond (b := true) (by kernel_rfl) (fun _ => ?_) (fun h => by cases h)
  refine pwp_skip <| pwp_seq <| pwp_block <| pwp_seq <| kx [(21, (vin 2)), (22, (vl 67 4 encR y6))] [] (zM <| zE (oXs el76 2) <| zE (oC1 sh82) <| zM <| zM <| zZ) ?_
  refine pwp_seq <| kx [(153, (vl 67 4 encR y6)), (154, (vin 3)), (155, (vin 0))] [] (zM <| zE (oLn el82 3 (hr := rfl)) <| zM <| zZ) ?_
  refine pwp_block <| pwp_rounds 20 ?_
  refine pwp_round <| pwp_seq <| kx [(156, (vb true))] [] (zE (oBk true oLt) <| zZ) ?_
  refine pwp_seq <| pwp_cond (b := true) (by kernel_rfl) (fun _ => ?_) (fun h => by cases h)
  refine pwp_skip <| pwp_seq <| pwp_block <| pwp_seq <| kx [(23, (vin 0)), (24, (.ref 33 0))] [(33, some (bx (encR (RRat.mk (ofZ n6) (ofZ d6)))))] (zM <| zE (oXs el82 0) <| zE (oCa sh67) <| zN (oAl 33 ze67 zo67) <| zM <| zT (oSt sh67) <| zZ) ?_
  refine pwp_seq <| pwp_sim (wk (l := [(10, (.ref 3 0)), (11, (vi 14)), (12, (vin 0)), (15, (.ref 4 0)), (16, (.ref 5 0)), (21, (vin 2)), (23, (vin 0)), (24, (.ref 33 0)), (146, (vl 82 1 enc_sl_82 [y4, y5, y6])), (147, (vin 3)), (148, (vin 2)), (153, (vl 67 4 encR y6)), (154, (vin 3)), (155, (vin 0))]) (b := [(3, some y1), (33, some (bx (encR (RRat.mk (ofZ n6) (ofZ d6))))), (4, some (bx (encA31 (A9.mk (ofZ w0) (ofZ w1) (ofZ w2) (ofZ w3) (ofZ w4) (ofZ w5) (RInt.mk false []) (RInt.mk false []) (RInt.mk false []))))), (5, some (bx (encI (ofZ e8))))])) ?_
  refine kd [(25, (.ref 34 0))] [(34, some (bx (encI (ofZ w6)))), (35, none)] mo (wR (oLa sh30) <| wE (oFr fo67_0) <| wR (oLa sh30) <| wE (oCl (l_times (ofZ e8) e8 (iu bn6) (ofZ n6) n6 (iu hn6))) <| wE (oFr fo67_1) <| wR (oLa sh30) <| wE (oCl (by have h := rs_divide (iok_mul (k := 81) bn6 hn6 (by decide)) hd6 (by decide) (by decide) (by omega); rw [hq6] at h; exact h)) <| wM <| wE oEx <| wE oEx <| wE oEx <| wN (oAl 34 ze30 zo30) <| wN (oAl 35 ze30 zo30) <| wT (oSt sh30) <| wT (oSt sh30) <| wM <| wZ) ?_
  refine kx [] [(4, some (bx (encA31 (A9.mk (ofZ w0) (ofZ w1) (ofZ w2) (ofZ w3) (ofZ w4) (ofZ w5) (ofZ w6) (RInt.mk false []) (RInt.mk false [])))))] (zM <| zE (oMl 6 (hr := by decide)) <| zM <| zE (oAd 6 (hr := by decide)) <| zR (oLa sh30) <| zE (oXr ar32 6) <| zT (oSt sh30) <| zZ) ?_
  refine kx [(155, (vin 1))] [] (zE (oAd 1 (hr := by decide)) <| zM <| zZ) ?_
  refine pwp_again (SimImp.refl _) ?_
  refine pwp_seq <| kx [(156, (vb true))] [] (zE (oBk true oLt) <| zZ) ?_
  refine pwp_seq <| pwp_cond (b := true) (by kernel_rfl) (fun _ => ?_) (fun h => by cases h)
  refine pwp_skip <| pwp_seq <| pwp_block <| pwp_seq <| kx [(23, (vin 1)), (24, (.ref 36 0))] [(36, some (bx (encR (RRat.mk (ofZ n7) (ofZ d7)))))] (zM <| zE (oXs el82 1) <| zE (oCa sh67) <| zN (oAl 36 ze67 zo67) <| zM <| zT (oSt sh67) <| zZ) ?_
  refine pwp_seq <| kd [(25, (.ref 37 0))] [(37, some (bx (encI (ofZ w7)))), (38, none)] mo (wR (oLa sh30) <| wE (oFr fo67_0) <| wR (oLa sh30) <| wE (oCl (l_times (ofZ e8) e8 (iu bn6) (ofZ n7) n7 (iu hn7))) <| wE (oFr fo67_1) <| wR (oLa sh30) <| wE (oCl (by have h := rs_divide (iok_mul (k := 81) bn6 hn7 (by decide)) hd7 (by decide) (by decide) (by omega); rw [hq7] at h; exact h)) <| wM <| wE oEx <| wE oEx <| wE oEx <| wN (oAl 37 ze30 zo30) <| wN (oAl 38 ze30 zo30) <| wT (oSt sh30) <| wT (oSt sh30) <| wM <| wZ) ?_
  refine kx [] [(4, some (bx (encA31 (A9.mk (ofZ w0) (ofZ w1) (ofZ w2) (ofZ w3) (ofZ w4) (ofZ w5) (ofZ w6) (ofZ w7) (RInt.mk false [])))))] (zM <| zE (oMl 6 (hr := by decide)) <| zM <| zE (oAd 7 (hr := by decide)) <| zR (oLa sh30) <| zE (oXr ar32 7) <| zT (oSt sh30) <| zZ) ?_
  refine kx [(155, (vin 2))] [] (zE (oAd 2 (hr := by decide)) <| zM <| zZ) ?_
  refine pwp_again (SimImp.refl _) ?_
  refine pwp_seq <| kx [(156, (vb true))] [] (zE (oBk true oLt) <| zZ) ?_
  refine pwp_seq <| pwp_cond (b := true) (by kernel_rfl) (fun _ => ?_) (fun h => by cases h)
  refine pwp_skip <| pwp_seq <| pwp_block <| pwp_seq <| kx [(23, (vin 2)), (24, (.ref 39 0))] [(39, some (bx (encR (RRat.mk (ofZ n8) (ofZ d8)))))] (zM <| zE (oXs el82 2) <| zE (oCa sh67) <| zN (oAl 39 ze67 zo67) <| zM <| zT (oSt sh67) <| zZ) ?_
  refine pwp_seq <| kd [(25, (.ref 40 0))] [(40, some (bx (encI (ofZ w8)))), (41, none)] mo (wR (oLa sh30) <| wE (oFr fo67_0) <| wR (oLa sh30) <| wE (oCl (l_times (ofZ e8) e8 (iu bn6) (ofZ n8) n8 (iu hn8))) <| wE (oFr fo67_1) <| wR (oLa sh30) <| wE (oCl (by have h := rs_divide (iok_mul (k := 81) bn6 hn8 (by decide)) hd8 (by decide) (by decide) (by omega); rw [hq8] at h; exact h)) <| wM <| wE oEx <| wE oEx <| wE oEx <| wN (oAl 40 ze30 zo30) <| wN (oAl 41 ze30 zo30) <| wT (oSt sh30) <| wT (oSt sh30) <| wM <| wZ) ?_
  refine kx [] [(4, some (bx (encA31 y3)))] (zM <| zE (oMl 6 (hr := by decide)) <| zM <| zE (oAd 8 (hr := by decide)) <| zR (oLa sh30) <| zE (oXr ar32 8) <| zT (oSt sh30) <| zZ) ?_
  refine kx [(155, (vin 3))] [] (zE (oAd 3 (hr := by decide)) <| zM <| zZ) ?_
  refine pwp_again (SimImp.refl _) ?_
  refine pwp_seq <| kx [(156, (vb false))] [] (zE (oBk false oLt) <| zZ) ?_
  refine pwp_seq <| pwp_cond (b := false) (by kernel_rfl) (fun h => by cases h) (fun _ => ?_)
  refine pwp_exit <| pwp_sim (wk (l := [(10, (.ref 3 0)), (11, (vi 14)), (12, (vin 0)), (15, (.ref 4 0)), (16, (.ref 5 0)), (21, (vin 2)), (146, (vl 82 1 enc_sl_82 [y4, y5, y6])), (147, (vin 3)), (148, (vin 2)), (153, (vl 67 4 encR y6)), (154, (vin 3)), (155, (vin 3)), (156, (vb false))]) (b := [(3, some y1), (4, some (bx (encA31 y3))), (5, some (bx (encI (ofZ e8))))])) ?_
  refine kx [(148, (vin 3))] [] (zE (oAd 3 (hr := by decide)) <| zM <| zZ) ?_
  refine pwp_again (SimImp.refl _) ?_
  refine pwp_seq <| kx [(149, (vb false))] [] (zE (oBk false oLt) <| zZ) ?_
  refine pwp_seq <| pwp_cond (b := false) (by kernel_rfl) (fun h => by cases h) (fun _ => ?_)
  refine pwp_exit <| pwp_seq <| kx [(28, (.ref 42 0)), (29, (vb false))] [(42, some y1)] (zR (oLa sh32) <| zE (oCl (l_reduceZ y3 w0 w1 w2 w3 w4 w5 w6 w7 w8 (iu bn7) (iu bn8) (iu bn9) (iu bn10) (iu bn11) (iu bn12) (iu bn13) (iu bn14) (iu bn15) hnz)) <| zM <| zE oEx <| zE oEx <| zN (oAl 42 ze32 zo32) <| zT (oSt sh32) <| zM <| zZ) ?_
  refine pwp_seq <| kx [] [(4, some y1)] (zR (oLa sh32) <| zT (oSt sh32) <| zZ) ?_
  refine pwp_seq <| kx [(186, (vb true))] [] (zM <| zE oNt <| zZ) ?_
  refine pwp_cond (b := true) (by kernel_rfl) (fun _ => ?_) (fun h => by cases h)
  refine kx [(12, (vin 14))] [] (zM <| zZ) ?_
  refine pwp_seq <| pwp_seq <| kx [(188, (vb true))] [] (zM <| zE oNe <| zZ) ?_
  refine pwp_cond (b := true) (by kernel_rfl) (fun _ => ?_) (fun h => by cases h)
  refine pwp_seq <| kx [(6, (vb true))] [] (zM <| zM <| zE oEq <| zM <| zE (e_slv (by exact rfl) ar32 (by exact rfl) (by kernel_rfl) (by kernel_rfl)) <| zR ⟨y1, e_clv (es := List.map encI y2) (l_empty 1000000 y2 [0, 0, 0, 0, 0, 0, 0, 0, 0] (.cons (iu iok_zero) (.cons (iu iok_zero) (.cons (iu iok_zero) (.cons (iu iok_zero) (.cons (iu iok_zero) (.cons (iu iok_zero) (.cons (iu iok_zero) (.cons (iu iok_zero) (.cons (iu iok_zero) .nil))))))))) (Nat.le_of_ble_eq_true rfl) (allnil_of rfl)) (by exact rfl) (by kernel_rfl) (by exact rfl) (.v .nil) (pubs_cells _ _ (fun _ => rfl)) (by kernel_rfl) (by kernel_rfl) (.val _), by kernel_rfl⟩ <| zE oPt <| zM <| zZ) ?_
  refine pwp_ret ⟨_, (.tmp (d := (.val (.bool (true)))) rfl .nil), ?_⟩
  rfl
end Go.Proofs.YtadkkhdnccljcaaGreat
