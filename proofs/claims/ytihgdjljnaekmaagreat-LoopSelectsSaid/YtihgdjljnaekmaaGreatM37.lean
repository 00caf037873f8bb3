/- Part 37 of a proof: rules, plain facts, and functions walked. -/
import Derived.Test.YtihgdjljnaekmaaGreatM36
import Derived.Test.YtihgdjljnaekmaaGreatM31
namespace Go.Proofs.YtihgdjljnaekmaaGreat
open Go.Fid
set_option maxRecDepth 4000
set_option linter.unusedVariables false
set_option linter.unusedSimpArgs false
theorem cb35 : callB Tryz.prog 35 = true := by kernel_rfl
theorem cb36 : callB Tryz.prog 36 = true := by kernel_rfl
theorem vbw {b : Int} {v : List Int} {g : Int} (h : VB b v) (hg : g = 1 ∨ g = -1) (hb : b ≤ 100000000) (k : Nat) : IntKind.i64.wrap (v.getD k 0 + g) = v.getD k 0 + g := wAny rfl (VB_w h hg hb k).1 (VB_w h hg hb k).2
theorem VB_e {b c : Int} {v : List Int} (h : VB b v) (e : b = c) : VB c v := e ▸ h
theorem l_Sel (z : Int) (es : List REdge) (x : RRat) (p : Rat) (hx : QOk x p 1000) (hb : es.length ≤ 1000000) : Takes Tryz.prog 36 [(.val (.int .i64 (z))), (.sl 56 6 (List.map encEdge es)), (encR x)] (.tup [(.sl 3 1 (List.map enc_i64 (slV z es x p))), (.val (.int .i64 ((((slC z es x p) : Nat) : Int))))]) := by
  refine fn_intro Tryz.func36 rfl cb36 rfl ?_
  show PWp _ _ _ _ ⟨[(0, (vi z)), (1, (vl 56 6 encEdge es)), (2, (.d (encR x)))], []⟩
  refine pwp_seq <| kx [(5, (.ref 0 0))] [(0, some (bx (encR x)))] (zN (oBx 0) <| zE (oNl 3 1) <| zM <| zZ) ?_
  refine pwp_seq <| pwp_seq <| kx [(8, (vin (lopC z es)))] [] (zM <| zM <| zE (oCl (l_check z es hb)) <| zM <| zZ) ?_
  refine pwp_seq <| kx [(28, (vb ((((lopC z es) : Nat) : Int) != ((0 : Nat) : Int))))] [] (zM <| zE oNe <| zZ) ?_
  refine pwp_cond rfl (fun h1 => ?_) (fun h1 => ?_)
  · replace h1 := bne_iff_ne.1 h1
    refine pwp_seq <| kx [(6, (vl 3 1 enc_i64 [])), (7, (vin (lopC z es)))] [] (zM <| zE (oNl 3 1) <| zM <| zZ) ?_
    refine pwp_ret ⟨_, (.tmp (d := (.sl 3 1 (List.map enc_i64 []))) rfl (.tmp (d := (.val (.int .i64 ((((lopC z es) : Nat) : Int))))) rfl .nil)), ?_⟩
    rw [show slV z es x p = [] from okL_n (rot_ne h1), show slC z es x p = lopC z es from okC_n (rot_ne h1)]; rfl
  · replace h1 := bne_eq_false_iff_eq.1 h1
    have hc0 : lopC z es = 0 := by omega
    obtain ⟨hz1, hz2, hl2, heo⟩ := lopC_0 hc0
    refine pwp_skip <| pwp_seq <| pwp_seq <| kx [(32, (vb (!(validR x))))] [] (zR (oLa sh51) <| zE (oCl (f_valid x p (qok_up hx (by decide)))) <| zE oNt <| zZ) ?_
    refine pwp_cond (b := !(validR x)) rfl (fun h2 => ?_) (fun h2 => ?_)
    · refine pwp_seq <| kx [(6, (vl 3 1 enc_i64 [])), (7, (vin 1))] [] (zE (oNl 3 1) <| zM <| zZ) ?_
      refine pwp_ret ⟨_, (.tmp (d := (.sl 3 1 (List.map enc_i64 []))) rfl (.tmp (d := (.val (.int .i64 (((1 : Nat) : Int))))) rfl .nil)), ?_⟩
      obtain ⟨q1, q2⟩ := sld_1 (es := es) (p := p) (bn_t h2)
      rw [show slV z es x p = sldV es x p from okL_0 hc0, show slC z es x p = sldC es x p from okC_0 hc0, q1, q2]; rfl
    · refine pwp_skip <| pwp_seq <| pwp_seq <| kd [(41, (vb (decide ((signQ p) < ((0 : Nat) : Int)) || decide (((0 : Nat) : Int) < (cmpQ p ((1 : Int) : Rat))))))] [] mo ?_ ?_
      · refine wR (oLa sh51) <| wE (oCl (f_sign x p (qok_up hx (by decide)))) <| wE oLt <| wE (oV (vb (decide ((signQ p) < ((0 : Nat) : Int)))) (mv_ok (by kernel_rfl))) <| ?_
        rcases hb3 : (decide ((signQ p) < ((0 : Nat) : Int))) with _ | _
        · replace hb3 := of_decide_eq_false hb3
          exact wR (oLa sh51) <| wE (oCl (f_whole 1 (by decide) (by decide))) <| wE (oCl (f_compare x (ofQ ((1 : Int) : Rat)) p ((1 : Int) : Rat) (qok_up hx (by decide)) (qok_up (qok_of (ql_int (z := 1) (lenZ_one (by decide)) (by decide))) (by decide)))) <| wE oGt <| wE oPo <| wZ
        · replace hb3 := of_decide_eq_true hb3
          exact wK <| wK <| wK <| wK <| wE oPt <| wZ
      refine pwp_cond rfl (fun h4 => ?_) (fun h4 => ?_)
      · refine pwp_seq <| kx [(6, (vl 3 1 enc_i64 [])), (7, (vin 2))] [] (zE (oNl 3 1) <| zM <| zZ) ?_
        refine pwp_ret ⟨_, (.tmp (d := (.sl 3 1 (List.map enc_i64 []))) rfl (.tmp (d := (.val (.int .i64 (((2 : Nat) : Int))))) rfl .nil)), ?_⟩
        obtain ⟨q1, q2⟩ := sld_2 (es := es) (p := p) (bn_f h2) h4
        rw [show slV z es x p = sldV es x p from okL_0 hc0, show slC z es x p = sldC es x p from okC_0 hc0, q1, q2]; rfl
      · refine pwp_skip <| pwp_seq <| kx [(9, (.own 1 3 1 es.length))] [(1, some (bm enc_i64 (List.replicate es.length 0)))] (zM <| zE (oLm el39) <| zN (oMk 1 enc_i64 (0 : Int) es.length es.length el60 ze3 zo3 by3 (hlN := by first | omega | (simp only [List.length_set]; omega)) (hcM := by first | omega | (simp only [List.length_set]; omega)) (hnm := by first | omega | (simp only [List.length_set]; omega)) (hb := by first | omega | (simp only [List.length_set]; omega))) <| zM <| zZ) ?_
        refine pwp_seq <| kx [(10, (vl 70 3 encA70 (List.map t3 (tris es)))), (11, (vl 70 3 encA70 (List.map (w3 es) (tris es))))] [] (zM <| zE (oCl (l_tris es z.toNat heo (by omega) hl2)) <| zM <| zE oEx <| zE oEx <| zM <| zM <| zZ) ?_
        refine pwp_seq <| pwp_seq <| kx [(50, (vl 70 3 encA70 (List.map t3 (tris es)))), (51, (vin ((tris es).length))), (52, (vin 0))] [] (zM <| zE (oLn el63 ((tris es).length)) <| zM <| zZ) ?_
        refine pwp_block <| pwp_loop (α := Nat × List Int) (fun (m, v) => ⟨[(1, (vl 56 6 encEdge es)), (5, (.ref 0 0)), (9, (.own 1 3 1 es.length)), (11, (vl 70 3 encA70 (List.map (w3 es) (tris es)))), (50, (vl 70 3 encA70 (List.map t3 (tris es)))), (51, (vin ((tris es).length))), (52, (vin m))], [(0, some (bx (encR x))), (1, some (bm enc_i64 v))]⟩) (fun (m, v) => m ≤ (tris es).length ∧ seUp es m ∧ v = vts p es ((tris es).take m) ∧ VB (3 * ((m : Nat) : Int)) v) (fun (m, v) => (tris es).length - m) (0, List.replicate es.length 0) wk ⟨Nat.zero_le _, seUp_0 _, rfl, VB_e (VB_0 _) rfl⟩ ?_
        rintro ⟨m, v⟩ ⟨hm, hs, hvv, hvb⟩
        have hvl : v.length = es.length := by rw [hvv, vts_len]
        have hml := tris_len hl2
        refine pwp_seq <| kx [(53, (vb (decide (((m : Nat) : Int) < (((tris es).length : Nat) : Int)))))] [] (zE oLt <| zZ) ?_
        refine pwp_seq <| pwp_cond rfl (fun h5 => ?_) (fun h5 => ?_)
        · replace h5 := of_decide_eq_true h5
          have htr := tris_at (es := es) (m := m) (by omega)
          obtain ⟨ht1, ht2, ht3, ht4⟩ := id htr
          refine pwp_skip <| pwp_seq <| pwp_block <| pwp_seq <| kx [(12, (vin m)), (13, (.ref 2 0))] [(2, some (bx (encA70 (t3 ((tris es).getD m z3)))))] (zM <| zE (oXm el63 t3 m z3 (hj := by first | omega | (simp only [List.length_set]; omega)) (h1 := by first | omega | (simp only [List.length_set]; omega))) <| zE (oCa sh70) <| zH (oAl 2 ze70 zo70) <| zM <| zT (oSt sh70) <| zZ) ?_
          refine pwp_seq <| kx [(14, (.ref 3 0))] [(3, some (bx (encA70 (w3 es ((tris es).getD m z3)))))] (zM <| zM <| zE (oXm el63 (w3 es) m z3 (hj := by first | omega | (simp only [List.length_set]; omega)) (h1 := by first | omega | (simp only [List.length_set]; omega))) <| zE (oCa sh70) <| zH (oAl 3 ze70 zo70) <| zT (oSt sh70) <| zZ) ?_
          refine pwp_seq <| kx [(15, (.ref 4 0)), (16, (vin (aroC es [((((tris es).getD m z3).1 : Nat) : Int), (wkP es ((tris es).getD m z3).1 ((tris es).getD m z3).2.1 ((tris es).getD m z3).2.2).1, (wkP es ((tris es).getD m z3).1 ((tris es).getD m z3).2.1 ((tris es).getD m z3).2.2).2])))] [(4, some (bx (encQuat (aroV es [((((tris es).getD m z3).1 : Nat) : Int), (wkP es ((tris es).getD m z3).1 ((tris es).getD m z3).2.1 ((tris es).getD m z3).2.2).1, (wkP es ((tris es).getD m z3).1 ((tris es).getD m z3).2.1 ((tris es).getD m z3).2.2).2]))))] (zM <| zE (e_slv (by exact rfl) ar70 (by exact rfl) (by kernel_rfl) (by kernel_rfl)) <| zR ⟨(bx (encA70 (w3 es ((tris es).getD m z3)))), e_clv (es := List.map enc_i64 [((((tris es).getD m z3).1 : Nat) : Int), (wkP es ((tris es).getD m z3).1 ((tris es).getD m z3).2.1 ((tris es).getD m z3).2.2).1, (wkP es ((tris es).getD m z3).1 ((tris es).getD m z3).2.1 ((tris es).getD m z3).2.2).2]) (l_aro es 1000000 [((((tris es).getD m z3).1 : Nat) : Int), (wkP es ((tris es).getD m z3).1 ((tris es).getD m z3).2.1 ((tris es).getD m z3).2.2).1, (wkP es ((tris es).getD m z3).1 ((tris es).getD m z3).2.1 ((tris es).getD m z3).2.2).2] hb (show 3 ≤ 1000000 by decide) heo.tok (wt_in htr)) (by exact rfl) (by kernel_rfl) (by exact rfl) (.d (.v .nil)) (pubs_cells _ _ (fun _ => rfl)) (by kernel_rfl) (by kernel_rfl) (.tup (avo_cons (avo_encQuat _) (avo_cons (.val _) avo_nil))), by kernel_rfl⟩ <| zM <| zE oEx <| zE oEx <| zH (oAl 4 ze28 zo28) <| zT (oSt sh28) <| zM <| zZ) ?_
          refine pwp_seq <| pwp_seq <| kx [(68, (vb ((((aroC es [((((tris es).getD m z3).1 : Nat) : Int), (wkP es ((tris es).getD m z3).1 ((tris es).getD m z3).2.1 ((tris es).getD m z3).2.2).1, (wkP es ((tris es).getD m z3).1 ((tris es).getD m z3).2.1 ((tris es).getD m z3).2.2).2]) : Nat) : Int) != ((0 : Nat) : Int))))] [] (zM <| zE oNe <| zZ) ?_
          refine pwp_cond rfl (fun h6 => ?_) (fun h6 => ?_)
          · replace h6 := bne_iff_ne.1 h6
            refine pwp_seq <| kx [(6, (vl 3 1 enc_i64 [])), (7, (vin (aroC es [((((tris es).getD m z3).1 : Nat) : Int), (wkP es ((tris es).getD m z3).1 ((tris es).getD m z3).2.1 ((tris es).getD m z3).2.2).1, (wkP es ((tris es).getD m z3).1 ((tris es).getD m z3).2.1 ((tris es).getD m z3).2.2).2])))] [] (zM <| zE (oNl 3 1) <| zM <| zZ) ?_
            refine pwp_ret ⟨_, (.tmp (d := (.sl 3 1 (List.map enc_i64 []))) rfl (.tmp (d := (.val (.int .i64 ((((aroC es [((((tris es).getD m z3).1 : Nat) : Int), (wkP es ((tris es).getD m z3).1 ((tris es).getD m z3).2.1 ((tris es).getD m z3).2.2).1, (wkP es ((tris es).getD m z3).1 ((tris es).getD m z3).2.1 ((tris es).getD m z3).2.2).2]) : Nat) : Int))))) rfl .nil)), ?_⟩
            obtain ⟨q3, q4⟩ := se_no (es := es) (m := m) (by omega) (rot_ne h6)
            obtain ⟨q1, q2⟩ := sld_3 (es := es) (p := p) (bn_f h2) h4 q3
            rw [show slV z es x p = sldV es x p from okL_0 hc0, show slC z es x p = sldC es x p from okC_0 hc0, q1, q2, show aroC es [((((tris es).getD m z3).1 : Nat) : Int), (wkP es ((tris es).getD m z3).1 ((tris es).getD m z3).2.1 ((tris es).getD m z3).2.2).1, (wkP es ((tris es).getD m z3).1 ((tris es).getD m z3).2.1 ((tris es).getD m z3).2.2).2] = 3 from q4]; rfl
          · replace h6 := bne_eq_false_iff_eq.1 h6
            refine pwp_skip <| pwp_seq <| kd [(16, (vi 0)), (17, (.ref 5 0))] [(5, some (bx (encR (ofQ (chQ q1 (aroV es [((((tris es).getD m z3).1 : Nat) : Int), (wkP es ((tris es).getD m z3).1 ((tris es).getD m z3).2.1 ((tris es).getD m z3).2.2).1, (wkP es ((tris es).getD m z3).1 ((tris es).getD m z3).2.1 ((tris es).getD m z3).2.2).2]))))))] mo (wE (oCl l_one) <| wR (oLa sh28) <| wE (oCl (l_chord q1 (aroV es [((((tris es).getD m z3).1 : Nat) : Int), (wkP es ((tris es).getD m z3).1 ((tris es).getD m z3).2.1 ((tris es).getD m z3).2.2).1, (wkP es ((tris es).getD m z3).1 ((tris es).getD m z3).2.1 ((tris es).getD m z3).2.2).2]) q1_ok (aro_ok heo.tok (wt_in htr) (show aroC es [((((tris es).getD m z3).1 : Nat) : Int), (wkP es ((tris es).getD m z3).1 ((tris es).getD m z3).2.1 ((tris es).getD m z3).2.2).1, (wkP es ((tris es).getD m z3).1 ((tris es).getD m z3).2.1 ((tris es).getD m z3).2.2).2] = 0 by omega)))) <| wM <| wE oEx <| wE oEx <| wH (hc := by kernel_rfl) (oAl 5 ze51 zo51) <| wT (oSt sh51) <| wM <| wZ) ?_
            refine pwp_seq <| pwp_seq <| kx [(77, (vb false))] [] (zM <| zE (oBk false oNe) <| zZ) ?_
            refine pwp_cond (b := false) (by kernel_rfl) (fun h => by cases h) (fun _ => ?_)
            refine pwp_skip <| pwp_seq <| kx [(18, (vin 1))] [] (zM <| zZ) ?_
            refine pwp_meet (α := Int) (fun g => ⟨[(1, (vl 56 6 encEdge es)), (5, (.ref 0 0)), (9, (.own 1 3 1 es.length)), (11, (vl 70 3 encA70 (List.map (w3 es) (tris es)))), (13, (.ref 2 0)), (18, (vi g)), (50, (vl 70 3 encA70 (List.map t3 (tris es)))), (51, (vin ((tris es).length))), (52, (vin m))], [(0, some (bx (encR x))), (1, some (bm enc_i64 v)), (2, some (bx (encA70 (t3 ((tris es).getD m z3)))))]⟩) (fun g => g = gnT p es ((tris es).getD m z3)) ?_ ?_
            · refine pwp_seq <| kx [(82, (vb (decide (((0 : Nat) : Int) < (cmpQ (chQ q1 (aroV es [((((tris es).getD m z3).1 : Nat) : Int), (wkP es ((tris es).getD m z3).1 ((tris es).getD m z3).2.1 ((tris es).getD m z3).2.2).1, (wkP es ((tris es).getD m z3).1 ((tris es).getD m z3).2.1 ((tris es).getD m z3).2.2).2])) p)))))] [] (zR (oLa sh51) <| zR (oLa sh51) <| zE (oCl (f_compare (ofQ (chQ q1 (aroV es [((((tris es).getD m z3).1 : Nat) : Int), (wkP es ((tris es).getD m z3).1 ((tris es).getD m z3).2.1 ((tris es).getD m z3).2.2).1, (wkP es ((tris es).getD m z3).1 ((tris es).getD m z3).2.1 ((tris es).getD m z3).2.2).2]))) x (chQ q1 (aroV es [((((tris es).getD m z3).1 : Nat) : Int), (wkP es ((tris es).getD m z3).1 ((tris es).getD m z3).2.1 ((tris es).getD m z3).2.2).1, (wkP es ((tris es).getD m z3).1 ((tris es).getD m z3).2.1 ((tris es).getD m z3).2.2).2])) p (qok_up (qok_of (ql_chQ q1_ok (aro_ok heo.tok (wt_in htr) (show aroC es [((((tris es).getD m z3).1 : Nat) : Int), (wkP es ((tris es).getD m z3).1 ((tris es).getD m z3).2.1 ((tris es).getD m z3).2.2).1, (wkP es ((tris es).getD m z3).1 ((tris es).getD m z3).2.1 ((tris es).getD m z3).2.2).2] = 0 by omega)))) (by decide)) (qok_up hx (by decide)))) <| zE oGt <| zZ) ?_
              refine pwp_cond rfl (fun h7 => ?_) (fun h7 => ?_)
              · replace h7 := of_decide_eq_true h7
                refine kx [(18, (vi (-1)))] [] (zM <| zZ) ?_
                exact met (-1) wk ((if_pos h7).symm)
              · replace h7 := of_decide_eq_false h7
                refine pwp_skip ?_
                exact met 1 wk ((if_neg h7).symm)
            · rintro g hg0
              have hg : g = 1 ∨ g = -1 := by rw [hg0]; exact gnS_01 _ _
              have hb0 := hvb
              have hb1 := VB_s hb0 hg ((tris es).getD m z3).1
              have hb2 := VB_s hb1 hg ((tris es).getD m z3).2.1
              refine pwp_seq <| kx [(83, (.d (encA70 (t3 ((tris es).getD m z3))))), (84, (vin 0))] [] (zR (oLa sh70) <| zM <| zZ) ?_
              refine pwp_block <| pwp_rounds 4 ?_
              refine pwp_round <| pwp_seq <| kx [(85, (vb true))] [] (zE (oBk true oLt) <| zZ) ?_
              refine pwp_seq <| pwp_cond (b := true) (by kernel_rfl) (fun _ => ?_) (fun h => by cases h)
              refine pwp_skip <| pwp_seq <| pwp_block <| pwp_seq <| kx [(20, (vin (((tris es).getD m z3).1)))] [] (zE (oXa ar70 sh3 (fun _ => rfl) 0) <| zM <| zZ) ?_
              refine kx [] [(1, some (bm enc_i64 (v.set (((tris es).getD m z3).1) ((v.getD (((tris es).getD m z3).1) 0) + g))))] (zM <| zM <| zE (oXo el60 (((tris es).getD m z3).1) (hj := by first | omega | (simp only [List.length_set]; omega)) (h1 := by first | omega | (simp only [List.length_set]; omega))) <| zR (oLp sh3 (((tris es).getD m z3).1) (0 : Int) (h1 := by first | omega | (simp only [List.length_set]; omega))) <| zM <| zE (zAd ((v.getD (((tris es).getD m z3).1) 0) + g) (hr := by exact (by first | exact vbw hb0 hg (by omega) _ | exact vbw hb1 hg (by omega) _ | exact vbw hb2 hg (by omega) _))) <| zE (oXo el60 (((tris es).getD m z3).1) (hj := by first | omega | (simp only [List.length_set]; omega)) (h1 := by first | omega | (simp only [List.length_set]; omega))) <| zT (oSp sh3 (((tris es).getD m z3).1) ((v.getD (((tris es).getD m z3).1) 0) + g) (h1 := by first | omega | (simp only [List.length_set]; omega))) <| zZ) ?_
              refine kx [(84, (vin 1))] [] (zE (oAd 1 (hr := by decide)) <| zM <| zZ) ?_
              refine pwp_again (SimImp.refl _) ?_
              refine pwp_seq <| kx [(85, (vb true))] [] (zE (oBk true oLt) <| zZ) ?_
              refine pwp_seq <| pwp_cond (b := true) (by kernel_rfl) (fun _ => ?_) (fun h => by cases h)
              refine pwp_skip <| pwp_seq <| pwp_block <| pwp_seq <| kx [(20, (vin (((tris es).getD m z3).2.1)))] [] (zE (oXa ar70 sh3 (fun _ => rfl) 1) <| zM <| zZ) ?_
              refine kx [] [(1, some (bm enc_i64 ((v.set (((tris es).getD m z3).1) ((v.getD (((tris es).getD m z3).1) 0) + g)).set (((tris es).getD m z3).2.1) (((v.set (((tris es).getD m z3).1) ((v.getD (((tris es).getD m z3).1) 0) + g)).getD (((tris es).getD m z3).2.1) 0) + g))))] (zM <| zM <| zE (oXo el60 (((tris es).getD m z3).2.1) (hj := by first | omega | (simp only [List.length_set]; omega)) (h1 := by first | omega | (simp only [List.length_set]; omega))) <| zR (oLp sh3 (((tris es).getD m z3).2.1) (0 : Int) (h1 := by first | omega | (simp only [List.length_set]; omega))) <| zM <| zE (zAd (((v.set (((tris es).getD m z3).1) ((v.getD (((tris es).getD m z3).1) 0) + g)).getD (((tris es).getD m z3).2.1) 0) + g) (hr := by exact (by first | exact vbw hb0 hg (by omega) _ | exact vbw hb1 hg (by omega) _ | exact vbw hb2 hg (by omega) _))) <| zE (oXo el60 (((tris es).getD m z3).2.1) (hj := by first | omega | (simp only [List.length_set]; omega)) (h1 := by first | omega | (simp only [List.length_set]; omega))) <| zT (oSp sh3 (((tris es).getD m z3).2.1) (((v.set (((tris es).getD m z3).1) ((v.getD (((tris es).getD m z3).1) 0) + g)).getD (((tris es).getD m z3).2.1) 0) + g) (h1 := by first | omega | (simp only [List.length_set]; omega))) <| zZ) ?_
              refine kx [(84, (vin 2))] [] (zE (oAd 2 (hr := by decide)) <| zM <| zZ) ?_
              refine pwp_again (SimImp.refl _) ?_
              refine pwp_seq <| kx [(85, (vb true))] [] (zE (oBk true oLt) <| zZ) ?_
              refine pwp_seq <| pwp_cond (b := true) (by kernel_rfl) (fun _ => ?_) (fun h => by cases h)
              refine pwp_skip <| pwp_seq <| pwp_block <| pwp_seq <| kx [(20, (vin (((tris es).getD m z3).2.2)))] [] (zE (oXa ar70 sh3 (fun _ => rfl) 2) <| zM <| zZ) ?_
              refine kx [] [(1, some (bm enc_i64 (((v.set (((tris es).getD m z3).1) ((v.getD (((tris es).getD m z3).1) 0) + g)).set (((tris es).getD m z3).2.1) (((v.set (((tris es).getD m z3).1) ((v.getD (((tris es).getD m z3).1) 0) + g)).getD (((tris es).getD m z3).2.1) 0) + g)).set (((tris es).getD m z3).2.2) ((((v.set (((tris es).getD m z3).1) ((v.getD (((tris es).getD m z3).1) 0) + g)).set (((tris es).getD m z3).2.1) (((v.set (((tris es).getD m z3).1) ((v.getD (((tris es).getD m z3).1) 0) + g)).getD (((tris es).getD m z3).2.1) 0) + g)).getD (((tris es).getD m z3).2.2) 0) + g))))] (zM <| zM <| zE (oXo el60 (((tris es).getD m z3).2.2) (hj := by first | omega | (simp only [List.length_set]; omega)) (h1 := by first | omega | (simp only [List.length_set]; omega))) <| zR (oLp sh3 (((tris es).getD m z3).2.2) (0 : Int) (h1 := by first | omega | (simp only [List.length_set]; omega))) <| zM <| zE (zAd ((((v.set (((tris es).getD m z3).1) ((v.getD (((tris es).getD m z3).1) 0) + g)).set (((tris es).getD m z3).2.1) (((v.set (((tris es).getD m z3).1) ((v.getD (((tris es).getD m z3).1) 0) + g)).getD (((tris es).getD m z3).2.1) 0) + g)).getD (((tris es).getD m z3).2.2) 0) + g) (hr := by exact (by first | exact vbw hb0 hg (by omega) _ | exact vbw hb1 hg (by omega) _ | exact vbw hb2 hg (by omega) _))) <| zE (oXo el60 (((tris es).getD m z3).2.2) (hj := by first | omega | (simp only [List.length_set]; omega)) (h1 := by first | omega | (simp only [List.length_set]; omega))) <| zT (oSp sh3 (((tris es).getD m z3).2.2) ((((v.set (((tris es).getD m z3).1) ((v.getD (((tris es).getD m z3).1) 0) + g)).set (((tris es).getD m z3).2.1) (((v.set (((tris es).getD m z3).1) ((v.getD (((tris es).getD m z3).1) 0) + g)).getD (((tris es).getD m z3).2.1) 0) + g)).getD (((tris es).getD m z3).2.2) 0) + g) (h1 := by first | omega | (simp only [List.length_set]; omega))) <| zZ) ?_
              refine kx [(84, (vin 3))] [] (zE (oAd 3 (hr := by decide)) <| zM <| zZ) ?_
              refine pwp_again (SimImp.refl _) ?_
              refine pwp_seq <| kx [(85, (vb false))] [] (zE (oBk false oLt) <| zZ) ?_
              refine pwp_seq <| pwp_cond (b := false) (by kernel_rfl) (fun h => by cases h) (fun _ => ?_)
              refine pwp_exit <| pwp_sim (wk (l := [(1, (vl 56 6 encEdge es)), (5, (.ref 0 0)), (9, (.own 1 3 1 es.length)), (11, (vl 70 3 encA70 (List.map (w3 es) (tris es)))), (18, (vi g)), (50, (vl 70 3 encA70 (List.map t3 (tris es)))), (51, (vin ((tris es).length))), (52, (vin m)), (83, (.d (encA70 (t3 ((tris es).getD m z3))))), (84, (vin 3)), (85, (vb false))]) (b := [(0, some (bx (encR x))), (1, some (bm enc_i64 (((v.set (((tris es).getD m z3).1) ((v.getD (((tris es).getD m z3).1) 0) + g)).set (((tris es).getD m z3).2.1) (((v.set (((tris es).getD m z3).1) ((v.getD (((tris es).getD m z3).1) 0) + g)).getD (((tris es).getD m z3).2.1) 0) + g)).set (((tris es).getD m z3).2.2) ((((v.set (((tris es).getD m z3).1) ((v.getD (((tris es).getD m z3).1) 0) + g)).set (((tris es).getD m z3).2.1) (((v.set (((tris es).getD m z3).1) ((v.getD (((tris es).getD m z3).1) 0) + g)).getD (((tris es).getD m z3).2.1) 0) + g)).getD (((tris es).getD m z3).2.2) 0) + g))))])) ?_
              refine kx [(52, (vin (m + 1)))] [] (zE (oAd (m + 1)) <| zM <| zZ) ?_
              exact ⟨(m + 1, (vT v ((tris es).getD m z3) g)), wk, ⟨by omega, seUp_s hs (show aroC es [((((tris es).getD m z3).1 : Nat) : Int), (wkP es ((tris es).getD m z3).1 ((tris es).getD m z3).2.1 ((tris es).getD m z3).2.2).1, (wkP es ((tris es).getD m z3).1 ((tris es).getD m z3).2.1 ((tris es).getD m z3).2.2).2] = 0 by omega), by rw [vts_s (by omega), ← hvv, show gnT p es ((tris es).getD m z3) = g from hg0.symm], VB_e (VB_s hb2 hg ((tris es).getD m z3).2.2) (by omega)⟩, (by first | omega | (dsimp only; omega))⟩
        · replace h5 := of_decide_eq_false h5
          refine pwp_exit <| pwp_seq <| kx [(21, (.own 6 3 1 0))] [(6, some (bm enc_i64 []))] (zOh 6 3 1 <| zZ) ?_
          refine pwp_seq <| pwp_seq <| kx [(96, (.own 1 3 1 es.length)), (97, (vin es.length)), (98, (vin 0))] [] (zM <| zE (oLo el60) <| zM <| zZ) ?_
          refine pwp_block <| pwp_loop (α := Nat × List Int) (fun (i, o) => ⟨[(21, (.own 6 3 1 o.length)), (96, (.own 1 3 1 es.length)), (97, (vin es.length)), (98, (vin i))], [(1, some (bm enc_i64 v)), (6, some (bm enc_i64 o))]⟩) (fun (i, o) => i ≤ es.length ∧ o = selU v i) (fun (i, o) => es.length - i) (0, []) wk ⟨Nat.zero_le _, rfl⟩ ?_
          rintro ⟨i, o⟩ ⟨hi, ho⟩
          have hol : o.length ≤ i := by rw [ho]; exact selU_len _ _
          refine pwp_seq <| kx [(99, (vb (decide (((i : Nat) : Int) < ((es.length : Nat) : Int)))))] [] (zE oLt <| zZ) ?_
          refine pwp_seq <| pwp_cond rfl (fun h8 => ?_) (fun h8 => ?_)
          · replace h8 := of_decide_eq_true h8
            refine pwp_skip <| pwp_seq <| pwp_block <| pwp_seq <| kx [(22, (vin i)), (23, (vi (v.getD i 0)))] [] (zM <| zE (oXo el60 i (hj := by first | omega | (simp only [List.length_set]; omega)) (h1 := by first | omega | (simp only [List.length_set]; omega))) <| zR (oLp sh3 i (0 : Int) (h1 := by first | omega | (simp only [List.length_set]; omega))) <| zM <| zM <| zZ) ?_
            refine pwp_seq <| kx [(104, (vb (decide (((0 : Nat) : Int) ≤ (v.getD i 0)))))] [] (zM <| zE oGe <| zZ) ?_
            refine pwp_cond rfl (fun h9 => ?_) (fun h9 => ?_)
            · replace h9 := of_decide_eq_true h9
              refine kf [(21, (.own 6 3 1 ((o ++ [((i : Nat) : Int)]).length)))] [(6, some (bm enc_i64 (o ++ [((i : Nat) : Int)])))] (zM <| zM <| zE (oBs el60 ze3 zo3) <| zA enc_i64 o [((i : Nat) : Int)] rfl el60 ze3 by3 <| zM <| zF) ?_
              refine kx [(98, (vin (i + 1)))] [] (zE (oAd (i + 1)) <| zM <| zZ) ?_
              exact ⟨(i + 1, o ++ [((i : Nat) : Int)]), wk, ⟨by omega, by rw [selU_y h9, ho]⟩, (by first | omega | (dsimp only; omega))⟩
            · replace h9 := of_decide_eq_false h9
              refine pwp_skip <| kx [(98, (vin (i + 1)))] [] (zE (oAd (i + 1)) <| zM <| zZ) ?_
              exact ⟨(i + 1, o), wk, ⟨by omega, by rw [selU_n h9, ho]⟩, (by first | omega | (dsimp only; omega))⟩
          · replace h8 := of_decide_eq_false h8
            refine pwp_exit <| pwp_seq <| pwp_sim (publish (t := 21) (k := 6) (es := List.map enc_i64 o) rfl rfl (pub_cells _ _ (fun _ => rfl)) (map_len _ _ rfl) (pub_take _ _ (fun _ => rfl) rfl)) ?_
            refine kx [(6, (vl 3 1 enc_i64 o)), (7, (vin 0))] [] (zM <| zM <| zM <| zZ) ?_
            refine pwp_ret ⟨_, (.tmp (d := (.sl 3 1 (List.map enc_i64 o))) rfl (.tmp (d := (.val (.int .i64 (((0 : Nat) : Int))))) rfl .nil)), ?_⟩
            have hse : seC es = 0 := se_yes (by omega) hs
            have hfin : selL (vts p es (tris es)) = o := by rw [ho, hvv, show m = (tris es).length by omega, List.take_length, show i = es.length by omega]; unfold selL; rw [vts_len]
            obtain ⟨q1, q2⟩ := sld_0 (es := es) (p := p) (bn_f h2) h4 hse
            rw [show slV z es x p = sldV es x p from okL_0 hc0, show slC z es x p = sldC es x p from okC_0 hc0, q1, q2, hfin]; rfl
theorem l8_sel (es : List REdge) (x : RRat) (p : Rat) (hx : QOk x p 1000) (n : Nat) (heo : EsOk n es) (hl2 : es.length ≤ 256) (hn : n ≤ 64) : Takes Tryz.prog 35 [(.sl 56 6 (List.map encEdge es)), (encR x)] (.tup [(.sl 3 1 (List.map enc_i64 (sldV es x p))), (.val (.int .i64 ((((sldC es x p) : Nat) : Int))))]) := by
  refine fn_intro Tryz.func35 rfl cb35 rfl ?_
  show PWp _ _ _ _ ⟨[(0, (vl 56 6 encEdge es)), (1, (.d (encR x)))], []⟩
  refine pwp_seq <| kx [(3, (.ref 0 0))] [(0, some (bx (encR x)))] (zN (oBx 0) <| zE (oNl 3 1) <| zM <| zZ) ?_
  refine pwp_seq <| pwp_seq <| kx [(22, (vb (!(validR x))))] [] (zR (oLa sh51) <| zE (oCl (g_valid x p (qok_up hx (by decide)))) <| zE oNt <| zZ) ?_
  refine pwp_cond (b := !(validR x)) rfl (fun h1 => ?_) (fun h1 => ?_)
  · refine pwp_seq <| kx [(4, (vl 3 1 enc_i64 [])), (5, (vin 1))] [] (zE (oNl 3 1) <| zM <| zZ) ?_
    refine pwp_ret ⟨_, (.tmp (d := (.sl 3 1 (List.map enc_i64 []))) rfl (.tmp (d := (.val (.int .i64 (((1 : Nat) : Int))))) rfl .nil)), ?_⟩
    obtain ⟨q1, q2⟩ := sld_1 (es := es) (p := p) (bn_t h1)
    rw [q1, q2]; rfl
  · refine pwp_skip <| pwp_seq <| pwp_seq <| kd [(31, (vb (decide ((signQ p) < ((0 : Nat) : Int)) || decide (((0 : Nat) : Int) < (cmpQ p ((1 : Int) : Rat))))))] [] mo ?_ ?_
    · refine wR (oLa sh51) <| wE (oCl (g_sign x p (qok_up hx (by decide)))) <| wE oLt <| wE (oV (vb (decide ((signQ p) < ((0 : Nat) : Int)))) (mv_ok (by kernel_rfl))) <| ?_
      rcases hb2 : (decide ((signQ p) < ((0 : Nat) : Int))) with _ | _
      · replace hb2 := of_decide_eq_false hb2
        exact wR (oLa sh51) <| wE (oCl (p_rint ((1 : Nat) : Int) (by omega) (by omega))) <| wE (oCl (g_compare x (ofQ ((1 : Int) : Rat)) p ((1 : Int) : Rat) (qok_up hx (by decide)) (qok_up (qok_of (ql_int (z := 1) (n := 3) (lenZ_int (by omega) (by omega)) (by decide))) (by decide)))) <| wE oGt <| wE oPo <| wZ
      · replace hb2 := of_decide_eq_true hb2
        exact wK <| wK <| wK <| wK <| wE oPt <| wZ
    refine pwp_cond rfl (fun h3 => ?_) (fun h3 => ?_)
    · refine pwp_seq <| kx [(4, (vl 3 1 enc_i64 [])), (5, (vin 2))] [] (zE (oNl 3 1) <| zM <| zZ) ?_
      refine pwp_ret ⟨_, (.tmp (d := (.sl 3 1 (List.map enc_i64 []))) rfl (.tmp (d := (.val (.int .i64 (((2 : Nat) : Int))))) rfl .nil)), ?_⟩
      obtain ⟨q1, q2⟩ := sld_2 (es := es) (p := p) (bn_f h1) h3
      rw [q1, q2]; rfl
    · refine pwp_skip <| pwp_seq <| kx [(6, (.own 1 3 1 es.length))] [(1, some (bm enc_i64 (List.replicate es.length 0)))] (zM <| zE (oLm el39) <| zN (oMk 1 enc_i64 (0 : Int) es.length es.length el60 ze3 zo3 by3 (hlN := by first | omega | (simp only [List.length_set]; omega)) (hcM := by first | omega | (simp only [List.length_set]; omega)) (hnm := by first | omega | (simp only [List.length_set]; omega)) (hb := by first | omega | (simp only [List.length_set]; omega))) <| zM <| zZ) ?_
      refine pwp_seq <| pwp_seq <| kx [(36, (vl 70 3 encA70 (List.map t3 (tris es)))), (37, (vin ((tris es).length))), (38, (vin 0))] [] (zM <| zE (oCl (l8_tris es n heo hn hl2)) <| zE (oLn el63 ((tris es).length)) <| zM <| zZ) ?_
      refine pwp_block <| pwp_loop (α := Nat × List Int) (fun (m, v) => ⟨[(0, (vl 56 6 encEdge es)), (3, (.ref 0 0)), (6, (.own 1 3 1 es.length)), (36, (vl 70 3 encA70 (List.map t3 (tris es)))), (37, (vin ((tris es).length))), (38, (vin m))], [(0, some (bx (encR x))), (1, some (bm enc_i64 v))]⟩) (fun (m, v) => m ≤ (tris es).length ∧ seUp es m ∧ v = vts p es ((tris es).take m) ∧ VB (3 * ((m : Nat) : Int)) v) (fun (m, v) => (tris es).length - m) (0, List.replicate es.length 0) wk ⟨Nat.zero_le _, seUp_0 _, rfl, VB_e (VB_0 _) rfl⟩ ?_
      rintro ⟨m, v⟩ ⟨hm, hs, hvv, hvb⟩
      have hvl : v.length = es.length := by rw [hvv, vts_len]
      have hml := tris_len hl2
      refine pwp_seq <| kx [(39, (vb (decide (((m : Nat) : Int) < (((tris es).length : Nat) : Int)))))] [] (zE oLt <| zZ) ?_
      refine pwp_seq <| pwp_cond rfl (fun h4 => ?_) (fun h4 => ?_)
      · replace h4 := of_decide_eq_true h4
        have htr := tris_at (es := es) (m := m) (by omega)
        obtain ⟨ht1, ht2, ht3, ht4⟩ := id htr
        refine pwp_skip <| pwp_seq <| pwp_block <| pwp_seq <| kx [(8, (.ref 2 0))] [(2, some (bx (encA70 (t3 ((tris es).getD m z3)))))] (zE (oXm el63 t3 m z3 (hj := by first | omega | (simp only [List.length_set]; omega)) (h1 := by first | omega | (simp only [List.length_set]; omega))) <| zE (oCa sh70) <| zH (oAl 2 ze70 zo70) <| zT (oSt sh70) <| zZ) ?_
        refine pwp_seq <| kx [(9, (vl 3 1 enc_i64 (wt es ((tris es).getD m z3))))] [] (zM <| zR (oLa sh70) <| zE (oCl (l8_wkof es (((tris es).getD m z3).1) (((tris es).getD m z3).2.1) (((tris es).getD m z3).2.2) n heo hl2 (by omega) (by omega) (by omega))) <| zM <| zE (oQd (.sl 3 1 (List.map enc_i64 (wkL es (((tris es).getD m z3).1) (((tris es).getD m z3).2.1) (((tris es).getD m z3).2.2)))) (.sl 3 1 (List.map enc_i64 (wt es ((tris es).getD m z3)))) oEx (by exact (by rw [wkL_wt htr]))) <| zE oEx <| zM <| zM <| zZ) ?_
        refine pwp_seq <| kx [(11, (.ref 3 0)), (12, (vin (aroC es (wt es ((tris es).getD m z3)))))] [(3, some (bx (encQuat (aroV es (wt es ((tris es).getD m z3))))))] (zM <| zM <| zE (oCl (l8_ard es (wt es ((tris es).getD m z3)) (by omega) (show 3 ≤ 1000000 by decide) hl2 heo.tok)) <| zM <| zE (oQd (encQuat (ardV es (wt es ((tris es).getD m z3)))) (encQuat (aroV es (wt es ((tris es).getD m z3)))) oEx (by exact (by rw [(wt_ard heo htr).2]))) <| zE (oQd (.val (.int .i64 ((((ardC es (wt es ((tris es).getD m z3))) : Nat) : Int)))) (.val (.int .i64 ((((aroC es (wt es ((tris es).getD m z3))) : Nat) : Int)))) oEx (by exact (by rw [(wt_ard heo htr).1]))) <| zH (oAl 3 ze28 zo28) <| zT (oSt sh28) <| zM <| zZ) ?_
        refine pwp_seq <| pwp_seq <| kx [(55, (vb ((((aroC es (wt es ((tris es).getD m z3))) : Nat) : Int) != ((0 : Nat) : Int))))] [] (zM <| zE oNe <| zZ) ?_
        refine pwp_cond rfl (fun h5 => ?_) (fun h5 => ?_)
        · replace h5 := bne_iff_ne.1 h5
          refine pwp_seq <| kx [(4, (vl 3 1 enc_i64 [])), (5, (vin (aroC es (wt es ((tris es).getD m z3)))))] [] (zM <| zE (oNl 3 1) <| zM <| zZ) ?_
          refine pwp_ret ⟨_, (.tmp (d := (.sl 3 1 (List.map enc_i64 []))) rfl (.tmp (d := (.val (.int .i64 ((((aroC es (wt es ((tris es).getD m z3))) : Nat) : Int))))) rfl .nil)), ?_⟩
          obtain ⟨q3, q4⟩ := se_no (es := es) (m := m) (by omega) (rot_ne h5)
          obtain ⟨q1, q2⟩ := sld_3 (es := es) (p := p) (bn_f h1) h3 q3
          rw [q1, q2, q4]; rfl
        · replace h5 := bne_eq_false_iff_eq.1 h5
          refine pwp_skip <| pwp_seq <| kx [(12, (vi 0)), (13, (.ref 4 0))] [(4, some (bx (encR (ofQ (chQ (RQuat.mk ((1 : Nat) : Int) 0 0 0) (aroV es (wt es ((tris es).getD m z3))))))))] (zE (oBd pl28 ze28 zo28) <| zR (oLa sh28) <| zE (oCl (l8_chord (RQuat.mk ((1 : Nat) : Int) 0 0 0) (aroV es (wt es ((tris es).getD m z3))) q1_ok (aro_ok heo.tok (wt_in htr) (show aroC es (wt es ((tris es).getD m z3)) = 0 by omega)))) <| zM <| zE oEx <| zE oEx <| zH (oAl 4 ze51 zo51) <| zT (oSt sh51) <| zM <| zZ) ?_
          refine pwp_seq <| pwp_seq <| kx [(64, (vb false))] [] (zM <| zE (oBk false oNe) <| zZ) ?_
          refine pwp_cond (b := false) (by kernel_rfl) (fun h => by cases h) (fun _ => ?_)
          refine pwp_skip <| pwp_seq <| kx [(14, (vin 1))] [] (zM <| zZ) ?_
          refine pwp_meet (α := Int) (fun g => ⟨[(0, (vl 56 6 encEdge es)), (3, (.ref 0 0)), (6, (.own 1 3 1 es.length)), (8, (.ref 2 0)), (14, (vi g)), (36, (vl 70 3 encA70 (List.map t3 (tris es)))), (37, (vin ((tris es).length))), (38, (vin m))], [(0, some (bx (encR x))), (1, some (bm enc_i64 v)), (2, some (bx (encA70 (t3 ((tris es).getD m z3)))))]⟩) (fun g => g = gnT p es ((tris es).getD m z3)) ?_ ?_
          · refine pwp_seq <| kx [(69, (vb (decide (((0 : Nat) : Int) < (cmpQ (chQ (RQuat.mk ((1 : Nat) : Int) 0 0 0) (aroV es (wt es ((tris es).getD m z3)))) p)))))] [] (zR (oLa sh51) <| zR (oLa sh51) <| zE (oCl (g_compare (ofQ (chQ (RQuat.mk ((1 : Nat) : Int) 0 0 0) (aroV es (wt es ((tris es).getD m z3))))) x (chQ (RQuat.mk ((1 : Nat) : Int) 0 0 0) (aroV es (wt es ((tris es).getD m z3)))) p (qok_up (qok_of (ql_chQ q1_ok (aro_ok heo.tok (wt_in htr) (show aroC es (wt es ((tris es).getD m z3)) = 0 by omega)))) (by decide)) (qok_up hx (by decide)))) <| zE oGt <| zZ) ?_
            refine pwp_cond rfl (fun h6 => ?_) (fun h6 => ?_)
            · replace h6 := of_decide_eq_true h6
              refine kx [(14, (vi (-1)))] [] (zM <| zZ) ?_
              exact met (-1) wk ((if_pos h6).symm)
            · replace h6 := of_decide_eq_false h6
              refine pwp_skip ?_
              exact met 1 wk ((if_neg h6).symm)
          · rintro g hg0
            have hg : g = 1 ∨ g = -1 := by rw [hg0]; exact gnS_01 _ _
            have hb0 := hvb
            have hb1 := VB_s hb0 hg ((tris es).getD m z3).1
            have hb2 := VB_s hb1 hg ((tris es).getD m z3).2.1
            refine pwp_seq <| kx [(70, (.d (encA70 (t3 ((tris es).getD m z3))))), (71, (vin 0))] [] (zR (oLa sh70) <| zM <| zZ) ?_
            refine pwp_block <| pwp_rounds 4 ?_
            refine pwp_round <| pwp_seq <| kx [(72, (vb true))] [] (zE (oBk true oLt) <| zZ) ?_
            refine pwp_seq <| pwp_cond (b := true) (by kernel_rfl) (fun _ => ?_) (fun h => by cases h)
            refine pwp_skip <| pwp_seq <| pwp_block <| pwp_seq <| kx [(16, (vin (((tris es).getD m z3).1)))] [] (zE (oXa ar70 sh3 (fun _ => rfl) 0) <| zM <| zZ) ?_
            refine kx [] [(1, some (bm enc_i64 (v.set (((tris es).getD m z3).1) ((v.getD (((tris es).getD m z3).1) 0) + g))))] (zM <| zM <| zE (oXo el60 (((tris es).getD m z3).1) (hj := by first | omega | (simp only [List.length_set]; omega)) (h1 := by first | omega | (simp only [List.length_set]; omega))) <| zR (oLp sh3 (((tris es).getD m z3).1) (0 : Int) (h1 := by first | omega | (simp only [List.length_set]; omega))) <| zM <| zE (zAd ((v.getD (((tris es).getD m z3).1) 0) + g) (hr := by exact (by first | exact vbw hb0 hg (by omega) _ | exact vbw hb1 hg (by omega) _ | exact vbw hb2 hg (by omega) _))) <| zE (oXo el60 (((tris es).getD m z3).1) (hj := by first | omega | (simp only [List.length_set]; omega)) (h1 := by first | omega | (simp only [List.length_set]; omega))) <| zT (oSp sh3 (((tris es).getD m z3).1) ((v.getD (((tris es).getD m z3).1) 0) + g) (h1 := by first | omega | (simp only [List.length_set]; omega))) <| zZ) ?_
            refine kx [(71, (vin 1))] [] (zE (oAd 1 (hr := by decide)) <| zM <| zZ) ?_
            refine pwp_again (SimImp.refl _) ?_
            refine pwp_seq <| kx [(72, (vb true))] [] (zE (oBk true oLt) <| zZ) ?_
            refine pwp_seq <| pwp_cond (b := true) (by kernel_rfl) (fun _ => ?_) (fun h => by cases h)
            refine pwp_skip <| pwp_seq <| pwp_block <| pwp_seq <| kx [(16, (vin (((tris es).getD m z3).2.1)))] [] (zE (oXa ar70 sh3 (fun _ => rfl) 1) <| zM <| zZ) ?_
            refine kx [] [(1, some (bm enc_i64 ((v.set (((tris es).getD m z3).1) ((v.getD (((tris es).getD m z3).1) 0) + g)).set (((tris es).getD m z3).2.1) (((v.set (((tris es).getD m z3).1) ((v.getD (((tris es).getD m z3).1) 0) + g)).getD (((tris es).getD m z3).2.1) 0) + g))))] (zM <| zM <| zE (oXo el60 (((tris es).getD m z3).2.1) (hj := by first | omega | (simp only [List.length_set]; omega)) (h1 := by first | omega | (simp only [List.length_set]; omega))) <| zR (oLp sh3 (((tris es).getD m z3).2.1) (0 : Int) (h1 := by first | omega | (simp only [List.length_set]; omega))) <| zM <| zE (zAd (((v.set (((tris es).getD m z3).1) ((v.getD (((tris es).getD m z3).1) 0) + g)).getD (((tris es).getD m z3).2.1) 0) + g) (hr := by exact (by first | exact vbw hb0 hg (by omega) _ | exact vbw hb1 hg (by omega) _ | exact vbw hb2 hg (by omega) _))) <| zE (oXo el60 (((tris es).getD m z3).2.1) (hj := by first | omega | (simp only [List.length_set]; omega)) (h1 := by first | omega | (simp only [List.length_set]; omega))) <| zT (oSp sh3 (((tris es).getD m z3).2.1) (((v.set (((tris es).getD m z3).1) ((v.getD (((tris es).getD m z3).1) 0) + g)).getD (((tris es).getD m z3).2.1) 0) + g) (h1 := by first | omega | (simp only [List.length_set]; omega))) <| zZ) ?_
            refine kx [(71, (vin 2))] [] (zE (oAd 2 (hr := by decide)) <| zM <| zZ) ?_
            refine pwp_again (SimImp.refl _) ?_
            refine pwp_seq <| kx [(72, (vb true))] [] (zE (oBk true oLt) <| zZ) ?_
            refine pwp_seq <| pwp_cond (b := true) (by kernel_rfl) (fun _ => ?_) (fun h => by cases h)
            refine pwp_skip <| pwp_seq <| pwp_block <| pwp_seq <| kx [(16, (vin (((tris es).getD m z3).2.2)))] [] (zE (oXa ar70 sh3 (fun _ => rfl) 2) <| zM <| zZ) ?_
            refine kx [] [(1, some (bm enc_i64 (((v.set (((tris es).getD m z3).1) ((v.getD (((tris es).getD m z3).1) 0) + g)).set (((tris es).getD m z3).2.1) (((v.set (((tris es).getD m z3).1) ((v.getD (((tris es).getD m z3).1) 0) + g)).getD (((tris es).getD m z3).2.1) 0) + g)).set (((tris es).getD m z3).2.2) ((((v.set (((tris es).getD m z3).1) ((v.getD (((tris es).getD m z3).1) 0) + g)).set (((tris es).getD m z3).2.1) (((v.set (((tris es).getD m z3).1) ((v.getD (((tris es).getD m z3).1) 0) + g)).getD (((tris es).getD m z3).2.1) 0) + g)).getD (((tris es).getD m z3).2.2) 0) + g))))] (zM <| zM <| zE (oXo el60 (((tris es).getD m z3).2.2) (hj := by first | omega | (simp only [List.length_set]; omega)) (h1 := by first | omega | (simp only [List.length_set]; omega))) <| zR (oLp sh3 (((tris es).getD m z3).2.2) (0 : Int) (h1 := by first | omega | (simp only [List.length_set]; omega))) <| zM <| zE (zAd ((((v.set (((tris es).getD m z3).1) ((v.getD (((tris es).getD m z3).1) 0) + g)).set (((tris es).getD m z3).2.1) (((v.set (((tris es).getD m z3).1) ((v.getD (((tris es).getD m z3).1) 0) + g)).getD (((tris es).getD m z3).2.1) 0) + g)).getD (((tris es).getD m z3).2.2) 0) + g) (hr := by exact (by first | exact vbw hb0 hg (by omega) _ | exact vbw hb1 hg (by omega) _ | exact vbw hb2 hg (by omega) _))) <| zE (oXo el60 (((tris es).getD m z3).2.2) (hj := by first | omega | (simp only [List.length_set]; omega)) (h1 := by first | omega | (simp only [List.length_set]; omega))) <| zT (oSp sh3 (((tris es).getD m z3).2.2) ((((v.set (((tris es).getD m z3).1) ((v.getD (((tris es).getD m z3).1) 0) + g)).set (((tris es).getD m z3).2.1) (((v.set (((tris es).getD m z3).1) ((v.getD (((tris es).getD m z3).1) 0) + g)).getD (((tris es).getD m z3).2.1) 0) + g)).getD (((tris es).getD m z3).2.2) 0) + g) (h1 := by first | omega | (simp only [List.length_set]; omega))) <| zZ) ?_
            refine kx [(71, (vin 3))] [] (zE (oAd 3 (hr := by decide)) <| zM <| zZ) ?_
            refine pwp_again (SimImp.refl _) ?_
            refine pwp_seq <| kx [(72, (vb false))] [] (zE (oBk false oLt) <| zZ) ?_
            refine pwp_seq <| pwp_cond (b := false) (by kernel_rfl) (fun h => by cases h) (fun _ => ?_)
            refine pwp_exit <| pwp_sim (wk (l := [(0, (vl 56 6 encEdge es)), (3, (.ref 0 0)), (6, (.own 1 3 1 es.length)), (14, (vi g)), (36, (vl 70 3 encA70 (List.map t3 (tris es)))), (37, (vin ((tris es).length))), (38, (vin m)), (70, (.d (encA70 (t3 ((tris es).getD m z3))))), (71, (vin 3)), (72, (vb false))]) (b := [(0, some (bx (encR x))), (1, some (bm enc_i64 (((v.set (((tris es).getD m z3).1) ((v.getD (((tris es).getD m z3).1) 0) + g)).set (((tris es).getD m z3).2.1) (((v.set (((tris es).getD m z3).1) ((v.getD (((tris es).getD m z3).1) 0) + g)).getD (((tris es).getD m z3).2.1) 0) + g)).set (((tris es).getD m z3).2.2) ((((v.set (((tris es).getD m z3).1) ((v.getD (((tris es).getD m z3).1) 0) + g)).set (((tris es).getD m z3).2.1) (((v.set (((tris es).getD m z3).1) ((v.getD (((tris es).getD m z3).1) 0) + g)).getD (((tris es).getD m z3).2.1) 0) + g)).getD (((tris es).getD m z3).2.2) 0) + g))))])) ?_
            refine kx [(38, (vin (m + 1)))] [] (zE (oAd (m + 1)) <| zM <| zZ) ?_
            exact ⟨(m + 1, (vT v ((tris es).getD m z3) g)), wk, ⟨by omega, seUp_s hs (show aroC es (wt es ((tris es).getD m z3)) = 0 by omega), by rw [vts_s (by omega), ← hvv, show gnT p es ((tris es).getD m z3) = g from hg0.symm], VB_e (VB_s hb2 hg ((tris es).getD m z3).2.2) (by omega)⟩, (by first | omega | (dsimp only; omega))⟩
      · replace h4 := of_decide_eq_false h4
        refine pwp_exit <| pwp_seq <| kx [(17, (.own 5 3 1 0))] [(5, some (bm enc_i64 []))] (zOh 5 3 1 <| zZ) ?_
        refine pwp_seq <| pwp_seq <| kx [(83, (.own 1 3 1 es.length)), (84, (vin es.length)), (85, (vin 0))] [] (zM <| zE (oLo el60) <| zM <| zZ) ?_
        refine pwp_block <| pwp_loop (α := Nat × List Int) (fun (i, o) => ⟨[(17, (.own 5 3 1 o.length)), (83, (.own 1 3 1 es.length)), (84, (vin es.length)), (85, (vin i))], [(1, some (bm enc_i64 v)), (5, some (bm enc_i64 o))]⟩) (fun (i, o) => i ≤ es.length ∧ o = selU v i) (fun (i, o) => es.length - i) (0, []) wk ⟨Nat.zero_le _, rfl⟩ ?_
        rintro ⟨i, o⟩ ⟨hi, ho⟩
        have hol : o.length ≤ i := by rw [ho]; exact selU_len _ _
        refine pwp_seq <| kx [(86, (vb (decide (((i : Nat) : Int) < ((es.length : Nat) : Int)))))] [] (zE oLt <| zZ) ?_
        refine pwp_seq <| pwp_cond rfl (fun h7 => ?_) (fun h7 => ?_)
        · replace h7 := of_decide_eq_true h7
          refine pwp_skip <| pwp_seq <| pwp_block <| pwp_seq <| kx [(18, (vin i)), (19, (vi (v.getD i 0)))] [] (zM <| zE (oXo el60 i (hj := by first | omega | (simp only [List.length_set]; omega)) (h1 := by first | omega | (simp only [List.length_set]; omega))) <| zR (oLp sh3 i (0 : Int) (h1 := by first | omega | (simp only [List.length_set]; omega))) <| zM <| zM <| zZ) ?_
          refine pwp_seq <| kx [(91, (vb (decide (((0 : Nat) : Int) ≤ (v.getD i 0)))))] [] (zM <| zE oGe <| zZ) ?_
          refine pwp_cond rfl (fun h8 => ?_) (fun h8 => ?_)
          · replace h8 := of_decide_eq_true h8
            refine kf [(17, (.own 5 3 1 ((o ++ [((i : Nat) : Int)]).length)))] [(5, some (bm enc_i64 (o ++ [((i : Nat) : Int)])))] (zM <| zM <| zE (oBs el60 ze3 zo3) <| zA enc_i64 o [((i : Nat) : Int)] rfl el60 ze3 by3 <| zM <| zF) ?_
            refine kx [(85, (vin (i + 1)))] [] (zE (oAd (i + 1)) <| zM <| zZ) ?_
            exact ⟨(i + 1, o ++ [((i : Nat) : Int)]), wk, ⟨by omega, by rw [selU_y h8, ho]⟩, (by first | omega | (dsimp only; omega))⟩
          · replace h8 := of_decide_eq_false h8
            refine pwp_skip <| kx [(85, (vin (i + 1)))] [] (zE (oAd (i + 1)) <| zM <| zZ) ?_
            exact ⟨(i + 1, o), wk, ⟨by omega, by rw [selU_n h8, ho]⟩, (by first | omega | (dsimp only; omega))⟩
        · replace h7 := of_decide_eq_false h7
          refine pwp_exit <| pwp_seq <| pwp_sim (publish (t := 17) (k := 5) (es := List.map enc_i64 o) rfl rfl (pub_cells _ _ (fun _ => rfl)) (map_len _ _ rfl) (pub_take _ _ (fun _ => rfl) rfl)) ?_
          refine kx [(4, (vl 3 1 enc_i64 o)), (5, (vin 0))] [] (zM <| zM <| zM <| zZ) ?_
          refine pwp_ret ⟨_, (.tmp (d := (.sl 3 1 (List.map enc_i64 o))) rfl (.tmp (d := (.val (.int .i64 (((0 : Nat) : Int))))) rfl .nil)), ?_⟩
          have hse : seC es = 0 := se_yes (by omega) hs
          have hfin : selL (vts p es (tris es)) = o := by rw [ho, hvv, show m = (tris es).length by omega, List.take_length, show i = es.length by omega]; unfold selL; rw [vts_len]
          obtain ⟨q1, q2⟩ := sld_0 (es := es) (p := p) (bn_f h1) h3 hse
          rw [q1, q2, hfin]; rfl
end Go.Proofs.YtihgdjljnaekmaaGreat
