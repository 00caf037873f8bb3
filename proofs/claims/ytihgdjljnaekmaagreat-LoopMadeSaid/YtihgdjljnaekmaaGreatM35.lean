/- Part 35 of a proof: rules, plain facts, and functions walked. -/
import Derived.Test.YtihgdjljnaekmaaGreatM34
import Derived.Test.YtihgdjljnaekmaaGreatM30
namespace Go.Proofs.YtihgdjljnaekmaaGreat
open Go.Fid
set_option maxRecDepth 4000
set_option linter.unusedVariables false
set_option linter.unusedSimpArgs false
theorem cb36 : callB Tryz.prog 36 = true := by kernel_rfl
theorem vbw {b : Int} {v : List Int} {g : Int} (h : VB b v) (hg : g = 1 ∨ g = -1) (hb : b ≤ 100000000) (k : Nat) : IntKind.i64.wrap (v.getD k 0 + g) = v.getD k 0 + g := wAny rfl (VB_w h hg hb k).1 (VB_w h hg hb k).2
theorem VB_e {b c : Int} {v : List Int} (h : VB b v) (e : b = c) : VB c v := e ▸ h
theorem l_Sel (z : Int) (es : List REdge) (x : RRat) (p : Rat) (hx : QOk x p 1000) (hb : es.length ≤ 1000000) : Takes Tryz.prog 36 [(.val (.int .i64 (z))), (.sl 56 6 (List.map encEdge es)), (encR x)] (.tup [(.sl 3 1 (List.map enc_i64 (slV z es x p))), (.val (.int .i64 ((((slC z es x p) : Nat) : Int))))]) := by
  refine fn_intro Tryz.func36 rfl cb36 rfl ?_
  show PWp _ _ _ _ ⟨[(0, (vi z)), (1, (vl 56 6 encEdge es)), (2, (.d (encR x)))], []⟩
  refine pwp_seq <| kx [(5, (.ref 0 0))] [(0, some (bx (encR x)))] (zN (oBx 0) <| zE (oNl 3 1) <| zM <| zZ) ?_
  refine pwp_seq <| pwp_seq <| kx [(8, (vin (lopC z es)))] [] (zM <| zM <| zE (oCl (l_check z es hb)) <| zM <| zZ) ?_
  refine pwp_seq <| kx [(28, (vb ((((lopC z es) : Nat) : Int) != ((0 : Nat) : Int))))] [] (zM <| zE oNe <| zZ) ?_
  refine pwp_cond rfl (fun h1 => ?_) (fun h1 => ?_)
  · replace h1 := bne_iff_ne.1 h1
    refine pwp_seq <| kx [(6, (vl 3 1 enc_i64 [])), (7, (vin (lopC z es)))] [] (zM <| zE (oNl 3 1) <| zM <| zZ) ?_
    refine pwp_ret ⟨_, (.tmp (d := (.sl 3 1 (List.map enc_i64 []))) rfl (.tmp (d := (.val (.int .i64 ((((lopC z es) : Nat) : Int))))) rfl .nil)), ?_⟩
    rw [show slV z es x p = [] from okL_n (rot_ne h1), show slC z es x p = lopC z es from okC_n (rot_ne h1)]; rfl
  · replace h1 := bne_eq_false_iff_eq.1 h1
    have hc0 : lopC z es = 0 := by omega
    obtain ⟨hz1, hz2, hl2, heo⟩ := lopC_0 hc0
    refine pwp_skip <| pwp_seq <| pwp_seq <| kx [(32, (vb (!(validR x))))] [] (zR (oLa sh51) <| zE (oCl (f_valid x p (qok_up hx (by decide)))) <| zE oNt <| zZ) ?_
    refine pwp_cond (b := !(validR x)) rfl (fun h2 => ?_) (fun h2 => ?_)
    · refine pwp_seq <| kx [(6, (vl 3 1 enc_i64 [])), (7, (vin 1))] [] (zE (oNl 3 1) <| zM <| zZ) ?_
      refine pwp_ret ⟨_, (.tmp (d := (.sl 3 1 (List.map enc_i64 []))) rfl (.tmp (d := (.val (.int .i64 (((1 : Nat) : Int))))) rfl .nil)), ?_⟩
      obtain ⟨q1, q2⟩ := sld_1 (es := es) (p := p) (bn_t h2)
      rw [show slV z es x p = sldV es x p from okL_0 hc0, show slC z es x p = sldC es x p from okC_0 hc0, q1, q2]; rfl
    · refine pwp_skip <| pwp_seq <| pwp_seq <| kd [(41, (vb (decide ((signQ p) < ((0 : Nat) : Int)) || decide (((0 : Nat) : Int) < (cmpQ p ((1 : Int) : Rat))))))] [] mo ?_ ?_
      · refine wR (oLa sh51) <| wE (oCl (f_sign x p (qok_up hx (by decide)))) <| wE oLt <| wE (oV (vb (decide ((signQ p) < ((0 : Nat) : Int)))) (mv_ok (by kernel_rfl))) <| ?_
        rcases hb3 : (decide ((signQ p) < ((0 : Nat) : Int))) with _ | _
        · replace hb3 := of_decide_eq_false hb3
          exact wR (oLa sh51) <| wE (oCl (f_whole 1 (by decide) (by decide))) <| wE (oCl (f_compare x (ofQ ((1 : Int) : Rat)) p ((1 : Int) : Rat) (qok_up hx (by decide)) (qok_up (qok_of (ql_int (z := 1) (lenZ_one (by decide)) (by decide))) (by decide)))) <| wE oGt <| wE oPo <| wZ
        · replace hb3 := of_decide_eq_true hb3
          exact wK <| wK <| wK <| wK <| wE oPt <| wZ
      refine pwp_cond rfl (fun h4 => ?_) (fun h4 => ?_)
      · refine pwp_seq <| kx [(6, (vl 3 1 enc_i64 [])), (7, (vin 2))] [] (zE (oNl 3 1) <| zM <| zZ) ?_
        refine pwp_ret ⟨_, (.tmp (d := (.sl 3 1 (List.map enc_i64 []))) rfl (.tmp (d := (.val (.int .i64 (((2 : Nat) : Int))))) rfl .nil)), ?_⟩
        obtain ⟨q1, q2⟩ := sld_2 (es := es) (p := p) (bn_f h2) h4
        rw [show slV z es x p = sldV es x p from okL_0 hc0, show slC z es x p = sldC es x p from okC_0 hc0, q1, q2]; rfl
      · refine pwp_skip <| pwp_seq <| kx [(9, (.own 1 3 1 es.length))] [(1, some (bm enc_i64 (List.replicate es.length 0)))] (zM <| zE (oLm el39) <| zN (oMk 1 enc_i64 (0 : Int) es.length es.length el60 ze3 zo3 by3 (hlN := by first | omega | (simp only [List.length_set]; omega)) (hcM := by first | omega | (simp only [List.length_set]; omega)) (hnm := by first | omega | (simp only [List.length_set]; omega)) (hb := by first | omega | (simp only [List.length_set]; omega))) <| zM <| zZ) ?_
        refine pwp_seq <| kx [(10, (vl 70 3 encA70 (List.map t3 (tris es)))), (11, (vl 70 3 encA70 (List.map (w3 es) (tris es))))] [] (zM <| zE (oCl (l_tris es z.toNat heo (by omega) hl2)) <| zM <| zE oEx <| zE oEx <| zM <| zM <| zZ) ?_
        refine pwp_seq <| pwp_seq <| kx [(50, (vl 70 3 encA70 (List.map t3 (tris es)))), (51, (vin ((tris es).length))), (52, (vin 0))] [] (zM <| zE (oLn el63 ((tris es).length)) <| zM <| zZ) ?_
        refine pwp_block <| pwp_loop (α := Nat × List Int) (fun (m, v) => ⟨[(1, (vl 56 6 encEdge es)), (5, (.ref 0 0)), (9, (.own 1 3 1 es.length)), (11, (vl 70 3 encA70 (List.map (w3 es) (tris es)))), (50, (vl 70 3 encA70 (List.map t3 (tris es)))), (51, (vin ((tris es).length))), (52, (vin m))], [(0, some (bx (encR x))), (1, some (bm enc_i64 v))]⟩) (fun (m, v) => m ≤ (tris es).length ∧ seUp es m ∧ v = vts p es ((tris es).take m) ∧ VB (3 * ((m : Nat) : Int)) v) (fun (m, v) => (tris es).length - m) (0, List.replicate es.length 0) wk ⟨Nat.zero_le _, seUp_0 _, rfl, VB_e (VB_0 _) rfl⟩ ?_
        rintro ⟨m, v⟩ ⟨hm, hs, hvv, hvb⟩
        have hvl : v.length = es.length := by rw [hvv, vts_len]
        have hml := tris_len hl2
        refine pwp_seq <| kx [(53, (vb (decide (((m : Nat) : Int) < (((tris es).length : Nat) : Int)))))] [] (zE oLt <| zZ) ?_
        refine pwp_seq <| pwp_cond rfl (fun h5 => ?_) (fun h5 => ?_)
        · replace h5 := of_decide_eq_true h5
          have htr := tris_at (es := es) (m := m) (by omega)
          obtain ⟨ht1, ht2, ht3, ht4⟩ := id htr
          refine pwp_skip <| pwp_seq <| pwp_block <| pwp_seq <| kx [(12, (vin m)), (13, (.ref 2 0))] [(2, some (bx (encA70 (t3 ((tris es).getD m z3)))))] (zM <| zE (oXm el63 t3 m z3 (hj := by first | omega | (simp only [List.length_set]; omega)) (h1 := by first | omega | (simp only [List.length_set]; omega))) <| zE (oCa sh70) <| zH (oAl 2 ze70 zo70) <| zM <| zT (oSt sh70) <| zZ) ?_
          refine pwp_seq <| kx [(14, (.ref 3 0))] [(3, some (bx (encA70 (w3 es ((tris es).getD m z3)))))] (zM <| zM <| zE (oXm el63 (w3 es) m z3 (hj := by first | omega | (simp only [List.length_set]; omega)) (h1 := by first | omega | (simp only [List.length_set]; omega))) <| zE (oCa sh70) <| zH (oAl 3 ze70 zo70) <| zT (oSt sh70) <| zZ) ?_
          refine pwp_seq <| kx [(15, (.ref 4 0)), (16, (vin (aroC es [((((tris es).getD m z3).1 : Nat) : Int), (wkP es ((tris es).getD m z3).1 ((tris es).getD m z3).2.1 ((tris es).getD m z3).2.2).1, (wkP es ((tris es).getD m z3).1 ((tris es).getD m z3).2.1 ((tris es).getD m z3).2.2).2])))] [(4, some (bx (encQuat (aroV es [((((tris es).getD m z3).1 : Nat) : Int), (wkP es ((tris es).getD m z3).1 ((tris es).getD m z3).2.1 ((tris es).getD m z3).2.2).1, (wkP es ((tris es).getD m z3).1 ((tris es).getD m z3).2.1 ((tris es).getD m z3).2.2).2]))))] (zM <| zE (e_slv (by exact rfl) ar70 (by exact rfl) (by kernel_rfl) (by kernel_rfl)) <| zR ⟨(bx (encA70 (w3 es ((tris es).getD m z3)))), e_clv (es := List.map enc_i64 [((((tris es).getD m z3).1 : Nat) : Int), (wkP es ((tris es).getD m z3).1 ((tris es).getD m z3).2.1 ((tris es).getD m z3).2.2).1, (wkP es ((tris es).getD m z3).1 ((tris es).getD m z3).2.1 ((tris es).getD m z3).2.2).2]) (l_aro es 1000000 [((((tris es).getD m z3).1 : Nat) : Int), (wkP es ((tris es).getD m z3).1 ((tris es).getD m z3).2.1 ((tris es).getD m z3).2.2).1, (wkP es ((tris es).getD m z3).1 ((tris es).getD m z3).2.1 ((tris es).getD m z3).2.2).2] hb (show 3 ≤ 1000000 by decide) heo.tok (wt_in htr)) (by exact rfl) (by kernel_rfl) (by exact rfl) (.d (.v .nil)) (pubs_cells _ _ (fun _ => rfl)) (by kernel_rfl) (by kernel_rfl) (.tup (avo_cons (avo_encQuat _) (avo_cons (.val _) avo_nil))), by kernel_rfl⟩ <| zM <| zE oEx <| zE oEx <| zH (oAl 4 ze28 zo28) <| zT (oSt sh28) <| zM <| zZ) ?_
          refine pwp_seq <| pwp_seq <| kx [(68, (vb ((((aroC es [((((tris es).getD m z3).1 : Nat) : Int), (wkP es ((tris es).getD m z3).1 ((tris es).getD m z3).2.1 ((tris es).getD m z3).2.2).1, (wkP es ((tris es).getD m z3).1 ((tris es).getD m z3).2.1 ((tris es).getD m z3).2.2).2]) : Nat) : Int) != ((0 : Nat) : Int))))] [] (zM <| zE oNe <| zZ) ?_
          refine pwp_cond rfl (fun h6 => ?_) (fun h6 => ?_)
          · replace h6 := bne_iff_ne.1 h6
            refine pwp_seq <| kx [(6, (vl 3 1 enc_i64 [])), (7, (vin (aroC es [((((tris es).getD m z3).1 : Nat) : Int), (wkP es ((tris es).getD m z3).1 ((tris es).getD m z3).2.1 ((tris es).getD m z3).2.2).1, (wkP es ((tris es).getD m z3).1 ((tris es).getD m z3).2.1 ((tris es).getD m z3).2.2).2])))] [] (zM <| zE (oNl 3 1) <| zM <| zZ) ?_
            refine pwp_ret ⟨_, (.tmp (d := (.sl 3 1 (List.map enc_i64 []))) rfl (.tmp (d := (.val (.int .i64 ((((aroC es [((((tris es).getD m z3).1 : Nat) : Int), (wkP es ((tris es).getD m z3).1 ((tris es).getD m z3).2.1 ((tris es).getD m z3).2.2).1, (wkP es ((tris es).getD m z3).1 ((tris es).getD m z3).2.1 ((tris es).getD m z3).2.2).2]) : Nat) : Int))))) rfl .nil)), ?_⟩
            obtain ⟨q3, q4⟩ := se_no (es := es) (m := m) (by omega) (rot_ne h6)
            obtain ⟨q1, q2⟩ := sld_3 (es := es) (p := p) (bn_f h2) h4 q3
            rw [show slV z es x p = sldV es x p from okL_0 hc0, show slC z es x p = sldC es x p from okC_0 hc0, q1, q2, show aroC es [((((tris es).getD m z3).1 : Nat) : Int), (wkP es ((tris es).getD m z3).1 ((tris es).getD m z3).2.1 ((tris es).getD m z3).2.2).1, (wkP es ((tris es).getD m z3).1 ((tris es).getD m z3).2.1 ((tris es).getD m z3).2.2).2] = 3 from q4]; rfl
          · replace h6 := bne_eq_false_iff_eq.1 h6
            refine pwp_skip <| pwp_seq <| kd [(16, (vi 0)), (17, (.ref 5 0))] [(5, some (bx (encR (ofQ (chQ q1 (aroV es [((((tris es).getD m z3).1 : Nat) : Int), (wkP es ((tris es).getD m z3).1 ((tris es).getD m z3).2.1 ((tris es).getD m z3).2.2).1, (wkP es ((tris es).getD m z3).1 ((tris es).getD m z3).2.1 ((tris es).getD m z3).2.2).2]))))))] mo (wE (oCl l_one) <| wR (oLa sh28) <| wE (oCl (l_chord q1 (aroV es [((((tris es).getD m z3).1 : Nat) : Int), (wkP es ((tris es).getD m z3).1 ((tris es).getD m z3).2.1 ((tris es).getD m z3).2.2).1, (wkP es ((tris es).getD m z3).1 ((tris es).getD m z3).2.1 ((tris es).getD m z3).2.2).2]) q1_ok (aro_ok heo.tok (wt_in htr) (show aroC es [((((tris es).getD m z3).1 : Nat) : Int), (wkP es ((tris es).getD m z3).1 ((tris es).getD m z3).2.1 ((tris es).getD m z3).2.2).1, (wkP es ((tris es).getD m z3).1 ((tris es).getD m z3).2.1 ((tris es).getD m z3).2.2).2] = 0 by omega)))) <| wM <| wE oEx <| wE oEx <| wH (hc := by kernel_rfl) (oAl 5 ze51 zo51) <| wT (oSt sh51) <| wM <| wZ) ?_
            refine pwp_seq <| pwp_seq <| kx [(77, (vb false))] [] (zM <| zE (oBk false oNe) <| zZ) ?_
            refine pwp_cond (b := false) (by kernel_rfl) (fun h => by cases h) (fun _ => ?_)
            refine pwp_skip <| pwp_seq <| kx [(18, (vin 1))] [] (zM <| zZ) ?_
            refine pwp_meet (α := Int) (fun g => ⟨[(1, (vl 56 6 encEdge es)), (5, (.ref 0 0)), (9, (.own 1 3 1 es.length)), (11, (vl 70 3 encA70 (List.map (w3 es) (tris es)))), (13, (.ref 2 0)), (18, (vi g)), (50, (vl 70 3 encA70 (List.map t3 (tris es)))), (51, (vin ((tris es).length))), (52, (vin m))], [(0, some (bx (encR x))), (1, some (bm enc_i64 v)), (2, some (bx (encA70 (t3 ((tris es).getD m z3)))))]⟩) (fun g => g = gnT p es ((tris es).getD m z3)) ?_ ?_
            · refine pwp_seq <| kx [(82, (vb (decide (((0 : Nat) : Int) < (cmpQ (chQ q1 (aroV es [((((tris es).getD m z3).1 : Nat) : Int), (wkP es ((tris es).getD m z3).1 ((tris es).getD m z3).2.1 ((tris es).getD m z3).2.2).1, (wkP es ((tris es).getD m z3).1 ((tris es).getD m z3).2.1 ((tris es).getD m z3).2.2).2])) p)))))] [] (zR (oLa sh51) <| zR (oLa sh51) <| zE (oCl (f_compare (ofQ (chQ q1 (aroV es [((((tris es).getD m z3).1 : Nat) : Int), (wkP es ((tris es).getD m z3).1 ((tris es).getD m z3).2.1 ((tris es).getD m z3).2.2).1, (wkP es ((tris es).getD m z3).1 ((tris es).getD m z3).2.1 ((tris es).getD m z3).2.2).2]))) x (chQ q1 (aroV es [((((tris es).getD m z3).1 : Nat) : Int), (wkP es ((tris es).getD m z3).1 ((tris es).getD m z3).2.1 ((tris es).getD m z3).2.2).1, (wkP es ((tris es).getD m z3).1 ((tris es).getD m z3).2.1 ((tris es).getD m z3).2.2).2])) p (qok_up (qok_of (ql_chQ q1_ok (aro_ok heo.tok (wt_in htr) (show aroC es [((((tris es).getD m z3).1 : Nat) : Int), (wkP es ((tris es).getD m z3).1 ((tris es).getD m z3).2.1 ((tris es).getD m z3).2.2).1, (wkP es ((tris es).getD m z3).1 ((tris es).getD m z3).2.1 ((tris es).getD m z3).2.2).2] = 0 by omega)))) (by decide)) (qok_up hx (by decide)))) <| zE oGt <| zZ) ?_
              refine pwp_cond rfl (fun h7 => ?_) (fun h7 => ?_)
              · replace h7 := of_decide_eq_true h7
                refine kx [(18, (vi (-1)))] [] (zM <| zZ) ?_
                exact met (-1) wk ((if_pos h7).symm)
              · replace h7 := of_decide_eq_false h7
                refine pwp_skip ?_
                exact met 1 wk ((if_neg h7).symm)
            · rintro g hg0
              have hg : g = 1 ∨ g = -1 := by rw [hg0]; exact gnS_01 _ _
              have hb0 := hvb
              have hb1 := VB_s hb0 hg ((tris es).getD m z3).1
              have hb2 := VB_s hb1 hg ((tris es).getD m z3).2.1
              refine pwp_seq <| kx [(83, (.d (encA70 (t3 ((tris es).getD m z3))))), (84, (vin 0))] [] (zR (oLa sh70) <| zM <| zZ) ?_
              refine pwp_block <| pwp_rounds 4 ?_
              refine pwp_round <| pwp_seq <| kx [(85, (vb true))] [] (zE (oBk true oLt) <| zZ) ?_
              refine pwp_seq <| pwp_cond (b := true) (by kernel_rfl) (fun _ => ?_) (fun h => by cases h)
              refine pwp_skip <| pwp_seq <| pwp_block <| pwp_seq <| kx [(20, (vin (((tris es).getD m z3).1)))] [] (zE (oXa ar70 sh3 (fun _ => rfl) 0) <| zM <| zZ) ?_
              refine kx [] [(1, some (bm enc_i64 (v.set (((tris es).getD m z3).1) ((v.getD (((tris es).getD m z3).1) 0) + g))))] (zM <| zM <| zE (oXo el60 (((tris es).getD m z3).1) (hj := by first | omega | (simp only [List.length_set]; omega)) (h1 := by first | omega | (simp only [List.length_set]; omega))) <| zR (oLp sh3 (((tris es).getD m z3).1) (0 : Int) (h1 := by first | omega | (simp only [List.length_set]; omega))) <| zM <| zE (zAd ((v.getD (((tris es).getD m z3).1) 0) + g) (hr := by exact (by first | exact vbw hb0 hg (by omega) _ | exact vbw hb1 hg (by omega) _ | exact vbw hb2 hg (by omega) _))) <| zE (oXo el60 (((tris es).getD m z3).1) (hj := by first | omega | (simp only [List.length_set]; omega)) (h1 := by first | omega | (simp only [List.length_set]; omega))) <| zT (oSp sh3 (((tris es).getD m z3).1) ((v.getD (((tris es).getD m z3).1) 0) + g) (h1 := by first | omega | (simp only [List.length_set]; omega))) <| zZ) ?_
              refine kx [(84, (vin 1))] [] (zE (oAd 1 (hr := by decide)) <| zM <| zZ) ?_
              refine pwp_again (SimImp.refl _) ?_
              refine pwp_seq <| kx [(85, (vb true))] [] (zE (oBk true oLt) <| zZ) ?_
              refine pwp_seq <| pwp_cond (b := true) (by kernel_rfl) (fun _ => ?_) (fun h => by cases h)
              refine pwp_skip <| pwp_seq <| pwp_block <| pwp_seq <| kx [(20, (vin (((tris es).getD m z3).2.1)))] [] (zE (oXa ar70 sh3 (fun _ => rfl) 1) <| zM <| zZ) ?_
              refine kx [] [(1, some (bm enc_i64 ((v.set (((tris es).getD m z3).1) ((v.getD (((tris es).getD m z3).1) 0) + g)).set (((tris es).getD m z3).2.1) (((v.set (((tris es).getD m z3).1) ((v.getD (((tris es).getD m z3).1) 0) + g)).getD (((tris es).getD m z3).2.1) 0) + g))))] (zM <| zM <| zE (oXo el60 (((tris es).getD m z3).2.1) (hj := by first | omega | (simp only [List.length_set]; omega)) (h1 := by first | omega | (simp only [List.length_set]; omega))) <| zR (oLp sh3 (((tris es).getD m z3).2.1) (0 : Int) (h1 := by first | omega | (simp only [List.length_set]; omega))) <| zM <| zE (zAd (((v.set (((tris es).getD m z3).1) ((v.getD (((tris es).getD m z3).1) 0) + g)).getD (((tris es).getD m z3).2.1) 0) + g) (hr := by exact (by first | exact vbw hb0 hg (by omega) _ | exact vbw hb1 hg (by omega) _ | exact vbw hb2 hg (by omega) _))) <| zE (oXo el60 (((tris es).getD m z3).2.1) (hj := by first | omega | (simp only [List.length_set]; omega)) (h1 := by first | omega | (simp only [List.length_set]; omega))) <| zT (oSp sh3 (((tris es).getD m z3).2.1) (((v.set (((tris es).getD m z3).1) ((v.getD (((tris es).getD m z3).1) 0) + g)).getD (((tris es).getD m z3).2.1) 0) + g) (h1 := by first | omega | (simp only [List.length_set]; omega))) <| zZ) ?_
              refine kx [(84, (vin 2))] [] (zE (oAd 2 (hr := by decide)) <| zM <| zZ) ?_
              refine pwp_again (SimImp.refl _) ?_
              refine pwp_seq <| kx [(85, (vb true))] [] (zE (oBk true oLt) <| zZ) ?_
              refine pwp_seq <| pwp_cond (b := true) (by kernel_rfl) (fun _ => ?_) (fun h => by cases h)
              refine pwp_skip <| pwp_seq <| pwp_block <| pwp_seq <| kx [(20, (vin (((tris es).getD m z3).2.2)))] [] (zE (oXa ar70 sh3 (fun _ => rfl) 2) <| zM <| zZ) ?_
              refine kx [] [(1, some (bm enc_i64 (((v.set (((tris es).getD m z3).1) ((v.getD (((tris es).getD m z3).1) 0) + g)).set (((tris es).getD m z3).2.1) (((v.set (((tris es).getD m z3).1) ((v.getD (((tris es).getD m z3).1) 0) + g)).getD (((tris es).getD m z3).2.1) 0) + g)).set (((tris es).getD m z3).2.2) ((((v.set (((tris es).getD m z3).1) ((v.getD (((tris es).getD m z3).1) 0) + g)).set (((tris es).getD m z3).2.1) (((v.set (((tris es).getD m z3).1) ((v.getD (((tris es).getD m z3).1) 0) + g)).getD (((tris es).getD m z3).2.1) 0) + g)).getD (((tris es).getD m z3).2.2) 0) + g))))] (zM <| zM <| zE (oXo el60 (((tris es).getD m z3).2.2) (hj := by first | omega | (simp only [List.length_set]; omega)) (h1 := by first | omega | (simp only [List.length_set]; omega))) <| zR (oLp sh3 (((tris es).getD m z3).2.2) (0 : Int) (h1 := by first | omega | (simp only [List.length_set]; omega))) <| zM <| zE (zAd ((((v.set (((tris es).getD m z3).1) ((v.getD (((tris es).getD m z3).1) 0) + g)).set (((tris es).getD m z3).2.1) (((v.set (((tris es).getD m z3).1) ((v.getD (((tris es).getD m z3).1) 0) + g)).getD (((tris es).getD m z3).2.1) 0) + g)).getD (((tris es).getD m z3).2.2) 0) + g) (hr := by exact (by first | exact vbw hb0 hg (by omega) _ | exact vbw hb1 hg (by omega) _ | exact vbw hb2 hg (by omega) _))) <| zE (oXo el60 (((tris es).getD m z3).2.2) (hj := by first | omega | (simp only [List.length_set]; omega)) (h1 := by first | omega | (simp only [List.length_set]; omega))) <| zT (oSp sh3 (((tris es).getD m z3).2.2) ((((v.set (((tris es).getD m z3).1) ((v.getD (((tris es).getD m z3).1) 0) + g)).set (((tris es).getD m z3).2.1) (((v.set (((tris es).getD m z3).1) ((v.getD (((tris es).getD m z3).1) 0) + g)).getD (((tris es).getD m z3).2.1) 0) + g)).getD (((tris es).getD m z3).2.2) 0) + g) (h1 := by first | omega | (simp only [List.length_set]; omega))) <| zZ) ?_
              refine kx [(84, (vin 3))] [] (zE (oAd 3 (hr := by decide)) <| zM <| zZ) ?_
              refine pwp_again (SimImp.refl _) ?_
              refine pwp_seq <| kx [(85, (vb false))] [] (zE (oBk false oLt) <| zZ) ?_
              refine pwp_seq <| pwp_cond (b := false) (by kernel_rfl) (fun h => by cases h) (fun _ => ?_)
              refine pwp_exit <| pwp_sim (wk (l := [(1, (vl 56 6 encEdge es)), (5, (.ref 0 0)), (9, (.own 1 3 1 es.length)), (11, (vl 70 3 encA70 (List.map (w3 es) (tris es)))), (18, (vi g)), (50, (vl 70 3 encA70 (List.map t3 (tris es)))), (51, (vin ((tris es).length))), (52, (vin m)), (83, (.d (encA70 (t3 ((tris es).getD m z3))))), (84, (vin 3)), (85, (vb false))]) (b := [(0, some (bx (encR x))), (1, some (bm enc_i64 (((v.set (((tris es).getD m z3).1) ((v.getD (((tris es).getD m z3).1) 0) + g)).set (((tris es).getD m z3).2.1) (((v.set (((tris es).getD m z3).1) ((v.getD (((tris es).getD m z3).1) 0) + g)).getD (((tris es).getD m z3).2.1) 0) + g)).set (((tris es).getD m z3).2.2) ((((v.set (((tris es).getD m z3).1) ((v.getD (((tris es).getD m z3).1) 0) + g)).set (((tris es).getD m z3).2.1) (((v.set (((tris es).getD m z3).1) ((v.getD (((tris es).getD m z3).1) 0) + g)).getD (((tris es).getD m z3).2.1) 0) + g)).getD (((tris es).getD m z3).2.2) 0) + g))))])) ?_
              refine kx [(52, (vin (m + 1)))] [] (zE (oAd (m + 1)) <| zM <| zZ) ?_
              exact ⟨(m + 1, (vT v ((tris es).getD m z3) g)), wk, ⟨by omega, seUp_s hs (show aroC es [((((tris es).getD m z3).1 : Nat) : Int), (wkP es ((tris es).getD m z3).1 ((tris es).getD m z3).2.1 ((tris es).getD m z3).2.2).1, (wkP es ((tris es).getD m z3).1 ((tris es).getD m z3).2.1 ((tris es).getD m z3).2.2).2] = 0 by omega), by rw [vts_s (by omega), ← hvv, show gnT p es ((tris es).getD m z3) = g from hg0.symm], VB_e (VB_s hb2 hg ((tris es).getD m z3).2.2) (by omega)⟩, (by first | omega | (dsimp only; omega))⟩
        · replace h5 := of_decide_eq_false h5
          refine pwp_exit <| pwp_seq <| kx [(21, (.own 6 3 1 0))] [(6, some (bm enc_i64 []))] (zOh 6 3 1 <| zZ) ?_
          refine pwp_seq <| pwp_seq <| kx [(96, (.own 1 3 1 es.length)), (97, (vin es.length)), (98, (vin 0))] [] (zM <| zE (oLo el60) <| zM <| zZ) ?_
          refine pwp_block <| pwp_loop (α := Nat × List Int) (fun (i, o) => ⟨[(21, (.own 6 3 1 o.length)), (96, (.own 1 3 1 es.length)), (97, (vin es.length)), (98, (vin i))], [(1, some (bm enc_i64 v)), (6, some (bm enc_i64 o))]⟩) (fun (i, o) => i ≤ es.length ∧ o = selU v i) (fun (i, o) => es.length - i) (0, []) wk ⟨Nat.zero_le _, rfl⟩ ?_
          rintro ⟨i, o⟩ ⟨hi, ho⟩
          have hol : o.length ≤ i := by rw [ho]; exact selU_len _ _
          refine pwp_seq <| kx [(99, (vb (decide (((i : Nat) : Int) < ((es.length : Nat) : Int)))))] [] (zE oLt <| zZ) ?_
          refine pwp_seq <| pwp_cond rfl (fun h8 => ?_) (fun h8 => ?_)
          · replace h8 := of_decide_eq_true h8
            refine pwp_skip <| pwp_seq <| pwp_block <| pwp_seq <| kx [(22, (vin i)), (23, (vi (v.getD i 0)))] [] (zM <| zE (oXo el60 i (hj := by first | omega | (simp only [List.length_set]; omega)) (h1 := by first | omega | (simp only [List.length_set]; omega))) <| zR (oLp sh3 i (0 : Int) (h1 := by first | omega | (simp only [List.length_set]; omega))) <| zM <| zM <| zZ) ?_
            refine pwp_seq <| kx [(104, (vb (decide (((0 : Nat) : Int) ≤ (v.getD i 0)))))] [] (zM <| zE oGe <| zZ) ?_
            refine pwp_cond rfl (fun h9 => ?_) (fun h9 => ?_)
            · replace h9 := of_decide_eq_true h9
              refine kf [(21, (.own 6 3 1 ((o ++ [((i : Nat) : Int)]).length)))] [(6, some (bm enc_i64 (o ++ [((i : Nat) : Int)])))] (zM <| zM <| zE (oBs el60 ze3 zo3) <| zA enc_i64 o [((i : Nat) : Int)] rfl el60 ze3 by3 <| zM <| zF) ?_
              refine kx [(98, (vin (i + 1)))] [] (zE (oAd (i + 1)) <| zM <| zZ) ?_
              exact ⟨(i + 1, o ++ [((i : Nat) : Int)]), wk, ⟨by omega, by rw [selU_y h9, ho]⟩, (by first | omega | (dsimp only; omega))⟩
            · replace h9 := of_decide_eq_false h9
              refine pwp_skip <| kx [(98, (vin (i + 1)))] [] (zE (oAd (i + 1)) <| zM <| zZ) ?_
              exact ⟨(i + 1, o), wk, ⟨by omega, by rw [selU_n h9, ho]⟩, (by first | omega | (dsimp only; omega))⟩
          · replace h8 := of_decide_eq_false h8
            refine pwp_exit <| pwp_seq <| pwp_sim (publish (t := 21) (k := 6) (es := List.map enc_i64 o) rfl rfl (pub_cells _ _ (fun _ => rfl)) (map_len _ _ rfl) (pub_take _ _ (fun _ => rfl) rfl)) ?_
            refine kx [(6, (vl 3 1 enc_i64 o)), (7, (vin 0))] [] (zM <| zM <| zM <| zZ) ?_
            refine pwp_ret ⟨_, (.tmp (d := (.sl 3 1 (List.map enc_i64 o))) rfl (.tmp (d := (.val (.int .i64 (((0 : Nat) : Int))))) rfl .nil)), ?_⟩
            have hse : seC es = 0 := se_yes (by omega) hs
            have hfin : selL (vts p es (tris es)) = o := by rw [ho, hvv, show m = (tris es).length by omega, List.take_length, show i = es.length by omega]; unfold selL; rw [vts_len]
            obtain ⟨q1, q2⟩ := sld_0 (es := es) (p := p) (bn_f h2) h4 hse
            rw [show slV z es x p = sldV es x p from okL_0 hc0, show slC z es x p = sldC es x p from okC_0 hc0, q1, q2, hfin]; rfl
end Go.Proofs.YtihgdjljnaekmaaGreat
namespace Go.Proofs.YtihgdjljnaekmaaGreat
open Go.Fid
set_option maxRecDepth 4000
set_option linter.unusedVariables false
set_option linter.unusedSimpArgs false
theorem cb20 : callB Tryz.prog 20 = true := by kernel_rfl
theorem cb69 : callB Tryz.prog 69 = true := by kernel_rfl
theorem pl56 : placesB Tryz.prog 56 = some [(0, 1), (1, 1), (2, 4)] := by kernel_rfl
def exE : List REdge := [REdge.mk 0 1 (RQuat.mk 1 0 0 1), REdge.mk 1 2 (RQuat.mk 1 1 0 0), REdge.mk 0 2 (RQuat.mk 1 1 0 0)]
theorem l_exa  : Takes Tryz.prog 69 [] (.sl 56 6 (List.map encEdge exE)) := by
  refine fn_intro Tryz.func69 rfl cb69 rfl ?_
  show PWp _ _ _ _ ⟨[], []⟩
  refine pwp_seq <| kx [] [] (zE (oNl 56 6) <| zZ) ?_
  refine pwp_seq <| kx [(0, (vl 56 6 encEdge [(REdge.mk 0 1 (RQuat.mk 1 0 0 1)), (REdge.mk 1 2 (RQuat.mk 1 1 0 0)), (REdge.mk 0 2 (RQuat.mk 1 1 0 0))]))] [] (zE (oBd pl28 ze28 zo28) <| zE (oBd pl56 ze56 zo56) <| zE (oBd pl28 ze28 zo28) <| zE (oBd pl56 ze56 zo56) <| zE (oBd pl28 ze28 zo28) <| zE (oBd pl56 ze56 zo56) <| zE (oBs el39 ze56 zo56) <| zM <| zZ) ?_
  refine pwp_ret ⟨_, (.tmp (d := (.sl 56 6 (List.map encEdge [(REdge.mk 0 1 (RQuat.mk 1 0 0 1)), (REdge.mk 1 2 (RQuat.mk 1 1 0 0)), (REdge.mk 0 2 (RQuat.mk 1 1 0 0))]))) rfl .nil), ?_⟩
  rfl
theorem kn1 : okL (lopC ((3 : Nat) : Int) exE) (treL (Int.toNat ((3 : Nat) : Int)) exE) = [0, 1] := by decide +kernel
theorem kn0 : lopC ((3 : Nat) : Int) exE = 0 := by decide +kernel
theorem kn2 : okL (lopC ((3 : Nat) : Int) exE) (absL (Int.toNat ((3 : Nat) : Int)) exE) = [RQuat.mk 1 0 0 0, RQuat.mk 1 0 0 (-1), RQuat.mk 1 (-1) 1 (-1)] := by decide +kernel
theorem kn3 : okC (lopC ((3 : Nat) : Int) exE) (absC (Int.toNat ((3 : Nat) : Int)) exE) = 0 := by decide +kernel
theorem kn4 : arnV ((3 : Nat) : Int) exE [((0 : Nat) : Int), ((1 : Nat) : Int), -3] = RQuat.mk 1 0 0 1 := by decide +kernel
theorem kn5 : arnC ((3 : Nat) : Int) exE [((0 : Nat) : Int), ((1 : Nat) : Int), -3] = 0 := by decide +kernel
theorem kn8 : okL (lopC ((3 : Nat) : Int) exE) (tris exE) = [(0, 1, 2)] := by decide +kernel
theorem knS : seC exE = 0 := by decide +kernel
theorem kn6s : slB (Rat.divInt 1 3) = false := by decide +kernel
theorem kn6v : selL (vts (Rat.divInt 1 3) exE (tris exE)) = [] := by decide +kernel
theorem kn6b : slC ((3 : Nat) : Int) exE (ofQ (Rat.divInt 1 3)) (Rat.divInt 1 3) = 0 := by
  obtain ⟨q1, q2⟩ := sld_0 (es := exE) (x := ofQ (Rat.divInt 1 3)) (p := (Rat.divInt 1 3)) (validR_ofQ _) kn6s knS
  unfold slC; rw [okC_0 kn0, q1]
theorem kn6 : slV ((3 : Nat) : Int) exE (ofQ (Rat.divInt 1 3)) (Rat.divInt 1 3) = [] := by
  obtain ⟨q1, q2⟩ := sld_0 (es := exE) (x := ofQ (Rat.divInt 1 3)) (p := (Rat.divInt 1 3)) (validR_ofQ _) kn6s knS
  unfold slV; rw [okL_0 kn0, q2, kn6v]
theorem kn7s : slB (Rat.divInt 1 2) = false := by decide +kernel
theorem kn7v : selL (vts (Rat.divInt 1 2) exE (tris exE)) = [0, 1, 2] := by decide +kernel
theorem kn7b : slC ((3 : Nat) : Int) exE (ofQ (Rat.divInt 1 2)) (Rat.divInt 1 2) = 0 := by
  obtain ⟨q1, q2⟩ := sld_0 (es := exE) (x := ofQ (Rat.divInt 1 2)) (p := (Rat.divInt 1 2)) (validR_ofQ _) kn7s knS
  unfold slC; rw [okC_0 kn0, q1]
theorem kn7 : slV ((3 : Nat) : Int) exE (ofQ (Rat.divInt 1 2)) (Rat.divInt 1 2) = [0, 1, 2] := by
  obtain ⟨q1, q2⟩ := sld_0 (es := exE) (x := ofQ (Rat.divInt 1 2)) (p := (Rat.divInt 1 2)) (validR_ofQ _) kn7s knS
  unfold slV; rw [okL_0 kn0, q2, kn7v]
theorem l_known  : Takes Tryz.prog 20 [] (.val (.bool (true))) := by
  refine fn_intro Tryz.func20 rfl cb20 rfl ?_
  show PWp _ _ _ _ ⟨[], []⟩
  refine pwp_seq <| kx [] [] (zM <| zZ) ?_
  refine pwp_seq <| kx [(1, (vl 3 1 enc_i64 [0, 1])), (2, (vin 0))] [] (zE (oCl l_exa) <| zE (oCl (l_Tree ((3 : Nat) : Int) exE (by decide +kernel))) <| zM <| zE (oQd (.sl 3 1 (List.map enc_i64 (okL (lopC ((3 : Nat) : Int) exE) (treL (Int.toNat ((3 : Nat) : Int)) exE)))) (.sl 3 1 (List.map enc_i64 [0, 1])) oEx (by exact (congrArg (fun l => Dat.sl 3 1 (List.map enc_i64 l)) kn1))) <| zE (oQd (.val (.int .i64 ((((lopC ((3 : Nat) : Int) exE) : Nat) : Int)))) (.val (.int .i64 (((0 : Nat) : Int)))) oEx (by exact (congrArg (fun (c : Nat) => Dat.val (Value.int IntKind.i64 ((c : Nat) : Int))) kn0))) <| zM <| zM <| zZ) ?_
  refine pwp_seq <| kx [(3, (vl 28 4 encQuat [RQuat.mk 1 0 0 0, RQuat.mk 1 0 0 (-1), RQuat.mk 1 (-1) 1 (-1)])), (4, (vin 0))] [] (zE (oCl l_exa) <| zE (oCl (l_Abs ((3 : Nat) : Int) exE (by decide +kernel))) <| zM <| zE (oQd (.sl 28 4 (List.map encQuat (okL (lopC ((3 : Nat) : Int) exE) (absL (Int.toNat ((3 : Nat) : Int)) exE)))) (.sl 28 4 (List.map encQuat [RQuat.mk 1 0 0 0, RQuat.mk 1 0 0 (-1), RQuat.mk 1 (-1) 1 (-1)])) oEx (by exact (congrArg (fun l => Dat.sl 28 4 (List.map encQuat l)) kn2))) <| zE (oQd (.val (.int .i64 ((((okC (lopC ((3 : Nat) : Int) exE) (absC (Int.toNat ((3 : Nat) : Int)) exE)) : Nat) : Int)))) (.val (.int .i64 (((0 : Nat) : Int)))) oEx (by exact (congrArg (fun (c : Nat) => Dat.val (Value.int IntKind.i64 ((c : Nat) : Int))) kn3))) <| zM <| zM <| zZ) ?_
  refine pwp_seq <| kx [(5, (.ref 0 0)), (6, (vin 0))] [(0, some (bx (encQuat (RQuat.mk 1 0 0 1))))] (zE (oCl l_exa) <| zE (oBs el60 ze3 zo3) <| zE (oCl (l_arn ((3 : Nat) : Int) exE [((0 : Nat) : Int), ((1 : Nat) : Int), -3] (by decide +kernel) (by decide +kernel))) <| zM <| zE (oQd (encQuat (arnV ((3 : Nat) : Int) exE [((0 : Nat) : Int), ((1 : Nat) : Int), -3])) (encQuat (RQuat.mk 1 0 0 1)) oEx (by exact (congrArg encQuat kn4))) <| zE (oQd (.val (.int .i64 ((((arnC ((3 : Nat) : Int) exE [((0 : Nat) : Int), ((1 : Nat) : Int), -3]) : Nat) : Int)))) (.val (.int .i64 (((0 : Nat) : Int)))) oEx (by exact (congrArg (fun (c : Nat) => Dat.val (Value.int IntKind.i64 ((c : Nat) : Int))) kn5))) <| zN (oAl 0 ze28 zo28) <| zT (oSt sh28) <| zM <| zZ) ?_
  refine pwp_seq ?_
  have bn1 : QL (Rat.divInt 1 3) 3 := (ql_divInt (n := 3) (lenZ_int (by omega) (by omega)) (lenZ_int (by omega) (by omega)) (by decide))
  refine kx [(7, (.ref 1 0))] [(1, some (bx (encR (ofQ (Rat.divInt 1 3)))))] (zE (oCl (qs_of ((1 : Nat) : Int) (by omega) (by omega) ((3 : Nat) : Int) (by omega) (by omega) (by decide +kernel))) <| zM <| zE oEx <| zE oEx <| zN (oAl 1 ze51 zo51) <| zT (oSt sh51) <| zM <| zZ) ?_
  refine pwp_seq ?_
  have bn2 : QL (Rat.divInt 1 2) 3 := (ql_divInt (n := 3) (lenZ_int (by omega) (by omega)) (lenZ_int (by omega) (by omega)) (by decide))
  refine kx [(9, (.ref 2 0))] [(2, some (bx (encR (ofQ (Rat.divInt 1 2)))))] (zE (oCl (qs_of ((1 : Nat) : Int) (by omega) (by omega) ((2 : Nat) : Int) (by omega) (by omega) (by decide +kernel))) <| zM <| zE oEx <| zE oEx <| zN (oAl 2 ze51 zo51) <| zT (oSt sh51) <| zM <| zZ) ?_
  refine pwp_seq <| kd [(11, (vl 3 1 enc_i64 [])), (12, (vin 0))] [] mo (wE (oCl l_exa) <| wR (oLa sh51) <| wE (oCl (l_Sel ((3 : Nat) : Int) exE (ofQ (Rat.divInt 1 3)) (Rat.divInt 1 3) (qok_up (qok_of bn1) (by decide)) (by decide +kernel))) <| wM <| wE (oQd (.sl 3 1 (List.map enc_i64 (slV ((3 : Nat) : Int) exE (ofQ (Rat.divInt 1 3)) (Rat.divInt 1 3)))) (.sl 3 1 (List.map enc_i64 [])) oEx (by exact (congrArg (fun l => Dat.sl 3 1 (List.map enc_i64 l)) kn6))) <| wE (oQd (.val (.int .i64 ((((slC ((3 : Nat) : Int) exE (ofQ (Rat.divInt 1 3)) (Rat.divInt 1 3)) : Nat) : Int)))) (.val (.int .i64 (((0 : Nat) : Int)))) oEx (by exact (congrArg (fun (c : Nat) => Dat.val (Value.int IntKind.i64 ((c : Nat) : Int))) kn6b))) <| wM <| wM <| wZ) ?_
  refine pwp_seq <| kd [(13, (vl 3 1 enc_i64 [0, 1, 2])), (14, (vin 0))] [] mo (wE (oCl l_exa) <| wR (oLa sh51) <| wE (oCl (l_Sel ((3 : Nat) : Int) exE (ofQ (Rat.divInt 1 2)) (Rat.divInt 1 2) (qok_up (qok_of bn2) (by decide)) (by decide +kernel))) <| wM <| wE (oQd (.sl 3 1 (List.map enc_i64 (slV ((3 : Nat) : Int) exE (ofQ (Rat.divInt 1 2)) (Rat.divInt 1 2)))) (.sl 3 1 (List.map enc_i64 [0, 1, 2])) oEx (by exact (congrArg (fun l => Dat.sl 3 1 (List.map enc_i64 l)) kn7))) <| wE (oQd (.val (.int .i64 ((((slC ((3 : Nat) : Int) exE (ofQ (Rat.divInt 1 2)) (Rat.divInt 1 2)) : Nat) : Int)))) (.val (.int .i64 (((0 : Nat) : Int)))) oEx (by exact (congrArg (fun (c : Nat) => Dat.val (Value.int IntKind.i64 ((c : Nat) : Int))) kn7b))) <| wM <| wM <| wZ) ?_
  refine pwp_seq <| kx [(15, (vl 70 3 encA70 [A3.mk 0 1 2])), (16, (vin 0))] [] (zE (oCl l_exa) <| zE (oCl (l_Tris ((3 : Nat) : Int) exE (by decide +kernel))) <| zM <| zE (oQd (.sl 70 3 (List.map encA70 (List.map t3 (okL (lopC ((3 : Nat) : Int) exE) (tris exE))))) (.sl 70 3 (List.map encA70 [A3.mk 0 1 2])) oEx (by exact (congrArg (fun l => Dat.sl 70 3 (List.map encA70 (List.map t3 l))) kn8))) <| zE (oQd (.val (.int .i64 ((((lopC ((3 : Nat) : Int) exE) : Nat) : Int)))) (.val (.int .i64 (((0 : Nat) : Int)))) oEx (by exact (congrArg (fun (c : Nat) => Dat.val (Value.int IntKind.i64 ((c : Nat) : Int))) kn0))) <| zM <| zM <| zZ) ?_
  refine pwp_seq <| kx [(0, (vb true))] [] (zM <| zM <| zE (oAd 0 (hr := by decide)) <| zM <| zE (oAd 0 (hr := by decide)) <| zM <| zE (oAd 0 (hr := by decide)) <| zM <| zE (oAd 0 (hr := by decide)) <| zM <| zE (oAd 0 (hr := by decide)) <| zE (oBk true oEq) <| zM <| zM <| zE (oBs el60 ze3 zo3) <| zE (oBk true (oCl (p_eq [0, 1] [((0 : Nat) : Int), ((1 : Nat) : Int)] (by decide +kernel))) (by exact beq_self_eq_true _)) <| zE oPt <| zM <| zM <| zE (oBd pl28 ze28 zo28) <| zE (oBd pl28 ze28 zo28) <| zE (oBd pl28 ze28 zo28) <| zE (oBs el34 ze28 zo28) <| zE (oCl (l_eqQ [RQuat.mk 1 0 0 0, RQuat.mk 1 0 0 (-1), RQuat.mk 1 (-1) 1 (-1)] [(RQuat.mk ((1 : Nat) : Int) 0 0 0), (RQuat.mk ((1 : Nat) : Int) 0 0 (-1)), (RQuat.mk ((1 : Nat) : Int) (-1) ((1 : Nat) : Int) (-1))] (by decide +kernel) rfl)) <| zE oPt <| zM <| zR (oLa sh28) <| zE (oBd pl28 ze28 zo28) <| zE (oBk true (oEs eqs28 .i64 [(RQuat.mk 1 0 0 1).a, (RQuat.mk 1 0 0 1).b, (RQuat.mk 1 0 0 1).c, (RQuat.mk 1 0 0 1).d] [((1 : Nat) : Int), 0, 0, ((1 : Nat) : Int)]) (by exact decide_eq_true rfl)) <| zE oPt <| zM <| zM <| zE (oLn el60 0) <| zE (oBk true oEq) <| zE oPt <| zM <| zM <| zE (oLn el60 3) <| zE (oBk true oEq) <| zE oPt <| zM <| zM <| zE (oBf ar70 ze70 zo70) <| zE (oBs el63 ze70 zo70) <| zE (oCl (l_eqT [A3.mk 0 1 2] [(A3.mk ((0 : Nat) : Int) ((1 : Nat) : Int) ((2 : Nat) : Int))] (by decide +kernel) rfl)) <| zE oPt <| zM <| zZ) ?_
  refine pwp_ret ⟨_, (.tmp (d := (.val (.bool (true)))) rfl .nil), ?_⟩
  rfl
end Go.Proofs.YtihgdjljnaekmaaGreat
set_option linter.unusedVariables false
set_option linter.unusedSimpArgs false
namespace Go.Fid
theorem erC_03 {es : List REdge} {ts : List RQuat} (h : erC es ts ≠ 0) : erC es ts = 3 := by
  unfold erC at h ⊢; split
  · rename_i e; rw [if_pos e] at h; exact absurd rfl h
  · rfl
end Go.Fid
set_option linter.unusedVariables false
set_option linter.unusedSimpArgs false
namespace Go.Fid
def agE (W : Nat → RQuat) (x : REdge) : Prop := Qeq (W x.fr.toNat) (qmul (W x.to_.toNat) x.turn)
def Sol (n : Nat) (es : List REdge) (W : Nat → RQuat) : Prop := (∀ j, j < n → Qnz (W j)) ∧ ∀ x ∈ es, agE W x
theorem qdiv {p q t : RQuat} (hq : Qnz q) (ht : Qnz t) : Qeq p (qmul q t) ↔ Qeq (qmul (qcj q) p) t := by
  constructor
  · intro h
    refine ((Qeq.refl _).mul h).trans ?_
    rw [← qmul_assoc, qcj_mul, qsc_mul_l, q1_mul]
    exact Qeq.sc (qnz_n.1 hq) _
  · intro h
    have e := (Qeq.refl q).mul h
    rw [← qmul_assoc, qmul_cj, qsc_mul_l, q1_mul] at e
    exact (Qeq.sc (qnz_n.1 hq) _).symm.trans e
section
variable {n : Nat} {es : List REdge}
theorem eok_lt {x : REdge} (h : EOkE n x) : x.fr.toNat < n ∧ x.to_.toNat < n := by
  have := h.f0; have := h.f1; have := h.t0; have := h.t1; omega
theorem absL_at (he : EsOk n es) (hc : absC n es = 0) {j : Nat} (hj : j < n) : getQ (absL n es) j = qcan (aV n es j) := by
  have hf : aFit n es := by
    unfold absC at hc; split at hc
    · assumption
    · cases hc
  have hab : absL n es = (List.range n).map fun j => qcan (aV n es j) := if_pos hf
  rw [hab]; unfold getQ; rw [List.getD_eq_getElem?_getD, List.getElem?_map, List.getElem?_range hj]; rfl
theorem ebt_eq (he : EsOk n es) (hc : absC n es = 0) {x : REdge} (hx : EOkE n x) : Qnz (ebt (absL n es) x) ∧ Qeq (ebt (absL n es) x) (qmul (qcj (aV n es x.to_.toNat)) (aV n es x.fr.toNat)) := by
  have hts := abs_ok he hc
  obtain ⟨h1, h2⟩ := eok_lt hx
  have hT := hts.at h2
  have hF := hts.at h1
  refine ⟨qmul_nz (qV_ok (qcj_nz hT.1) (qC_cj hT)).1 hF.1, ?_⟩
  unfold ebt
  refine ((qV_eq (qcj_nz hT.1) (qC_cj hT)).mul (Qeq.refl _)).trans ?_
  rw [absL_at he hc h1, absL_at he hc h2]
  exact (qcan_eq (aV_nz he _)).cj.mul (qcan_eq (aV_nz he _))
theorem same_ag (he : EsOk n es) (hc : absC n es = 0) {x : REdge} (hx : EOkE n x) (hcx : qC (ebt (absL n es) x) = 0) : sameQ (qV (ebt (absL n es) x)) x.turn = true ↔ agE (aV n es) x := by
  obtain ⟨g1, g2⟩ := ebt_eq he hc hx
  rw [sameQ_iff (qV_ok g1 hcx) hx.q]
  unfold agE
  rw [qdiv (aV_nz he _) hx.q.1]
  have e := (qV_eq g1 hcx).trans g2
  exact ⟨fun h => e.symm.trans h, fun h => e.trans h⟩
theorem erC_ok {ts : List RQuat} (h : erC es ts = 0) : erOk es ts := by
  unfold erC at h; split at h
  · assumption
  · cases h
theorem cn_ok (h : cnC n es = 0) : absC n es = 0 ∧ erC es (absL n es) = 0 := by
  by_cases h1 : absC n es = 0
  · exact ⟨h1, (okC_0 (d := erC es (absL n es)) h1).symm.trans h⟩
  · exact absurd ((cn_1 h1).1.symm.trans h) h1
theorem cn_03 (h : cnC n es ≠ 0) : cnC n es = 3 := by
  by_cases h1 : absC n es = 0
  · have e : cnC n es = erC es (absL n es) := okC_0 h1
    rw [e] at h ⊢; exact erC_03 h
  · rw [(cn_1 h1).1]; exact (abs_n h1).2
theorem mem_ix {x : REdge} (hx : x ∈ es) : ∃ i, i < es.length ∧ es.getD i e0 = x := by
  obtain ⟨i, hi, rfl⟩ := List.getElem_of_mem hx
  exact ⟨i, hi, by rw [List.getD_eq_getElem?_getD, List.getElem?_eq_getElem hi]; rfl⟩
theorem aV_sol (he : EsOk n es) {W : Nat → RQuat} (hW : Sol n es W) : Sol n es (aV n es) := by
  refine ⟨fun j _ => aV_nz he j, fun x hx => ?_⟩
  obtain ⟨i, hi, rfl⟩ := mem_ix hx
  have hx' := eget he hi
  obtain ⟨h1, h2⟩ := eok_lt hx'
  have htree : ∀ i : Nat, (i : Int) ∈ tTak true n es es.length → Qeq (W (es.getD i e0).fr.toNat) (qmul (W (es.getD i e0).to_.toNat) (es.getD i e0).turn) := fun i hi => by
    obtain ⟨i', hil, e⟩ := tTak_mem hi
    exact hW.2 _ (mem_getD (by omega))
  have u1 := tV_uniq he W hW.1 (Nat.le_refl _) htree h1
  have u2 := tV_uniq he W hW.1 (Nat.le_refl _) htree h2
  have hend := tPar_ends he (Nat.le_refl es.length) hi
  rw [hend] at u1
  refine u1.trans (Qeq.trans ?_ ((u2.mul (Qeq.refl _)).symm))
  rw [qmul_assoc]
  exact (Qeq.refl _).mul (hW.2 _ hx)
theorem cn_sol (he : EsOk n es) (hc : cnC n es = 0) : cnV n es = true ↔ ∃ W, Sol n es W := by
  obtain ⟨h1, h2⟩ := cn_ok hc
  have hok := erC_ok h2
  rw [(cn_3 h1 h2).2]
  unfold alS
  rw [List.all_eq_true]
  constructor
  · intro h
    exact ⟨aV n es, fun j _ => aV_nz he j, fun x hx => (same_ag he h1 (he x hx) (hok x hx)).1 (h x hx)⟩
  · rintro ⟨W, hW⟩ x hx
    exact (same_ag he h1 (he x hx) (hok x hx)).2 ((aV_sol he hW).2 x hx)
end
theorem lop_of {z : Int} {es : List REdge} (h1 : 1 ≤ z) (h2 : z ≤ 64) (h3 : es.length ≤ 256) (h4 : EsOk z.toNat es) : lopC z es = 0 := by
  rw [lopC_eds (by omega) (by omega) (by omega)]
  have := edsC_ok.2 h4
  rwa [Int.toNat_of_nonneg (by omega)] at this
theorem con_03 {z : Int} {es : List REdge} (h : lopC z es = 0) (h1 : conC z es ≠ 0) : conC z es = 3 := by
  rw [(con_0 h).1] at h1 ⊢; exact cn_03 h1
theorem or_ne {a b : Nat} (h : ((((a : Nat) : Int) == 3) || (((b : Nat) : Int) == 3)) = false) : a ≠ 3 ∧ b ≠ 3 := by
  rw [Bool.or_eq_false_iff, beq_eq_false_iff_ne, beq_eq_false_iff_ne] at h
  omega
end Go.Fid
set_option linter.unusedVariables false
set_option linter.unusedSimpArgs false
namespace Go.Fid
def qBad (q : RQuat) : Bool := ((((((((decide (3 < q.a) || decide (q.a < -3)) || decide (3 < q.b)) || decide (q.b < -3)) || decide (3 < q.c)) || decide (q.c < -3)) || decide (3 < q.d)) || decide (q.d < -3)) || (((rqC q : Nat) : Int) != 0))
def sm3 (z : Int) : Prop := -3 ≤ z ∧ z ≤ 3
def Qsm (q : RQuat) : Prop := (sm3 q.a ∧ sm3 q.b ∧ sm3 q.c ∧ sm3 q.d) ∧ Qok q
theorem qBad_f {q : RQuat} (h : qBad q = false) : Qsm q := by
  unfold qBad at h
  simp only [Bool.or_eq_false_iff, decide_eq_false_iff_not, bne_eq_false_iff_eq] at h
  obtain ⟨⟨⟨⟨⟨⟨⟨⟨h1, h2⟩, h3⟩, h4⟩, h5⟩, h6⟩, h7⟩, h8⟩, h9⟩ := h
  refine ⟨⟨⟨by omega, by omega⟩, ⟨by omega, by omega⟩, ⟨by omega, by omega⟩, ⟨by omega, by omega⟩⟩, ?_⟩
  exact qok_rot.2 (show rqC q = 0 by omega)
theorem mul9 {a b : Int} (ha : sm3 a) (hb : sm3 b) : -9 ≤ a * b ∧ a * b ≤ 9 := by
  obtain ⟨a1, a2⟩ := ha
  obtain ⟨b1, b2⟩ := hb
  rcases (by omega : a = -3 ∨ a = -2 ∨ a = -1 ∨ a = 0 ∨ a = 1 ∨ a = 2 ∨ a = 3) with rfl | rfl | rfl | rfl | rfl | rfl | rfl <;> omega
theorem sm3_fdiv {x d : Int} (hd : d ≠ 0) (h : d ∣ x) (hx : sm3 x) : sm3 (x.fdiv d) := by
  have := fdiv_abs hd h
  unfold sm3 at *; omega
theorem sm_btw {p q : RQuat} (hp : Qsm p) (hq : Qsm q) : qC (qmul (qV (qcj p)) q) = 0 := by
  have hc := qC_cj hp.2
  have hn := qcj_nz hp.2.1
  rw [qV_c0 hc]
  have hs : sm3 (qcan (qcj p)).a ∧ sm3 (qcan (qcj p)).b ∧ sm3 (qcan (qcj p)).c ∧ sm3 (qcan (qcj p)).d := by
    have hd := dvL_ne hn
    have hdv : ∀ z ∈ qL (qcj p), dvL (qL (qcj p)) ∣ z := dvL_dvd
    obtain ⟨⟨a1, a2, a3, a4⟩, _⟩ := hp
    refine ⟨sm3_fdiv hd (hdv _ (by simp [qL])) a1, sm3_fdiv hd (hdv _ (by simp [qL])) ?_, sm3_fdiv hd (hdv _ (by simp [qL])) ?_, sm3_fdiv hd (hdv _ (by simp [qL])) ?_⟩ <;>
      (unfold sm3 at *; simp only [qcj]; omega)
  obtain ⟨b1, b2, b3, b4⟩ := hs
  obtain ⟨⟨c1, c2, c3, c4⟩, hqo⟩ := hq
  have m1 := mul9 b1 c1; have m2 := mul9 b2 c2; have m3 := mul9 b3 c3; have m4 := mul9 b4 c4
  have m5 := mul9 b1 c2; have m6 := mul9 b2 c1; have m7 := mul9 b3 c4; have m8 := mul9 b4 c3
  have m9 := mul9 b1 c3; have m10 := mul9 b2 c4; have m11 := mul9 b3 c1; have m12 := mul9 b4 c2
  have m13 := mul9 b1 c4; have m14 := mul9 b2 c3; have m15 := mul9 b3 c2; have m16 := mul9 b4 c1
  refine qC_ok ⟨qmul_nz (qcan_nz hn) hqo.1, ?_⟩
  unfold Qfit inQ qmul
  simp only
  refine ⟨⟨?_, ?_⟩, ⟨?_, ?_⟩, ⟨?_, ?_⟩, ⟨?_, ?_⟩⟩ <;> omega
def mdE (ts : List RQuat) (x : Nat × Nat) : REdge := ⟨((x.1 % ts.length : Nat) : Int), ((x.2 % ts.length : Nat) : Int), qV (qmul (qV (qcj (getQ ts (x.2 % ts.length)))) (getQ ts (x.1 % ts.length)))⟩
def mdL (ts : List RQuat) (l : List (Nat × Nat)) : List REdge := (l.filter fun x => decide (x.1 % ts.length ≠ x.2 % ts.length)).map (mdE ts)
theorem md_y {ts : List RQuat} {l : List (Nat × Nat)} {x : Nat × Nat} (h : x.1 % ts.length ≠ x.2 % ts.length) : mdL ts (l ++ [x]) = mdL ts l ++ [mdE ts x] := by
  unfold mdL; rw [List.filter_append, List.map_append]; simp only [List.filter_cons, List.filter_nil, decide_eq_true h, if_true]; rfl
theorem md_n {ts : List RQuat} {l : List (Nat × Nat)} {x : Nat × Nat} (h : x.1 % ts.length = x.2 % ts.length) : mdL ts (l ++ [x]) = mdL ts l := by
  have hd : decide (x.1 % ts.length ≠ x.2 % ts.length) = false := by simp [h]
  unfold mdL; rw [List.filter_append, List.map_append]; simp only [List.filter_cons, List.filter_nil, hd, Bool.false_eq_true, if_false, List.map_nil, List.append_nil]
theorem md_len {ts : List RQuat} {l : List (Nat × Nat)} : (mdL ts l).length ≤ l.length := by
  unfold mdL; rw [List.length_map]; exact List.length_filter_le _ _
def allSm (ts : List RQuat) : Prop := ∀ q ∈ ts, Qsm q
theorem sm_at {ts : List RQuat} (h : allSm ts) {j : Nat} (hj : j < ts.length) : Qsm (getQ ts j) := by
  unfold getQ; rw [List.getD_eq_getElem?_getD, List.getElem?_eq_getElem hj]; exact h _ (List.getElem_mem _)
theorem mdE_ok {ts : List RQuat} (h : allSm ts) (h1 : 1 ≤ ts.length) {x : Nat × Nat} (hx : x.1 % ts.length ≠ x.2 % ts.length) : EOkE ts.length (mdE ts x) := by
  have m1 := Nat.mod_lt x.1 (show 0 < ts.length by omega)
  have m2 := Nat.mod_lt x.2 (show 0 < ts.length by omega)
  have s1 := sm_at h m1
  have s2 := sm_at h m2
  have hnz := qmul_nz (qV_ok (qcj_nz s2.2.1) (qC_cj s2.2)).1 s1.2.1
  refine ⟨?_, ?_, ?_, ?_, ?_, qV_ok hnz (sm_btw s2 s1)⟩ <;> simp only [mdE] <;> omega
theorem md_ok {ts : List RQuat} {l : List (Nat × Nat)} (h : allSm ts) (h1 : 1 ≤ ts.length) : EsOk ts.length (mdL ts l) := fun y hy => by
  unfold mdL at hy
  obtain ⟨x, hx, rfl⟩ := List.mem_map.1 hy
  exact mdE_ok h h1 (by simpa using (List.mem_filter.1 hx).2)
theorem mdE_ag {ts : List RQuat} (h : allSm ts) (h1 : 1 ≤ ts.length) (x : Nat × Nat) : agE (getQ ts) (mdE ts x) := by
  have m1 := Nat.mod_lt x.1 (show 0 < ts.length by omega)
  have m2 := Nat.mod_lt x.2 (show 0 < ts.length by omega)
  have s1 := sm_at h m1
  have s2 := sm_at h m2
  have hcz := qV_ok (qcj_nz s2.2.1) (qC_cj s2.2)
  have hnz := qmul_nz hcz.1 s1.2.1
  unfold agE mdE
  show Qeq (getQ ts ((x.1 % ts.length : Nat) : Int).toNat) (qmul (getQ ts ((x.2 % ts.length : Nat) : Int).toNat) (qV _))
  rw [Int.toNat_natCast, Int.toNat_natCast, qdiv s2.2.1 (qV_ok hnz (sm_btw s2 s1)).1]
  refine Qeq.trans ?_ (qV_eq hnz (sm_btw s2 s1)).symm
  exact (qV_eq (qcj_nz s2.2.1) (qC_cj s2.2)).symm.mul (Qeq.refl _)
theorem md_sol {ts : List RQuat} {l : List (Nat × Nat)} (h : allSm ts) (h1 : 1 ≤ ts.length) : Sol ts.length (mdL ts l) (getQ ts) := by
  refine ⟨fun j hj => (sm_at h hj).2.1, fun y hy => ?_⟩
  unfold mdL at hy
  obtain ⟨x, hx, rfl⟩ := List.mem_map.1 hy
  exact mdE_ag h h1 x
end Go.Fid
