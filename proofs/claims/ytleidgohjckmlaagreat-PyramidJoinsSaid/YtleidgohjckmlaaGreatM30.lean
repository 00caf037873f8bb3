/- Part 30 of a proof: rules, plain facts, and functions walked. -/
import Derived.Test.YtleidgohjckmlaaGreatM29
import Derived.Test.YtleidgohjckmlaaGreatM21
import Derived.Test.YtleidgohjckmlaaGreatM17
namespace Go.Proofs.YtleidgohjckmlaaGreat
open Go.Fid
set_option maxRecDepth 4000
set_option linter.unusedVariables false
set_option linter.unusedSimpArgs false
theorem cb15 : callB Tryz.prog 15 = true := by kernel_rfl
theorem cb34 : callB Tryz.prog 34 = true := by kernel_rfl
theorem p_lvalid (w h m : Int) (l r d c : List Int) (hbl : l.length ≤ 1000000) (hbr : r.length ≤ 1000000) (hbd : d.length ≤ 1000000) (hbc : c.length ≤ 1000000) : Takes Tryz.prog 34 [(encBnd (RBnd.mk w h m l r d c))] (.val (.bool ((vBnd w h m l r d c)))) := by
  refine fn_intro Tryz.func34 rfl cb34 rfl ?_
  show PWp _ _ _ _ ⟨[(0, (.d (encBnd (RBnd.mk w h m l r d c))))], []⟩
  refine pwp_seq <| kx [(1, (.ref 0 0))] [(0, some (bx (encBnd (RBnd.mk w h m l r d c))))] (zN (oBx 0) <| zM <| zZ) ?_
  refine pwp_seq <| pwp_seq <| kx [(38, (vb (((((decide (w < 1) || decide (64 < w)) || decide (h < 1)) || decide (64 < h)) || decide (m < 1)) || decide (65535 < m))))] [] ?_ ?_
  · refine zE (oFr fo28_0) <| zR (oL1 sh3) <| zE oLt <| zE (oV (vb (decide (w < 1))) (mv_ok (by kernel_rfl))) <| ?_
    rcases hb1 : (decide (w < 1)) with _ | _
    · replace hb1 := of_decide_eq_false hb1
      refine zE (oFr fo28_0) <| zR (oL1 sh3) <| zE oGt <| zE oPo <| zE (oV (vb (false || decide (64 < w))) (mv_ok (by kernel_rfl))) <| ?_
      rcases hb2 : (false || decide (64 < w)) with _ | _
      · replace hb2 := of_decide_eq_false (p := (64 < w)) hb2
        refine zE (oFr fo28_1) <| zR (oL1 sh3) <| zE oLt <| zE oPo <| zE (oV (vb (false || decide (h < 1))) (mv_ok (by kernel_rfl))) <| ?_
        rcases hb3 : (false || decide (h < 1)) with _ | _
        · replace hb3 := of_decide_eq_false (p := (h < 1)) hb3
          refine zE (oFr fo28_1) <| zR (oL1 sh3) <| zE oGt <| zE oPo <| zE (oV (vb (false || decide (64 < h))) (mv_ok (by kernel_rfl))) <| ?_
          rcases hb4 : (false || decide (64 < h)) with _ | _
          · replace hb4 := of_decide_eq_false (p := (64 < h)) hb4
            refine zE (oFr fo28_2) <| zR (oL1 sh3) <| zE oLt <| zE oPo <| zE (oV (vb (false || decide (m < 1))) (mv_ok (by kernel_rfl))) <| ?_
            rcases hb5 : (false || decide (m < 1)) with _ | _
            · replace hb5 := of_decide_eq_false (p := (m < 1)) hb5
              exact zE (oFr fo28_2) <| zR (oL1 sh3) <| zE oGt <| zE oPo <| zZ
            · replace hb5 := of_decide_eq_true (p := (m < 1)) hb5
              exact zK <| zK <| zK <| zE oPt <| zZ
          · replace hb4 := of_decide_eq_true (p := (64 < h)) hb4
            exact zK <| zK <| zK <| zE oPt <| zM <| zK <| zK <| zK <| zE oPt <| zZ
        · replace hb3 := of_decide_eq_true (p := (h < 1)) hb3
          exact zK <| zK <| zK <| zE oPt <| zM <| zK <| zK <| zK <| zE oPt <| zM <| zK <| zK <| zK <| zE oPt <| zZ
      · replace hb2 := of_decide_eq_true (p := (64 < w)) hb2
        exact zK <| zK <| zK <| zE oPt <| zM <| zK <| zK <| zK <| zE oPt <| zM <| zK <| zK <| zK <| zE oPt <| zM <| zK <| zK <| zK <| zE oPt <| zZ
    · replace hb1 := of_decide_eq_true hb1
      exact zK <| zK <| zK <| zE oPt <| zM <| zK <| zK <| zK <| zE oPt <| zM <| zK <| zK <| zK <| zE oPt <| zM <| zK <| zK <| zK <| zE oPt <| zM <| zK <| zK <| zK <| zE oPt <| zZ
  refine pwp_cond rfl (fun h6 => ?_) (fun h6 => ?_)
  · refine pwp_seq <| kx [(2, (vb false))] [] (zM <| zZ) ?_
    refine pwp_ret ⟨_, (.tmp (d := (.val (.bool (false)))) rfl .nil), ?_⟩
    rw [vb_1 h6]; rfl
  · have hdm := h6
    simp only [Bool.or_eq_false_iff, decide_eq_false_iff_not] at hdm
    obtain ⟨⟨⟨⟨⟨e1, e2⟩, e3⟩, e4⟩, e5⟩, e6⟩ := hdm
    refine pwp_skip <| pwp_seq <| kd [(3, (vi ((w + 1) / 2))), (4, (vi (w / 2))), (5, (vi ((h + 1) / 2))), (6, (vi (h / 2)))] [] mo (wE (oFr fo28_0) <| wR (oL1 sh3) <| wE (zAd (w + 1) (hr := by exact (inc_up e1 e2))) <| wE (zQu ((w + 1) / 2) (hr := by exact (half_up e1 e2))) <| wE (oFr fo28_0) <| wR (oL1 sh3) <| wE (zQu (w / 2) (hr := by exact (half_dn e1 e2))) <| wE (oFr fo28_1) <| wR (oL1 sh3) <| wE (zAd (h + 1) (hr := by exact (inc_up e3 e4))) <| wE (zQu ((h + 1) / 2) (hr := by exact (half_up e3 e4))) <| wE (oFr fo28_1) <| wR (oL1 sh3) <| wE (zQu (h / 2) (hr := by exact (half_dn e3 e4))) <| wM <| wM <| wM <| wM <| wZ) ?_
    refine pwp_seq <| pwp_seq <| kx [(86, (vb ((((((l.length : Nat) : Int) != (((w + 1) / 2) * ((h + 1) / 2))) || (((r.length : Nat) : Int) != ((w / 2) * ((h + 1) / 2)))) || (((d.length : Nat) : Int) != (((w + 1) / 2) * (h / 2)))) || (((c.length : Nat) : Int) != ((w / 2) * (h / 2))))))] [] ?_ ?_
    · refine zE (oFr fo28_3) <| zR (oL1 sh22) <| zE (oLm el22 (L := l)) <| zM <| zM <| zE (zMl (((w + 1) / 2) * ((h + 1) / 2)) (hr := by exact (wAny rfl (by have hq := pq_bd (a := ((w + 1) / 2)) (b := ((h + 1) / 2)) (by omega) (by omega) (by omega) (by omega); simp only [kLo]; omega) (by have hq := pq_bd (a := ((w + 1) / 2)) (b := ((h + 1) / 2)) (by omega) (by omega) (by omega) (by omega); simp only [kHi]; omega)))) <| zE oNe <| zE (oV (vb (((l.length : Nat) : Int) != (((w + 1) / 2) * ((h + 1) / 2)))) (mv_ok (by kernel_rfl))) <| ?_
      rcases hb7 : (((l.length : Nat) : Int) != (((w + 1) / 2) * ((h + 1) / 2))) with _ | _
      · replace hb7 := bne_eq_false_iff_eq.1 hb7
        refine zE (oFr fo28_4) <| zR (oL1 sh22) <| zE (oLm el22 (L := r)) <| zM <| zM <| zE (zMl ((w / 2) * ((h + 1) / 2)) (hr := by exact (wAny rfl (by have hq := pq_bd (a := (w / 2)) (b := ((h + 1) / 2)) (by omega) (by omega) (by omega) (by omega); simp only [kLo]; omega) (by have hq := pq_bd (a := (w / 2)) (b := ((h + 1) / 2)) (by omega) (by omega) (by omega) (by omega); simp only [kHi]; omega)))) <| zE oNe <| zE oPo <| zE (oV (vb (false || (((r.length : Nat) : Int) != ((w / 2) * ((h + 1) / 2))))) (mv_ok (by kernel_rfl))) <| ?_
        rcases hb8 : (false || (((r.length : Nat) : Int) != ((w / 2) * ((h + 1) / 2)))) with _ | _
        · refine zE (oFr fo28_5) <| zR (oL1 sh22) <| zE (oLm el22 (L := d)) <| zM <| zM <| zE (zMl (((w + 1) / 2) * (h / 2)) (hr := by exact (wAny rfl (by have hq := pq_bd (a := ((w + 1) / 2)) (b := (h / 2)) (by omega) (by omega) (by omega) (by omega); simp only [kLo]; omega) (by have hq := pq_bd (a := ((w + 1) / 2)) (b := (h / 2)) (by omega) (by omega) (by omega) (by omega); simp only [kHi]; omega)))) <| zE oNe <| zE oPo <| zE (oV (vb (false || (((d.length : Nat) : Int) != (((w + 1) / 2) * (h / 2))))) (mv_ok (by kernel_rfl))) <| ?_
          rcases hb9 : (false || (((d.length : Nat) : Int) != (((w + 1) / 2) * (h / 2)))) with _ | _
          · exact zE (oFr fo28_6) <| zR (oL1 sh22) <| zE (oLm el22 (L := c)) <| zM <| zM <| zE (zMl ((w / 2) * (h / 2)) (hr := by exact (wAny rfl (by have hq := pq_bd (a := (w / 2)) (b := (h / 2)) (by omega) (by omega) (by omega) (by omega); simp only [kLo]; omega) (by have hq := pq_bd (a := (w / 2)) (b := (h / 2)) (by omega) (by omega) (by omega) (by omega); simp only [kHi]; omega)))) <| zE oNe <| zE oPo <| zZ
          · exact zK <| zK <| zK <| zK <| zK <| zK <| zK <| zE oPt <| zZ
        · exact zK <| zK <| zK <| zK <| zK <| zK <| zK <| zE oPt <| zM <| zK <| zK <| zK <| zK <| zK <| zK <| zK <| zE oPt <| zZ
      · replace hb7 := bne_iff_ne.1 hb7
        exact zK <| zK <| zK <| zK <| zK <| zK <| zK <| zE oPt <| zM <| zK <| zK <| zK <| zK <| zK <| zK <| zK <| zE oPt <| zM <| zK <| zK <| zK <| zK <| zK <| zK <| zK <| zE oPt <| zZ
    refine pwp_cond rfl (fun h10 => ?_) (fun h10 => ?_)
    · refine pwp_seq <| kx [(2, (vb false))] [] (zM <| zZ) ?_
      refine pwp_ret ⟨_, (.tmp (d := (.val (.bool (false)))) rfl .nil), ?_⟩
      rw [vb_2 h10]; rfl
    · refine pwp_skip <| pwp_seq <| pwp_seq <| kx [(95, (vl 22 1 enc_sl_22 [l, r, d, c])), (96, (vin 4)), (97, (vin 0))] [] (zE (oFr fo28_3) <| zR (oL1 sh22) <| zE (oFr fo28_4) <| zR (oL1 sh22) <| zE (oFr fo28_5) <| zR (oL1 sh22) <| zE (oFr fo28_6) <| zR (oL1 sh22) <| zE (oBs el57 ze22 zo22) <| zE (oLn el57 4) <| zM <| zZ) ?_
      refine pwp_block <| pwp_loop (α := Nat) (fun k => ⟨[(95, (vl 22 1 enc_sl_22 [l, r, d, c])), (96, (vin 4)), (97, (vin k))], []⟩) (fun k => k ≤ 4 ∧ (([l, r, d, c].take k).any fun x => x.any badB) = false) (fun k => 4 - k) 0 wk ⟨Nat.zero_le _, rfl⟩ ?_
      rintro k ⟨hk, hv⟩
      have hgk : ([l, r, d, c].getD k []).length ≤ 1000000 := four_len hbl hbr hbd hbc k
      have h4l : [l, r, d, c].length = 4 := rfl
      refine pwp_seq <| kx [(98, (vb (decide (((k : Nat) : Int) < ((4 : Nat) : Int)))))] [] (zE oLt <| zZ) ?_
      refine pwp_seq <| pwp_cond rfl (fun h11 => ?_) (fun h11 => ?_)
      · replace h11 := of_decide_eq_true h11
        refine pwp_skip <| pwp_seq <| pwp_block <| pwp_seq <| kx [(8, (vl 3 1 enc_i64 ([l, r, d, c].getD k [])))] [] (zE (oXl el57 k ([] : List (Int)) (L := [l, r, d, c])) <| zE (oC1 sh22) <| zM <| zZ) ?_
        refine pwp_seq <| kx [(101, (vl 3 1 enc_i64 ([l, r, d, c].getD k []))), (102, (vin (([l, r, d, c].getD k []).length))), (103, (vin 0))] [] (zM <| zE (oLm el22 (L := ([l, r, d, c].getD k []))) <| zM <| zZ) ?_
        refine pwp_block <| pwp_loop (α := Nat) (fun j => ⟨[(95, (vl 22 1 enc_sl_22 [l, r, d, c])), (96, (vin 4)), (97, (vin k)), (101, (vl 3 1 enc_i64 ([l, r, d, c].getD k []))), (102, (vin (([l, r, d, c].getD k []).length))), (103, (vin j))], []⟩) (fun j => j ≤ ([l, r, d, c].getD k []).length ∧ (([l, r, d, c].getD k []).take j).any badB = false) (fun j => ([l, r, d, c].getD k []).length - j) 0 wk ⟨Nat.zero_le _, rfl⟩ ?_
        rintro j ⟨hj, hj2⟩
        refine pwp_seq <| kx [(104, (vb (decide (((j : Nat) : Int) < ((([l, r, d, c].getD k []).length : Nat) : Int)))))] [] (zE oLt <| zZ) ?_
        refine pwp_seq <| pwp_cond rfl (fun h12 => ?_) (fun h12 => ?_)
        · replace h12 := of_decide_eq_true h12
          refine pwp_skip <| pwp_seq <| pwp_block <| pwp_seq <| kx [(10, (vi (([l, r, d, c].getD k []).getD j 0)))] [] (zE (oXl el22 j (0 : Int) (L := ([l, r, d, c].getD k []))) <| zE (oC1 sh3) <| zM <| zZ) ?_
          refine pwp_seq <| kx [(112, (vb (decide (1048576 < (([l, r, d, c].getD k []).getD j 0)) || decide ((([l, r, d, c].getD k []).getD j 0) < -1048576))))] [] ?_ ?_
          · refine zM <| zE oGt <| zE (oV (vb (decide (1048576 < (([l, r, d, c].getD k []).getD j 0)))) (mv_ok (by kernel_rfl))) <| ?_
            rcases hb13 : (decide (1048576 < (([l, r, d, c].getD k []).getD j 0))) with _ | _
            · replace hb13 := of_decide_eq_false hb13
              exact zM <| zE oLt <| zE oPo <| zZ
            · replace hb13 := of_decide_eq_true hb13
              exact zK <| zK <| zE oPt <| zZ
          refine pwp_cond rfl (fun h14 => ?_) (fun h14 => ?_)
          · have hbd := badB_or.symm.trans h14
            refine pwp_seq <| kx [(2, (vb false))] [] (zM <| zZ) ?_
            refine pwp_ret ⟨_, (.tmp (d := (.val (.bool (false)))) rfl .nil), ?_⟩
            rw [vb_3 (k := k) (by omega) (py_any_at (k := j) (by omega) hbd)]; rfl
          · have hbd := badB_or.symm.trans h14
            refine pwp_skip <| kx [(103, (vin (j + 1)))] [] (zE (oAd (j + 1)) <| zM <| zZ) ?_
            exact ⟨(j + 1), wk, ⟨by omega, py_any_step hj2 (by omega) hbd⟩, (by omega)⟩
        · replace h12 := of_decide_eq_false h12
          refine pwp_exit <| kx [(97, (vin (k + 1)))] [] (zE (oAd (k + 1)) <| zM <| zZ) ?_
          exact ⟨(k + 1), wk, ⟨by omega, vb_step hv (show k < 4 by omega) (py_any_end hj2 (by omega))⟩, (by omega)⟩
      · replace h11 := of_decide_eq_false h11
        refine pwp_exit <| pwp_seq <| kx [(2, (vb true))] [] (zM <| zZ) ?_
        refine pwp_ret ⟨_, (.tmp (d := (.val (.bool (true)))) rfl .nil), ?_⟩
        rw [vb_4 h6 h10 (by rw [show k = 4 by omega] at hv; exact hv)]; rfl
theorem p_ljoiO (w h : Nat) (m : Int) (l r d c : List Int) (hnl : l.length ≤ 1000000) (hnr : r.length ≤ 1000000) (hnd : d.length ≤ 1000000) (hnc : c.length ≤ 1000000) (hf : vBnd ((w : Nat) : Int) ((h : Nat) : Int) m l r d c = true) (hv : BndOk w h l r d c) (hc : ((pxJ w h l r d c).any (badPx m)) = false) : Takes Tryz.prog 15 [(encBnd (RBnd.mk ((w : Nat) : Int) ((h : Nat) : Int) m l r d c))] (.tup [(encRst (RRst.mk ((w : Nat) : Int) ((h : Nat) : Int) m (pxJ w h l r d c))), (.val (.int .i64 (0)))]) := by
  have hv0 := hv
  obtain ⟨w1, w2, w3, w4, v1, v2, v3, v4, hbl, hbr, hbd, hbc⟩ := hv
  have b1 : 0 < (w + 1) / 2 := by omega
  have hst : (h + 1) / 2 = h / 2 ∨ (h + 1) / 2 = h / 2 + 1 := by omega
  have hll : l.length ≤ 1000000 := by rw [v1]; exact Nat.le_trans (Nat.mul_le_mul (show (w + 1) / 2 ≤ 32 by omega) (show (h + 1) / 2 ≤ 32 by omega)) (by decide)
  have hlr : r.length ≤ 1000000 := by rw [v2]; exact Nat.le_trans (Nat.mul_le_mul (show w / 2 ≤ 32 by omega) (show (h + 1) / 2 ≤ 32 by omega)) (by decide)
  have hld : d.length ≤ 1000000 := by rw [v3]; exact Nat.le_trans (Nat.mul_le_mul (show (w + 1) / 2 ≤ 32 by omega) (show h / 2 ≤ 32 by omega)) (by decide)
  have hlc : c.length ≤ 1000000 := by rw [v4]; exact Nat.le_trans (Nat.mul_le_mul (show w / 2 ≤ 32 by omega) (show h / 2 ≤ 32 by omega)) (by decide)
  obtain ⟨tL, nL, _⟩ := stkV_tab (w := (w + 1) / 2) (by omega) (by omega) (by omega) hst v1 v3 hbl hbd
  obtain ⟨tH, nH, zH⟩ := stkV_tab (w := w / 2) (by omega) (by omega) (by omega) hst v2 v4 hbr hbc
  have nL := nL b1
  have hq : w / 2 = 0 ∨ (stkV ((w + 1) / 2) ((h + 1) / 2) (h / 2) l d).length ≤ (stkV (w / 2) ((h + 1) / 2) (h / 2) r c).length := by rcases Nat.eq_zero_or_pos (w / 2) with h0 | h0; exact .inl h0; right; rw [nL, nH h0]; exact Nat.le_refl _
  have hpq : (w + 1) / 2 = w / 2 ∨ (w + 1) / 2 = w / 2 + 1 := by omega
  refine fn_intro Tryz.func15 rfl cb15 rfl ?_
  show PWp _ _ _ _ ⟨[(0, (.d (encBnd (RBnd.mk ((w : Nat) : Int) ((h : Nat) : Int) m l r d c))))], []⟩
  refine pwp_seq <| kx [(1, (.ref 0 0)), (2, (.ref 1 0))] [(0, some (bx (encBnd (RBnd.mk ((w : Nat) : Int) ((h : Nat) : Int) m l r d c)))), (1, some (bx (encRst (RRst.mk 0 0 0 []))))] (zN (oBx 0) <| zN (oAl 1 ze24 zo24) <| zM <| zZ) ?_
  refine pwp_seq <| pwp_seq <| kx [(14, (vb false))] [] (zR (oLa sh28) <| zE (oBk true (oCl (p_lvalid ((w : Nat) : Int) ((h : Nat) : Int) m l r d c hll hlr hld hlc)) (by exact hf)) <| zE oNt <| zZ) ?_
  refine pwp_cond (b := false) (by kernel_rfl) (fun h => by cases h) (fun _ => ?_)
  refine pwp_skip <| pwp_seq <| kx [(4, (.d (.val (.func (.func 35) #[] #[]))))] [] (zM <| zZ) ?_
  refine pwp_seq <| kx [(5, (vl 22 1 enc_sl_22 (stkV ((w + 1) / 2) ((h + 1) / 2) (h / 2) l d)))] [] (zM <| zE (oFr fo28_3) <| zR (oL1 sh22) <| zE (oFr fo28_5) <| zR (oL1 sh22) <| zE (oFr fo28_0) <| zR (oL1 sh3) <| zE (oAd (w + 1)) <| zE (oQu ((w + 1) / 2)) <| zE (oCl (p_lstG l d ((w + 1) / 2) ((h + 1) / 2) (h / 2) (by omega) (by omega) (by omega) v1 v3 hll hld hbl hbd hst (by omega) (by omega))) <| zM <| zZ) ?_
  refine pwp_seq <| kx [(6, (vl 22 1 enc_sl_22 (stkV (w / 2) ((h + 1) / 2) (h / 2) r c)))] [] (zM <| zE (oFr fo28_4) <| zR (oL1 sh22) <| zE (oFr fo28_6) <| zR (oL1 sh22) <| zE (oFr fo28_0) <| zR (oL1 sh3) <| zE (oQu (w / 2)) <| zE (oCl (p_lstG r c (w / 2) ((h + 1) / 2) (h / 2) (by omega) (by omega) (by omega) v2 v4 hlr hlc hbr hbc hst (by omega) (by omega))) <| zM <| zZ) ?_
  refine pwp_seq <| kx [(7, (.ref 2 0))] [(2, some (bx (.agg [(.val (.int .i64 (((w : Nat) : Int)))), (.val (.int .i64 (((h : Nat) : Int)))), (.val (.int .i64 (m))), (.val (.slice none 0 0))])))] (zE (oFr fo28_0) <| zR (oL1 sh3) <| zE (oFr fo28_1) <| zR (oL1 sh3) <| zE (oFr fo28_2) <| zR (oL1 sh3) <| zE (oBd pl24 ze24 zn24) <| zN (oAl 2 ze24 zo24) <| zT (oSt sh24) <| zZ) ?_
  refine pwp_seq <| pwp_seq <| pwp_own 2 3 3 3 1 (cs := (bx (.agg [(.val (.int .i64 (((w : Nat) : Int)))), (.val (.int .i64 (((h : Nat) : Int)))), (.val (.int .i64 (m))), (.val (.slice none 0 0))]))) (h := ?_)
  refine pwp_sim (wk (l := [(2, (.ref 1 0)), (5, (vl 22 1 enc_sl_22 (stkV ((w + 1) / 2) ((h + 1) / 2) (h / 2) l d))), (6, (vl 22 1 enc_sl_22 (stkV (w / 2) ((h + 1) / 2) (h / 2) r c))), (7, (.ref 2 0))]) (b := [(1, some (bx (encRst (RRst.mk 0 0 0 [])))), (2, some [(vin w), (vin h), (vi m), (.own 3 3 1 0)]), (3, some (bm enc_i64 []))])) ?_
  refine kx [(43, (vin ((stkV ((w + 1) / 2) ((h + 1) / 2) (h / 2) l d).length))), (44, (vin 0))] [] (zM <| zE (oLm el58 (L := (stkV ((w + 1) / 2) ((h + 1) / 2) (h / 2) l d))) <| zM <| zZ) ?_
  refine pwp_block <| pwp_loop (α := Nat × List Int) (fun (k, out) => ⟨[(2, (.ref 1 0)), (5, (vl 22 1 enc_sl_22 (stkV ((w + 1) / 2) ((h + 1) / 2) (h / 2) l d))), (6, (vl 22 1 enc_sl_22 (stkV (w / 2) ((h + 1) / 2) (h / 2) r c))), (7, (.ref 2 0)), (43, (vin ((stkV ((w + 1) / 2) ((h + 1) / 2) (h / 2) l d).length))), (44, (vin k))], [(1, some (bx (encRst (RRst.mk 0 0 0 [])))), (2, some [(vin w), (vin h), (vi m), (.own 3 3 1 out.length)]), (3, some (bm enc_i64 out))]⟩) (fun (k, out) => k ≤ (stkV ((w + 1) / 2) ((h + 1) / 2) (h / 2) l d).length ∧ out = (stkR (stkV ((w + 1) / 2) ((h + 1) / 2) (h / 2) l d) (stkV (w / 2) ((h + 1) / 2) (h / 2) r c) k).flatten) (fun (k, out) => (stkV ((w + 1) / 2) ((h + 1) / 2) (h / 2) l d).length - k) (0, []) wk ⟨Nat.zero_le _, rfl⟩ ?_
  rintro ⟨k, out⟩ ⟨hk, ho⟩
  have hol : out.length ≤ 1000000 := by rw [ho, stkF_len tL.1 tH.1 hq hpq k hk]; exact Nat.le_trans (Nat.mul_le_mul (show k ≤ 64 by omega) (show (w + 1) / 2 + w / 2 ≤ 64 by omega)) (by decide)
  have hgl := tab_get tL k
  have hgh := tab_get tH k
  refine pwp_seq <| kx [(45, (vb (decide (((k : Nat) : Int) < (((stkV ((w + 1) / 2) ((h + 1) / 2) (h / 2) l d).length : Nat) : Int)))))] [] (zE oLt <| zZ) ?_
  refine pwp_seq <| pwp_cond rfl (fun h1 => ?_) (fun h1 => ?_)
  · replace h1 := of_decide_eq_true h1
    have hrl := rect_get tL.1 (y := k) (by omega)
    refine pwp_skip <| pwp_seq <| pwp_block <| pwp_seq <| kx [(8, (vin k))] [] (zM <| zM <| zZ) ?_
    refine pwp_seq <| kx [(9, (vl 3 1 enc_i64 []))] [] (zE (oNl 3 1) <| zZ) ?_
    refine pwp_seq <| pwp_seq <| kx [(50, (vb (decide (((k : Nat) : Int) < (((stkV (w / 2) ((h + 1) / 2) (h / 2) r c).length : Nat) : Int)))))] [] (zM <| zM <| zE (oLm el58 (L := (stkV (w / 2) ((h + 1) / 2) (h / 2) r c))) <| zE oLt <| zZ) ?_
    refine pwp_cond rfl (fun h2 => ?_) (fun h2 => ?_)
    · replace h2 := of_decide_eq_true h2
      have hrow := row_len tL.1 tH.1 (k := k) (by omega) hq hpq
      have hpos : 0 < (joinS ((stkV ((w + 1) / 2) ((h + 1) / 2) (h / 2) l d).getD k []) ((stkV (w / 2) ((h + 1) / 2) (h / 2) r c).getD k [])).length := by omega
      have hrh := rect_get tH.1 (y := k) (by omega)
      refine kx [(9, (vl 3 1 enc_i64 ((stkV (w / 2) ((h + 1) / 2) (h / 2) r c).getD k [])))] [] (zM <| zM <| zE (oXl el58 k ([] : List (Int)) (L := (stkV (w / 2) ((h + 1) / 2) (h / 2) r c))) <| zE (oC1 sh22) <| zM <| zZ) ?_
      refine kd [] [(2, some [(vin w), (vin h), (vi m), (.own 4 3 1 ((out ++ (joinS ((stkV ((w + 1) / 2) ((h + 1) / 2) (h / 2) l d).getD k []) ((stkV (w / 2) ((h + 1) / 2) (h / 2) r c).getD k []))).length))]), (4, some (bm enc_i64 (out ++ (joinS ((stkV ((w + 1) / 2) ((h + 1) / 2) (h / 2) l d).getD k []) ((stkV (w / 2) ((h + 1) / 2) (h / 2) r c).getD k []))))), (3, none)] mo (wE (oFr fo24_3) <| wR (oL1 sh22) <| wM <| wM <| wE (oXl el58 k ([] : List (Int)) (L := (stkV ((w + 1) / 2) ((h + 1) / 2) (h / 2) l d))) <| wE (oC1 sh22) <| wM <| wE (oCl (p_ljoin ((stkV ((w + 1) / 2) ((h + 1) / 2) (h / 2) l d).getD k []) ((stkV (w / 2) ((h + 1) / 2) (h / 2) r c).getD k []) (hgl.1.up (by decide)) (hgh.1.up (by decide)) (Nat.le_trans hgl.2 (by decide)) (Nat.le_trans hgh.2 (by decide)) (by omega))) <| wA (k := 3) 4 enc_i64 out (joinS ((stkV ((w + 1) / 2) ((h + 1) / 2) (h / 2) l d).getD k []) ((stkV (w / 2) ((h + 1) / 2) (h / 2) r c).getD k [])) rfl el22 ze3 by3 (hpos := Nat.ble_eq_true_of_le hpos) <| wE (oFr fo24_3) <| wT (oSx sh22) <| wZ) ?_
      refine pwp_sim (wk (l := [(2, (.ref 1 0)), (5, (vl 22 1 enc_sl_22 (stkV ((w + 1) / 2) ((h + 1) / 2) (h / 2) l d))), (6, (vl 22 1 enc_sl_22 (stkV (w / 2) ((h + 1) / 2) (h / 2) r c))), (7, (.ref 2 0)), (43, (vin ((stkV ((w + 1) / 2) ((h + 1) / 2) (h / 2) l d).length))), (44, (vin k))]) (b := [(1, some (bx (encRst (RRst.mk 0 0 0 [])))), (2, some [(vin w), (vin h), (vi m), (.own 4 3 1 ((out ++ (joinS ((stkV ((w + 1) / 2) ((h + 1) / 2) (h / 2) l d).getD k []) ((stkV (w / 2) ((h + 1) / 2) (h / 2) r c).getD k []))).length))]), (4, some (bm enc_i64 (out ++ (joinS ((stkV ((w + 1) / 2) ((h + 1) / 2) (h / 2) l d).getD k []) ((stkV (w / 2) ((h + 1) / 2) (h / 2) r c).getD k [])))))])) ?_
      refine pwp_sim (sim_ren2 (S' := [(2, (.ref 1 0)), (5, (vl 22 1 enc_sl_22 (stkV ((w + 1) / 2) ((h + 1) / 2) (h / 2) l d))), (6, (vl 22 1 enc_sl_22 (stkV (w / 2) ((h + 1) / 2) (h / 2) r c))), (7, (.ref 2 0)), (43, (vin ((stkV ((w + 1) / 2) ((h + 1) / 2) (h / 2) l d).length))), (44, (vin k))]) (B' := [(1, some (bx (encRst (RRst.mk 0 0 0 [])))), (2, some [(vin w), (vin h), (vi m), (.own 3 3 1 ((out ++ (joinS ((stkV ((w + 1) / 2) ((h + 1) / 2) (h / 2) l d).getD k []) ((stkV (w / 2) ((h + 1) / 2) (h / 2) r c).getD k []))).length))]), (3, some (bm enc_i64 (out ++ (joinS ((stkV ((w + 1) / 2) ((h + 1) / 2) (h / 2) l d).getD k []) ((stkV (w / 2) ((h + 1) / 2) (h / 2) r c).getD k [])))))]) 3 4 2) ?_
      refine kx [(44, (vin (k + 1)))] [] (zE (oAd (k + 1)) <| zM <| zZ) ?_
      exact ⟨(k + 1, out ++ joinS ((stkV ((w + 1) / 2) ((h + 1) / 2) (h / 2) l d).getD k []) ((stkV (w / 2) ((h + 1) / 2) (h / 2) r c).getD k [])), wk, ⟨by omega, by rw [ho]; exact stkF_step _ _ k⟩, (by first | omega | (dsimp only; omega))⟩
    · replace h2 := of_decide_eq_false h2
      have hrow := row_len tL.1 tH.1 (k := k) (by omega) hq hpq
      rw [getD_ge (l := (stkV (w / 2) ((h + 1) / 2) (h / 2) r c)) (k := k) (by omega)] at hrow
      have hpos : 0 < (joinS ((stkV ((w + 1) / 2) ((h + 1) / 2) (h / 2) l d).getD k []) []).length := by omega
      refine pwp_skip <| kd [] [(2, some [(vin w), (vin h), (vi m), (.own 5 3 1 ((out ++ (joinS ((stkV ((w + 1) / 2) ((h + 1) / 2) (h / 2) l d).getD k []) [])).length))]), (5, some (bm enc_i64 (out ++ (joinS ((stkV ((w + 1) / 2) ((h + 1) / 2) (h / 2) l d).getD k []) [])))), (3, none)] mo (wE (oFr fo24_3) <| wR (oL1 sh22) <| wM <| wM <| wE (oXl el58 k ([] : List (Int)) (L := (stkV ((w + 1) / 2) ((h + 1) / 2) (h / 2) l d))) <| wE (oC1 sh22) <| wM <| wE (oCl (p_ljoin ((stkV ((w + 1) / 2) ((h + 1) / 2) (h / 2) l d).getD k []) [] (hgl.1.up (by decide)) (fun x hx => absurd hx List.not_mem_nil) (Nat.le_trans hgl.2 (by decide)) (Nat.zero_le _) (by simp only [List.length_nil]; omega))) <| wA (k := 3) 5 enc_i64 out (joinS ((stkV ((w + 1) / 2) ((h + 1) / 2) (h / 2) l d).getD k []) []) rfl el22 ze3 by3 (hpos := Nat.ble_eq_true_of_le hpos) <| wE (oFr fo24_3) <| wT (oSx sh22) <| wZ) ?_
      refine pwp_sim (wk (l := [(2, (.ref 1 0)), (5, (vl 22 1 enc_sl_22 (stkV ((w + 1) / 2) ((h + 1) / 2) (h / 2) l d))), (6, (vl 22 1 enc_sl_22 (stkV (w / 2) ((h + 1) / 2) (h / 2) r c))), (7, (.ref 2 0)), (43, (vin ((stkV ((w + 1) / 2) ((h + 1) / 2) (h / 2) l d).length))), (44, (vin k))]) (b := [(1, some (bx (encRst (RRst.mk 0 0 0 [])))), (2, some [(vin w), (vin h), (vi m), (.own 5 3 1 ((out ++ (joinS ((stkV ((w + 1) / 2) ((h + 1) / 2) (h / 2) l d).getD k []) [])).length))]), (5, some (bm enc_i64 (out ++ (joinS ((stkV ((w + 1) / 2) ((h + 1) / 2) (h / 2) l d).getD k []) []))))])) ?_
      refine pwp_sim (sim_ren2 (S' := [(2, (.ref 1 0)), (5, (vl 22 1 enc_sl_22 (stkV ((w + 1) / 2) ((h + 1) / 2) (h / 2) l d))), (6, (vl 22 1 enc_sl_22 (stkV (w / 2) ((h + 1) / 2) (h / 2) r c))), (7, (.ref 2 0)), (43, (vin ((stkV ((w + 1) / 2) ((h + 1) / 2) (h / 2) l d).length))), (44, (vin k))]) (B' := [(1, some (bx (encRst (RRst.mk 0 0 0 [])))), (2, some [(vin w), (vin h), (vi m), (.own 3 3 1 ((out ++ (joinS ((stkV ((w + 1) / 2) ((h + 1) / 2) (h / 2) l d).getD k []) [])).length))]), (3, some (bm enc_i64 (out ++ (joinS ((stkV ((w + 1) / 2) ((h + 1) / 2) (h / 2) l d).getD k []) []))))]) 3 5 2) ?_
      refine kx [(44, (vin (k + 1)))] [] (zE (oAd (k + 1)) <| zM <| zZ) ?_
      exact ⟨(k + 1, out ++ joinS ((stkV ((w + 1) / 2) ((h + 1) / 2) (h / 2) l d).getD k []) []), wk, ⟨by omega, by have e := getD_ge (l := (stkV (w / 2) ((h + 1) / 2) (h / 2) r c)) (k := k) (by omega); have q := stkF_step (stkV ((w + 1) / 2) ((h + 1) / 2) (h / 2) l d) (stkV (w / 2) ((h + 1) / 2) (h / 2) r c) k; rw [e] at q; rw [ho]; exact q⟩, (by first | omega | (dsimp only; omega))⟩
  · replace h1 := of_decide_eq_false h1
    have hke : out = (pxJ w h l r d c) := by rw [ho, show k = (stkV ((w + 1) / 2) ((h + 1) / 2) (h / 2) l d).length by omega]; rfl
    have hol2 : (pxJ w h l r d c).length ≤ 1000000 := by rw [← hke]; exact hol
    refine pwp_exit <| pwp_seq <| pwp_seq <| pwp_sim (publishAt (j := 2) (k := 3) (pre := [(vin w), (vin h), (vi m)]) (post := []) (es := List.map enc_i64 out) rfl (by decide) rfl (pub_cells _ _ (fun _ => rfl)) (map_len _ _ rfl) (pub_take _ _ (fun _ => rfl) rfl)) ?_
    refine pwp_sim (wk (l := [(2, (.ref 1 0)), (5, (vl 22 1 enc_sl_22 (stkV ((w + 1) / 2) ((h + 1) / 2) (h / 2) l d))), (6, (vl 22 1 enc_sl_22 (stkV (w / 2) ((h + 1) / 2) (h / 2) r c))), (7, (.ref 2 0)), (43, (vin ((stkV ((w + 1) / 2) ((h + 1) / 2) (h / 2) l d).length))), (44, (vin k)), (45, (vb (decide (((k : Nat) : Int) < (((stkV ((w + 1) / 2) ((h + 1) / 2) (h / 2) l d).length : Nat) : Int)))))]) (b := [(1, some (bx (encRst (RRst.mk 0 0 0 [])))), (2, some (bx (encRst (RRst.mk ((w : Nat) : Int) ((h : Nat) : Int) m out))))])) ?_
    refine kx [(67, (vl 3 1 enc_i64 out)), (68, (vin out.length)), (69, (vin 0))] [] (zE (oFr fo24_3) <| zR (oL1 sh22) <| zE (oLm el22) <| zM <| zZ) ?_
    refine pwp_block <| pwp_loop (α := Nat) (fun j => ⟨[(2, (.ref 1 0)), (7, (.ref 2 0)), (67, (vl 3 1 enc_i64 out)), (68, (vin out.length)), (69, (vin j))], [(1, some (bx (encRst (RRst.mk 0 0 0 [])))), (2, some (bx (encRst (RRst.mk ((w : Nat) : Int) ((h : Nat) : Int) m out))))]⟩) (fun j => j ≤ out.length ∧ (out.take j).any (badPx m) = false) (fun j => out.length - j) 0 wk ⟨Nat.zero_le _, rfl⟩ ?_
    rintro j ⟨hj, hj2⟩
    refine pwp_seq <| kx [(70, (vb (decide (((j : Nat) : Int) < ((out.length : Nat) : Int)))))] [] (zE oLt <| zZ) ?_
    refine pwp_seq <| pwp_cond rfl (fun h3 => ?_) (fun h3 => ?_)
    · replace h3 := of_decide_eq_true h3
      refine pwp_skip <| pwp_seq <| pwp_block <| pwp_seq <| kx [(11, (vi (out.getD j 0)))] [] (zE (oXl el22 j (0 : Int)) <| zE (oC1 sh3) <| zM <| zZ) ?_
      refine pwp_seq <| kx [(80, (vb (decide ((out.getD j 0) < 0) || decide (m < (out.getD j 0)))))] [] ?_ ?_
      · refine zM <| zE oLt <| zE (oV (vb (decide ((out.getD j 0) < 0))) (mv_ok (by kernel_rfl))) <| ?_
        rcases hb4 : (decide ((out.getD j 0) < 0)) with _ | _
        · replace hb4 := of_decide_eq_false hb4
          exact zM <| zE (oFr fo24_2) <| zR (oL1 sh3) <| zE oGt <| zE oPo <| zZ
        · replace hb4 := of_decide_eq_true hb4
          exact zK <| zK <| zK <| zK <| zE oPt <| zZ
      refine pwp_cond rfl (fun h5 => ?_) (fun h5 => ?_)
      · refine pwp_seq <| kx [(3, (vin 15))] [(1, some (bx (encRst (RRst.mk 0 0 0 []))))] (zE (oBd pl24 ze24 zo24) <| zT (oSt sh24) <| zM <| zZ) ?_
        refine pwp_ret ⟨_, (res_a (cs := (bx (encRst (RRst.mk 0 0 0 [])))) (d := (encRst (RRst.mk 0 0 0 []))) rfl rfl sh24 rfl rfl (.tmp (d := (.val (.int .i64 (15)))) rfl .nil)), ?_⟩
        exact absurd (py_any_at (f := badPx m) (k := j) (by omega) h5) (by rw [hke, hc]; decide)
      · refine pwp_skip <| kx [(69, (vin (j + 1)))] [] (zE (oAd (j + 1)) <| zM <| zZ) ?_
        exact ⟨(j + 1), wk, ⟨by omega, py_any_step hj2 (by omega) h5⟩, (by omega)⟩
    · replace h3 := of_decide_eq_false h3
      refine pwp_exit <| pwp_seq <| kx [(3, (vin 0))] [(1, some (bx (encRst (RRst.mk ((w : Nat) : Int) ((h : Nat) : Int) m out))))] (zR (oLa sh24) <| zT (oSt sh24) <| zM <| zZ) ?_
      refine pwp_ret ⟨_, (res_a (cs := (bx (encRst (RRst.mk ((w : Nat) : Int) ((h : Nat) : Int) m out)))) (d := (encRst (RRst.mk ((w : Nat) : Int) ((h : Nat) : Int) m out))) rfl rfl sh24 rfl rfl (.tmp (d := (.val (.int .i64 (0)))) rfl .nil)), ?_⟩
      rw [hke]; rfl
theorem p_ljoiE (w h : Nat) (m : Int) (l r d c : List Int) (hnl : l.length ≤ 1000000) (hnr : r.length ≤ 1000000) (hnd : d.length ≤ 1000000) (hnc : c.length ≤ 1000000) (hf : vBnd ((w : Nat) : Int) ((h : Nat) : Int) m l r d c = true) (hv : BndOk w h l r d c) (hc : ((pxJ w h l r d c).any (badPx m)) = true) : Takes Tryz.prog 15 [(encBnd (RBnd.mk ((w : Nat) : Int) ((h : Nat) : Int) m l r d c))] (.tup [(encRst (RRst.mk 0 0 0 [])), (.val (.int .i64 (15)))]) := by
  have hv0 := hv
  obtain ⟨w1, w2, w3, w4, v1, v2, v3, v4, hbl, hbr, hbd, hbc⟩ := hv
  have b1 : 0 < (w + 1) / 2 := by omega
  have hst : (h + 1) / 2 = h / 2 ∨ (h + 1) / 2 = h / 2 + 1 := by omega
  have hll : l.length ≤ 1000000 := by rw [v1]; exact Nat.le_trans (Nat.mul_le_mul (show (w + 1) / 2 ≤ 32 by omega) (show (h + 1) / 2 ≤ 32 by omega)) (by decide)
  have hlr : r.length ≤ 1000000 := by rw [v2]; exact Nat.le_trans (Nat.mul_le_mul (show w / 2 ≤ 32 by omega) (show (h + 1) / 2 ≤ 32 by omega)) (by decide)
  have hld : d.length ≤ 1000000 := by rw [v3]; exact Nat.le_trans (Nat.mul_le_mul (show (w + 1) / 2 ≤ 32 by omega) (show h / 2 ≤ 32 by omega)) (by decide)
  have hlc : c.length ≤ 1000000 := by rw [v4]; exact Nat.le_trans (Nat.mul_le_mul (show w / 2 ≤ 32 by omega) (show h / 2 ≤ 32 by omega)) (by decide)
  obtain ⟨tL, nL, _⟩ := stkV_tab (w := (w + 1) / 2) (by omega) (by omega) (by omega) hst v1 v3 hbl hbd
  obtain ⟨tH, nH, zH⟩ := stkV_tab (w := w / 2) (by omega) (by omega) (by omega) hst v2 v4 hbr hbc
  have nL := nL b1
  have hq : w / 2 = 0 ∨ (stkV ((w + 1) / 2) ((h + 1) / 2) (h / 2) l d).length ≤ (stkV (w / 2) ((h + 1) / 2) (h / 2) r c).length := by rcases Nat.eq_zero_or_pos (w / 2) with h0 | h0; exact .inl h0; right; rw [nL, nH h0]; exact Nat.le_refl _
  have hpq : (w + 1) / 2 = w / 2 ∨ (w + 1) / 2 = w / 2 + 1 := by omega
  refine fn_intro Tryz.func15 rfl cb15 rfl ?_
  show PWp _ _ _ _ ⟨[(0, (.d (encBnd (RBnd.mk ((w : Nat) : Int) ((h : Nat) : Int) m l r d c))))], []⟩
  refine pwp_seq <| kx [(1, (.ref 0 0)), (2, (.ref 1 0))] [(0, some (bx (encBnd (RBnd.mk ((w : Nat) : Int) ((h : Nat) : Int) m l r d c)))), (1, some (bx (encRst (RRst.mk 0 0 0 []))))] (zN (oBx 0) <| zN (oAl 1 ze24 zo24) <| zM <| zZ) ?_
  refine pwp_seq <| pwp_seq <| kx [(14, (vb false))] [] (zR (oLa sh28) <| zE (oBk true (oCl (p_lvalid ((w : Nat) : Int) ((h : Nat) : Int) m l r d c hll hlr hld hlc)) (by exact hf)) <| zE oNt <| zZ) ?_
  refine pwp_cond (b := false) (by kernel_rfl) (fun h => by cases h) (fun _ => ?_)
  refine pwp_skip <| pwp_seq <| kx [(4, (.d (.val (.func (.func 35) #[] #[]))))] [] (zM <| zZ) ?_
  refine pwp_seq <| kx [(5, (vl 22 1 enc_sl_22 (stkV ((w + 1) / 2) ((h + 1) / 2) (h / 2) l d)))] [] (zM <| zE (oFr fo28_3) <| zR (oL1 sh22) <| zE (oFr fo28_5) <| zR (oL1 sh22) <| zE (oFr fo28_0) <| zR (oL1 sh3) <| zE (oAd (w + 1)) <| zE (oQu ((w + 1) / 2)) <| zE (oCl (p_lstG l d ((w + 1) / 2) ((h + 1) / 2) (h / 2) (by omega) (by omega) (by omega) v1 v3 hll hld hbl hbd hst (by omega) (by omega))) <| zM <| zZ) ?_
  refine pwp_seq <| kx [(6, (vl 22 1 enc_sl_22 (stkV (w / 2) ((h + 1) / 2) (h / 2) r c)))] [] (zM <| zE (oFr fo28_4) <| zR (oL1 sh22) <| zE (oFr fo28_6) <| zR (oL1 sh22) <| zE (oFr fo28_0) <| zR (oL1 sh3) <| zE (oQu (w / 2)) <| zE (oCl (p_lstG r c (w / 2) ((h + 1) / 2) (h / 2) (by omega) (by omega) (by omega) v2 v4 hlr hlc hbr hbc hst (by omega) (by omega))) <| zM <| zZ) ?_
  refine pwp_seq <| kx [(7, (.ref 2 0))] [(2, some (bx (.agg [(.val (.int .i64 (((w : Nat) : Int)))), (.val (.int .i64 (((h : Nat) : Int)))), (.val (.int .i64 (m))), (.val (.slice none 0 0))])))] (zE (oFr fo28_0) <| zR (oL1 sh3) <| zE (oFr fo28_1) <| zR (oL1 sh3) <| zE (oFr fo28_2) <| zR (oL1 sh3) <| zE (oBd pl24 ze24 zn24) <| zN (oAl 2 ze24 zo24) <| zT (oSt sh24) <| zZ) ?_
  refine pwp_seq <| pwp_seq <| pwp_own 2 3 3 3 1 (cs := (bx (.agg [(.val (.int .i64 (((w : Nat) : Int)))), (.val (.int .i64 (((h : Nat) : Int)))), (.val (.int .i64 (m))), (.val (.slice none 0 0))]))) (h := ?_)
  refine pwp_sim (wk (l := [(2, (.ref 1 0)), (5, (vl 22 1 enc_sl_22 (stkV ((w + 1) / 2) ((h + 1) / 2) (h / 2) l d))), (6, (vl 22 1 enc_sl_22 (stkV (w / 2) ((h + 1) / 2) (h / 2) r c))), (7, (.ref 2 0))]) (b := [(1, some (bx (encRst (RRst.mk 0 0 0 [])))), (2, some [(vin w), (vin h), (vi m), (.own 3 3 1 0)]), (3, some (bm enc_i64 []))])) ?_
  refine kx [(43, (vin ((stkV ((w + 1) / 2) ((h + 1) / 2) (h / 2) l d).length))), (44, (vin 0))] [] (zM <| zE (oLm el58 (L := (stkV ((w + 1) / 2) ((h + 1) / 2) (h / 2) l d))) <| zM <| zZ) ?_
  refine pwp_block <| pwp_loop (α := Nat × List Int) (fun (k, out) => ⟨[(2, (.ref 1 0)), (5, (vl 22 1 enc_sl_22 (stkV ((w + 1) / 2) ((h + 1) / 2) (h / 2) l d))), (6, (vl 22 1 enc_sl_22 (stkV (w / 2) ((h + 1) / 2) (h / 2) r c))), (7, (.ref 2 0)), (43, (vin ((stkV ((w + 1) / 2) ((h + 1) / 2) (h / 2) l d).length))), (44, (vin k))], [(1, some (bx (encRst (RRst.mk 0 0 0 [])))), (2, some [(vin w), (vin h), (vi m), (.own 3 3 1 out.length)]), (3, some (bm enc_i64 out))]⟩) (fun (k, out) => k ≤ (stkV ((w + 1) / 2) ((h + 1) / 2) (h / 2) l d).length ∧ out = (stkR (stkV ((w + 1) / 2) ((h + 1) / 2) (h / 2) l d) (stkV (w / 2) ((h + 1) / 2) (h / 2) r c) k).flatten) (fun (k, out) => (stkV ((w + 1) / 2) ((h + 1) / 2) (h / 2) l d).length - k) (0, []) wk ⟨Nat.zero_le _, rfl⟩ ?_
  rintro ⟨k, out⟩ ⟨hk, ho⟩
  have hol : out.length ≤ 1000000 := by rw [ho, stkF_len tL.1 tH.1 hq hpq k hk]; exact Nat.le_trans (Nat.mul_le_mul (show k ≤ 64 by omega) (show (w + 1) / 2 + w / 2 ≤ 64 by omega)) (by decide)
  have hgl := tab_get tL k
  have hgh := tab_get tH k
  refine pwp_seq <| kx [(45, (vb (decide (((k : Nat) : Int) < (((stkV ((w + 1) / 2) ((h + 1) / 2) (h / 2) l d).length : Nat) : Int)))))] [] (zE oLt <| zZ) ?_
  refine pwp_seq <| pwp_cond rfl (fun h1 => ?_) (fun h1 => ?_)
  · replace h1 := of_decide_eq_true h1
    have hrl := rect_get tL.1 (y := k) (by omega)
    refine pwp_skip <| pwp_seq <| pwp_block <| pwp_seq <| kx [(8, (vin k))] [] (zM <| zM <| zZ) ?_
    refine pwp_seq <| kx [(9, (vl 3 1 enc_i64 []))] [] (zE (oNl 3 1) <| zZ) ?_
    refine pwp_seq <| pwp_seq <| kx [(50, (vb (decide (((k : Nat) : Int) < (((stkV (w / 2) ((h + 1) / 2) (h / 2) r c).length : Nat) : Int)))))] [] (zM <| zM <| zE (oLm el58 (L := (stkV (w / 2) ((h + 1) / 2) (h / 2) r c))) <| zE oLt <| zZ) ?_
    refine pwp_cond rfl (fun h2 => ?_) (fun h2 => ?_)
    · replace h2 := of_decide_eq_true h2
      have hrow := row_len tL.1 tH.1 (k := k) (by omega) hq hpq
      have hpos : 0 < (joinS ((stkV ((w + 1) / 2) ((h + 1) / 2) (h / 2) l d).getD k []) ((stkV (w / 2) ((h + 1) / 2) (h / 2) r c).getD k [])).length := by omega
      have hrh := rect_get tH.1 (y := k) (by omega)
      refine kx [(9, (vl 3 1 enc_i64 ((stkV (w / 2) ((h + 1) / 2) (h / 2) r c).getD k [])))] [] (zM <| zM <| zE (oXl el58 k ([] : List (Int)) (L := (stkV (w / 2) ((h + 1) / 2) (h / 2) r c))) <| zE (oC1 sh22) <| zM <| zZ) ?_
      refine kd [] [(2, some [(vin w), (vin h), (vi m), (.own 4 3 1 ((out ++ (joinS ((stkV ((w + 1) / 2) ((h + 1) / 2) (h / 2) l d).getD k []) ((stkV (w / 2) ((h + 1) / 2) (h / 2) r c).getD k []))).length))]), (4, some (bm enc_i64 (out ++ (joinS ((stkV ((w + 1) / 2) ((h + 1) / 2) (h / 2) l d).getD k []) ((stkV (w / 2) ((h + 1) / 2) (h / 2) r c).getD k []))))), (3, none)] mo (wE (oFr fo24_3) <| wR (oL1 sh22) <| wM <| wM <| wE (oXl el58 k ([] : List (Int)) (L := (stkV ((w + 1) / 2) ((h + 1) / 2) (h / 2) l d))) <| wE (oC1 sh22) <| wM <| wE (oCl (p_ljoin ((stkV ((w + 1) / 2) ((h + 1) / 2) (h / 2) l d).getD k []) ((stkV (w / 2) ((h + 1) / 2) (h / 2) r c).getD k []) (hgl.1.up (by decide)) (hgh.1.up (by decide)) (Nat.le_trans hgl.2 (by decide)) (Nat.le_trans hgh.2 (by decide)) (by omega))) <| wA (k := 3) 4 enc_i64 out (joinS ((stkV ((w + 1) / 2) ((h + 1) / 2) (h / 2) l d).getD k []) ((stkV (w / 2) ((h + 1) / 2) (h / 2) r c).getD k [])) rfl el22 ze3 by3 (hpos := Nat.ble_eq_true_of_le hpos) <| wE (oFr fo24_3) <| wT (oSx sh22) <| wZ) ?_
      refine pwp_sim (wk (l := [(2, (.ref 1 0)), (5, (vl 22 1 enc_sl_22 (stkV ((w + 1) / 2) ((h + 1) / 2) (h / 2) l d))), (6, (vl 22 1 enc_sl_22 (stkV (w / 2) ((h + 1) / 2) (h / 2) r c))), (7, (.ref 2 0)), (43, (vin ((stkV ((w + 1) / 2) ((h + 1) / 2) (h / 2) l d).length))), (44, (vin k))]) (b := [(1, some (bx (encRst (RRst.mk 0 0 0 [])))), (2, some [(vin w), (vin h), (vi m), (.own 4 3 1 ((out ++ (joinS ((stkV ((w + 1) / 2) ((h + 1) / 2) (h / 2) l d).getD k []) ((stkV (w / 2) ((h + 1) / 2) (h / 2) r c).getD k []))).length))]), (4, some (bm enc_i64 (out ++ (joinS ((stkV ((w + 1) / 2) ((h + 1) / 2) (h / 2) l d).getD k []) ((stkV (w / 2) ((h + 1) / 2) (h / 2) r c).getD k [])))))])) ?_
      refine pwp_sim (sim_ren2 (S' := [(2, (.ref 1 0)), (5, (vl 22 1 enc_sl_22 (stkV ((w + 1) / 2) ((h + 1) / 2) (h / 2) l d))), (6, (vl 22 1 enc_sl_22 (stkV (w / 2) ((h + 1) / 2) (h / 2) r c))), (7, (.ref 2 0)), (43, (vin ((stkV ((w + 1) / 2) ((h + 1) / 2) (h / 2) l d).length))), (44, (vin k))]) (B' := [(1, some (bx (encRst (RRst.mk 0 0 0 [])))), (2, some [(vin w), (vin h), (vi m), (.own 3 3 1 ((out ++ (joinS ((stkV ((w + 1) / 2) ((h + 1) / 2) (h / 2) l d).getD k []) ((stkV (w / 2) ((h + 1) / 2) (h / 2) r c).getD k []))).length))]), (3, some (bm enc_i64 (out ++ (joinS ((stkV ((w + 1) / 2) ((h + 1) / 2) (h / 2) l d).getD k []) ((stkV (w / 2) ((h + 1) / 2) (h / 2) r c).getD k [])))))]) 3 4 2) ?_
      refine kx [(44, (vin (k + 1)))] [] (zE (oAd (k + 1)) <| zM <| zZ) ?_
      exact ⟨(k + 1, out ++ joinS ((stkV ((w + 1) / 2) ((h + 1) / 2) (h / 2) l d).getD k []) ((stkV (w / 2) ((h + 1) / 2) (h / 2) r c).getD k [])), wk, ⟨by omega, by rw [ho]; exact stkF_step _ _ k⟩, (by first | omega | (dsimp only; omega))⟩
    · replace h2 := of_decide_eq_false h2
      have hrow := row_len tL.1 tH.1 (k := k) (by omega) hq hpq
      rw [getD_ge (l := (stkV (w / 2) ((h + 1) / 2) (h / 2) r c)) (k := k) (by omega)] at hrow
      have hpos : 0 < (joinS ((stkV ((w + 1) / 2) ((h + 1) / 2) (h / 2) l d).getD k []) []).length := by omega
      refine pwp_skip <| kd [] [(2, some [(vin w), (vin h), (vi m), (.own 5 3 1 ((out ++ (joinS ((stkV ((w + 1) / 2) ((h + 1) / 2) (h / 2) l d).getD k []) [])).length))]), (5, some (bm enc_i64 (out ++ (joinS ((stkV ((w + 1) / 2) ((h + 1) / 2) (h / 2) l d).getD k []) [])))), (3, none)] mo (wE (oFr fo24_3) <| wR (oL1 sh22) <| wM <| wM <| wE (oXl el58 k ([] : List (Int)) (L := (stkV ((w + 1) / 2) ((h + 1) / 2) (h / 2) l d))) <| wE (oC1 sh22) <| wM <| wE (oCl (p_ljoin ((stkV ((w + 1) / 2) ((h + 1) / 2) (h / 2) l d).getD k []) [] (hgl.1.up (by decide)) (fun x hx => absurd hx List.not_mem_nil) (Nat.le_trans hgl.2 (by decide)) (Nat.zero_le _) (by simp only [List.length_nil]; omega))) <| wA (k := 3) 5 enc_i64 out (joinS ((stkV ((w + 1) / 2) ((h + 1) / 2) (h / 2) l d).getD k []) []) rfl el22 ze3 by3 (hpos := Nat.ble_eq_true_of_le hpos) <| wE (oFr fo24_3) <| wT (oSx sh22) <| wZ) ?_
      refine pwp_sim (wk (l := [(2, (.ref 1 0)), (5, (vl 22 1 enc_sl_22 (stkV ((w + 1) / 2) ((h + 1) / 2) (h / 2) l d))), (6, (vl 22 1 enc_sl_22 (stkV (w / 2) ((h + 1) / 2) (h / 2) r c))), (7, (.ref 2 0)), (43, (vin ((stkV ((w + 1) / 2) ((h + 1) / 2) (h / 2) l d).length))), (44, (vin k))]) (b := [(1, some (bx (encRst (RRst.mk 0 0 0 [])))), (2, some [(vin w), (vin h), (vi m), (.own 5 3 1 ((out ++ (joinS ((stkV ((w + 1) / 2) ((h + 1) / 2) (h / 2) l d).getD k []) [])).length))]), (5, some (bm enc_i64 (out ++ (joinS ((stkV ((w + 1) / 2) ((h + 1) / 2) (h / 2) l d).getD k []) []))))])) ?_
      refine pwp_sim (sim_ren2 (S' := [(2, (.ref 1 0)), (5, (vl 22 1 enc_sl_22 (stkV ((w + 1) / 2) ((h + 1) / 2) (h / 2) l d))), (6, (vl 22 1 enc_sl_22 (stkV (w / 2) ((h + 1) / 2) (h / 2) r c))), (7, (.ref 2 0)), (43, (vin ((stkV ((w + 1) / 2) ((h + 1) / 2) (h / 2) l d).length))), (44, (vin k))]) (B' := [(1, some (bx (encRst (RRst.mk 0 0 0 [])))), (2, some [(vin w), (vin h), (vi m), (.own 3 3 1 ((out ++ (joinS ((stkV ((w + 1) / 2) ((h + 1) / 2) (h / 2) l d).getD k []) [])).length))]), (3, some (bm enc_i64 (out ++ (joinS ((stkV ((w + 1) / 2) ((h + 1) / 2) (h / 2) l d).getD k []) []))))]) 3 5 2) ?_
      refine kx [(44, (vin (k + 1)))] [] (zE (oAd (k + 1)) <| zM <| zZ) ?_
      exact ⟨(k + 1, out ++ joinS ((stkV ((w + 1) / 2) ((h + 1) / 2) (h / 2) l d).getD k []) []), wk, ⟨by omega, by have e := getD_ge (l := (stkV (w / 2) ((h + 1) / 2) (h / 2) r c)) (k := k) (by omega); have q := stkF_step (stkV ((w + 1) / 2) ((h + 1) / 2) (h / 2) l d) (stkV (w / 2) ((h + 1) / 2) (h / 2) r c) k; rw [e] at q; rw [ho]; exact q⟩, (by first | omega | (dsimp only; omega))⟩
  · replace h1 := of_decide_eq_false h1
    have hke : out = (pxJ w h l r d c) := by rw [ho, show k = (stkV ((w + 1) / 2) ((h + 1) / 2) (h / 2) l d).length by omega]; rfl
    have hol2 : (pxJ w h l r d c).length ≤ 1000000 := by rw [← hke]; exact hol
    refine pwp_exit <| pwp_seq <| pwp_seq <| pwp_sim (publishAt (j := 2) (k := 3) (pre := [(vin w), (vin h), (vi m)]) (post := []) (es := List.map enc_i64 out) rfl (by decide) rfl (pub_cells _ _ (fun _ => rfl)) (map_len _ _ rfl) (pub_take _ _ (fun _ => rfl) rfl)) ?_
    refine pwp_sim (wk (l := [(2, (.ref 1 0)), (5, (vl 22 1 enc_sl_22 (stkV ((w + 1) / 2) ((h + 1) / 2) (h / 2) l d))), (6, (vl 22 1 enc_sl_22 (stkV (w / 2) ((h + 1) / 2) (h / 2) r c))), (7, (.ref 2 0)), (43, (vin ((stkV ((w + 1) / 2) ((h + 1) / 2) (h / 2) l d).length))), (44, (vin k)), (45, (vb (decide (((k : Nat) : Int) < (((stkV ((w + 1) / 2) ((h + 1) / 2) (h / 2) l d).length : Nat) : Int)))))]) (b := [(1, some (bx (encRst (RRst.mk 0 0 0 [])))), (2, some (bx (encRst (RRst.mk ((w : Nat) : Int) ((h : Nat) : Int) m out))))])) ?_
    refine kx [(67, (vl 3 1 enc_i64 out)), (68, (vin out.length)), (69, (vin 0))] [] (zE (oFr fo24_3) <| zR (oL1 sh22) <| zE (oLm el22) <| zM <| zZ) ?_
    refine pwp_block <| pwp_loop (α := Nat) (fun j => ⟨[(2, (.ref 1 0)), (7, (.ref 2 0)), (67, (vl 3 1 enc_i64 out)), (68, (vin out.length)), (69, (vin j))], [(1, some (bx (encRst (RRst.mk 0 0 0 [])))), (2, some (bx (encRst (RRst.mk ((w : Nat) : Int) ((h : Nat) : Int) m out))))]⟩) (fun j => j ≤ out.length ∧ (out.take j).any (badPx m) = false) (fun j => out.length - j) 0 wk ⟨Nat.zero_le _, rfl⟩ ?_
    rintro j ⟨hj, hj2⟩
    refine pwp_seq <| kx [(70, (vb (decide (((j : Nat) : Int) < ((out.length : Nat) : Int)))))] [] (zE oLt <| zZ) ?_
    refine pwp_seq <| pwp_cond rfl (fun h3 => ?_) (fun h3 => ?_)
    · replace h3 := of_decide_eq_true h3
      refine pwp_skip <| pwp_seq <| pwp_block <| pwp_seq <| kx [(11, (vi (out.getD j 0)))] [] (zE (oXl el22 j (0 : Int)) <| zE (oC1 sh3) <| zM <| zZ) ?_
      refine pwp_seq <| kx [(80, (vb (decide ((out.getD j 0) < 0) || decide (m < (out.getD j 0)))))] [] ?_ ?_
      · refine zM <| zE oLt <| zE (oV (vb (decide ((out.getD j 0) < 0))) (mv_ok (by kernel_rfl))) <| ?_
        rcases hb4 : (decide ((out.getD j 0) < 0)) with _ | _
        · replace hb4 := of_decide_eq_false hb4
          exact zM <| zE (oFr fo24_2) <| zR (oL1 sh3) <| zE oGt <| zE oPo <| zZ
        · replace hb4 := of_decide_eq_true hb4
          exact zK <| zK <| zK <| zK <| zE oPt <| zZ
      refine pwp_cond rfl (fun h5 => ?_) (fun h5 => ?_)
      · refine pwp_seq <| kx [(3, (vin 15))] [(1, some (bx (encRst (RRst.mk 0 0 0 []))))] (zE (oBd pl24 ze24 zo24) <| zT (oSt sh24) <| zM <| zZ) ?_
        refine pwp_ret ⟨_, (res_a (cs := (bx (encRst (RRst.mk 0 0 0 [])))) (d := (encRst (RRst.mk 0 0 0 []))) rfl rfl sh24 rfl rfl (.tmp (d := (.val (.int .i64 (15)))) rfl .nil)), ?_⟩
        rfl
      · refine pwp_skip <| kx [(69, (vin (j + 1)))] [] (zE (oAd (j + 1)) <| zM <| zZ) ?_
        exact ⟨(j + 1), wk, ⟨by omega, py_any_step hj2 (by omega) h5⟩, (by omega)⟩
    · replace h3 := of_decide_eq_false h3
      refine pwp_exit <| pwp_seq <| kx [(3, (vin 0))] [(1, some (bx (encRst (RRst.mk ((w : Nat) : Int) ((h : Nat) : Int) m out))))] (zR (oLa sh24) <| zT (oSt sh24) <| zM <| zZ) ?_
      refine pwp_ret ⟨_, (res_a (cs := (bx (encRst (RRst.mk ((w : Nat) : Int) ((h : Nat) : Int) m out)))) (d := (encRst (RRst.mk ((w : Nat) : Int) ((h : Nat) : Int) m out))) rfl rfl sh24 rfl rfl (.tmp (d := (.val (.int .i64 (0)))) rfl .nil)), ?_⟩
      exact absurd (py_any_end hj2 (by omega)) (by rw [hke, hc]; decide)
theorem p_ljoiV (w h m : Int) (l r d c : List Int) (hnl : l.length ≤ 1000000) (hnr : r.length ≤ 1000000) (hnd : d.length ≤ 1000000) (hnc : c.length ≤ 1000000) (hf : vBnd w h m l r d c = false) : Takes Tryz.prog 15 [(encBnd (RBnd.mk w h m l r d c))] (.tup [(encRst (RRst.mk 0 0 0 [])), (.val (.int .i64 (1)))]) := by
  refine fn_intro Tryz.func15 rfl cb15 rfl ?_
  show PWp _ _ _ _ ⟨[(0, (.d (encBnd (RBnd.mk w h m l r d c))))], []⟩
  refine pwp_seq <| kx [(1, (.ref 0 0)), (2, (.ref 1 0))] [(0, some (bx (encBnd (RBnd.mk w h m l r d c)))), (1, some (bx (encRst (RRst.mk 0 0 0 []))))] (zN (oBx 0) <| zN (oAl 1 ze24 zo24) <| zM <| zZ) ?_
  refine pwp_seq <| pwp_seq <| kx [(14, (vb true))] [] (zR (oLa sh28) <| zE (oBk false (oCl (p_lvalid w h m l r d c hnl hnr hnd hnc)) (by exact hf)) <| zE oNt <| zZ) ?_
  refine pwp_cond (b := true) (by kernel_rfl) (fun _ => ?_) (fun h => by cases h)
  refine pwp_seq <| kx [(3, (vin 1))] [(1, some (bx (encRst (RRst.mk 0 0 0 []))))] (zE (oBd pl24 ze24 zo24) <| zT (oSt sh24) <| zM <| zZ) ?_
  refine pwp_ret ⟨_, (res_a (cs := (bx (encRst (RRst.mk 0 0 0 [])))) (d := (encRst (RRst.mk 0 0 0 []))) rfl rfl sh24 rfl rfl (.tmp (d := (.val (.int .i64 (1)))) rfl .nil)), ?_⟩
  rfl
end Go.Proofs.YtleidgohjckmlaaGreat
set_option linter.unusedVariables false
set_option linter.unusedSimpArgs false
namespace Go.Proofs.YtleidgohjckmlaaGreat
open Go.Fid
def fewB (l r d c : List Int) : Bool := (((decide (((l.length : Nat) : Int) ≤ 300) && decide (((r.length : Nat) : Int) ≤ 300)) && decide (((d.length : Nat) : Int) ≤ 300)) && decide (((c.length : Nat) : Int) ≤ 300))
theorem fewB_ok {l r d c : List Int} (h : fewB l r d c = true) : l.length ≤ 300 ∧ r.length ≤ 300 ∧ d.length ≤ 300 ∧ c.length ≤ 300 := by
  simp only [fewB, Bool.and_eq_true, decide_eq_true_eq] at h; omega
theorem kn_r : RstOk 3 2 [5, 2, 9, 4, 4, 0] := ⟨by decide, by decide, by decide, by decide, rfl, fun x hx => by simp at hx; omega⟩
theorem kn_s : RstOk 3 1 [0, 0, 16] := ⟨by decide, by decide, by decide, by decide, rfl, fun x hx => by simp at hx; omega⟩
end Go.Proofs.YtleidgohjckmlaaGreat
