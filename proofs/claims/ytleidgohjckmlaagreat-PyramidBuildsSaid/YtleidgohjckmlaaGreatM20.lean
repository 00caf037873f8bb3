/- Part 20 of a proof: rules, plain facts, and functions walked. -/
import Derived.Test.YtleidgohjckmlaaGreatM19
namespace Go.Proofs.YtleidgohjckmlaaGreat
open Go.Fid
set_option maxRecDepth 4000
set_option linter.unusedVariables false
set_option linter.unusedSimpArgs false
theorem cb11 : callB Tryz.prog 11 = true := by kernel_rfl
theorem cb12 : callB Tryz.prog 12 = true := by kernel_rfl
theorem cb16 : callB Tryz.prog 16 = true := by kernel_rfl
theorem fo28_0 : fieldB Tryz.prog 28 0 = some 0 := by kernel_rfl
theorem fo28_1 : fieldB Tryz.prog 28 1 = some 1 := by kernel_rfl
theorem fo28_2 : fieldB Tryz.prog 28 2 = some 2 := by kernel_rfl
theorem p_lbands (w h : Nat) (mx : Int) (px : List Int) (hv : RstOk w h px) : Takes Tryz.prog 12 [(encRst (RRst.mk ((w : Nat) : Int) ((h : Nat) : Int) mx px))] (encBnd (RBnd.mk ((w : Nat) : Int) ((h : Nat) : Int) mx (bLow w h px) (bRight w h px) (bDown w h px) (bCorner w h px))) := by
  have hT := rows_tab hv
  have hpl := rst_len hv
  obtain ⟨w1, w2, w3, w4, w5, w6⟩ := hv
  have hA := tab_lo hT
  have hB := hv_tab hT
  have hA1 := tab_tr hA
  have hAl := tab_lo hA1
  have hAh := hv_tab hA1
  have hB1 := tab_tr hB
  have hBl := tab_lo hB1
  have hBh := hv_tab hB1
  refine fn_intro Tryz.func12 rfl cb12 rfl ?_
  show PWp _ _ _ _ ⟨[(0, (.d (encRst (RRst.mk ((w : Nat) : Int) ((h : Nat) : Int) mx px))))], []⟩
  refine pwp_seq <| kx [(1, (.ref 0 0)), (2, (.ref 1 0))] [(0, some (bx (encRst (RRst.mk ((w : Nat) : Int) ((h : Nat) : Int) mx px)))), (1, some (bx (encBnd (RBnd.mk 0 0 0 [] [] [] []))))] (zN (oBx 0) <| zN (oAl 1 ze28 zo28) <| zZ) ?_
  refine pwp_seq <| kx [(3, (vl 22 1 enc_sl_22 ((rowsOf w h px).map loS))), (4, (vl 22 1 enc_sl_22 (hvB (rowsOf w h px))))] [] (zE (oFr fo24_3) <| zR (oL1 sh22) <| zE (oFr fo24_0) <| zR (oL1 sh3) <| zE (oCl (p_lrows px w h w1 (by omega) w5 (by omega))) <| zE (oCl (p_halv (rowsOf w h px) w (tab_up hT (by decide)))) <| zM <| zE oEx <| zE oEx <| zM <| zM <| zZ) ?_
  refine pwp_seq <| kx [(5, (vl 22 1 enc_sl_22 ((trP ((rowsOf w h px).map loS)).map loS))), (6, (vl 22 1 enc_sl_22 (hvB (trP ((rowsOf w h px).map loS)))))] [] (zM <| zE (oCl (p_ltr ((rowsOf w h px).map loS) ((w + 1) / 2) (tab_up hA (by decide)))) <| zE (oCl (p_halv (trP ((rowsOf w h px).map loS)) (((rowsOf w h px).map loS).length) (tab_up hA1 (by decide)))) <| zM <| zE oEx <| zE oEx <| zM <| zM <| zZ) ?_
  refine pwp_seq <| kx [(7, (vl 22 1 enc_sl_22 ((trP (hvB (rowsOf w h px))).map loS))), (8, (vl 22 1 enc_sl_22 (hvB (trP (hvB (rowsOf w h px))))))] [] (zM <| zE (oCl (p_ltr (hvB (rowsOf w h px)) (w / 2) (tab_up hB (by decide)))) <| zE (oCl (p_halv (trP (hvB (rowsOf w h px))) ((hvB (rowsOf w h px)).length) (tab_up hB1 (by decide)))) <| zM <| zE oEx <| zE oEx <| zM <| zM <| zZ) ?_
  refine pwp_seq <| kd [] [(1, some (bx (encBnd (RBnd.mk ((w : Nat) : Int) ((h : Nat) : Int) mx ((trP ((trP ((rowsOf w h px).map loS)).map loS)).flatten) ((trP ((trP (hvB (rowsOf w h px))).map loS)).flatten) ((trP (hvB (trP ((rowsOf w h px).map loS)))).flatten) ((trP (hvB (trP (hvB (rowsOf w h px))))).flatten)))))] mo (wE (oFr fo24_0) <| wR (oL1 sh3) <| wE (oFr fo24_1) <| wR (oL1 sh3) <| wE (oFr fo24_2) <| wR (oL1 sh3) <| wM <| wE (oCl (p_ltr ((trP ((rowsOf w h px).map loS)).map loS) ((((rowsOf w h px).map loS).length + 1) / 2) (tab_up hAl (by decide)))) <| wE (oCl (p_flat (trP ((trP ((rowsOf w h px).map loS)).map loS)) (tab_flat (tab_tr hAl)) (Nat.le_trans (tab_len (tab_tr hAl)) (by decide)))) <| wM <| wE (oCl (p_ltr (hvB (trP ((rowsOf w h px).map loS))) (((rowsOf w h px).map loS).length / 2) (tab_up hAh (by decide)))) <| wE (oCl (p_flat (trP (hvB (trP ((rowsOf w h px).map loS)))) (tab_flat (tab_tr hAh)) (Nat.le_trans (tab_len (tab_tr hAh)) (by decide)))) <| wM <| wE (oCl (p_ltr ((trP (hvB (rowsOf w h px))).map loS) (((hvB (rowsOf w h px)).length + 1) / 2) (tab_up hBl (by decide)))) <| wE (oCl (p_flat (trP ((trP (hvB (rowsOf w h px))).map loS)) (tab_flat (tab_tr hBl)) (Nat.le_trans (tab_len (tab_tr hBl)) (by decide)))) <| wM <| wE (oCl (p_ltr (hvB (trP (hvB (rowsOf w h px)))) ((hvB (rowsOf w h px)).length / 2) (tab_up hBh (by decide)))) <| wE (oCl (p_flat (trP (hvB (trP (hvB (rowsOf w h px))))) (tab_flat (tab_tr hBh)) (Nat.le_trans (tab_len (tab_tr hBh)) (by decide)))) <| wE (oBd pl28 ze28 zo28) <| wT (oSt sh28) <| wZ) ?_
  refine pwp_ret ⟨_, (res_a (cs := (bx (encBnd (RBnd.mk ((w : Nat) : Int) ((h : Nat) : Int) mx ((trP ((trP ((rowsOf w h px).map loS)).map loS)).flatten) ((trP ((trP (hvB (rowsOf w h px))).map loS)).flatten) ((trP (hvB (trP ((rowsOf w h px).map loS)))).flatten) ((trP (hvB (trP (hvB (rowsOf w h px))))).flatten))))) (d := (encBnd (RBnd.mk ((w : Nat) : Int) ((h : Nat) : Int) mx ((trP ((trP ((rowsOf w h px).map loS)).map loS)).flatten) ((trP ((trP (hvB (rowsOf w h px))).map loS)).flatten) ((trP (hvB (trP ((rowsOf w h px).map loS)))).flatten) ((trP (hvB (trP (hvB (rowsOf w h px))))).flatten)))) rfl rfl sh28 rfl rfl .nil), ?_⟩
  rw [hv_tr hB1.1, hv_tr hA1.1, hv_tr hT.1]; rfl
theorem p_sameB (aw ah am : Int) (al ar ad ac : List Int) (bw bh bm : Int) (bl br bd bc : List Int) (hbl : al.length ≤ 1000000) (hbr : ar.length ≤ 1000000) (hbd : ad.length ≤ 1000000) (hbc : ac.length ≤ 1000000) : Takes Tryz.prog 11 [(encBnd (RBnd.mk aw ah am al ar ad ac)), (encBnd (RBnd.mk bw bh bm bl br bd bc))] (.val (.bool ((same7 aw ah am al ar ad ac bw bh bm bl br bd bc)))) := by
  refine fn_intro Tryz.func11 rfl cb11 rfl ?_
  show PWp _ _ _ _ ⟨[(0, (.d (encBnd (RBnd.mk aw ah am al ar ad ac)))), (1, (.d (encBnd (RBnd.mk bw bh bm bl br bd bc))))], []⟩
  refine pwp_seq <| kx [(2, (.ref 0 0)), (3, (.ref 1 0))] [(0, some (bx (encBnd (RBnd.mk aw ah am al ar ad ac)))), (1, some (bx (encBnd (RBnd.mk bw bh bm bl br bd bc))))] (zN (oBx 0) <| zN (oBx 1) <| zM <| zZ) ?_
  refine pwp_seq <| kx [(4, (vb (((((((aw == bw) && (ah == bh)) && (am == bm)) && (al == bl)) && (ar == br)) && (ad == bd)) && (ac == bc))))] [] ?_ ?_
  · refine zE (oFr fo28_0) <| zR (oL1 sh3) <| zE (oFr fo28_0) <| zR (oL1 sh3) <| zE oEq <| zE (oV (vb (aw == bw)) (mv_ok (by kernel_rfl))) <| ?_
    rcases hb1 : (aw == bw) with _ | _
    · replace hb1 := ne_of_beq_false hb1
      exact zK <| zK <| zK <| zK <| zK <| zE oPf <| zM <| zK <| zK <| zK <| zK <| zK <| zE oPf <| zM <| zK <| zK <| zK <| zK <| zK <| zE oPf <| zM <| zK <| zK <| zK <| zK <| zK <| zE oPf <| zM <| zK <| zK <| zK <| zK <| zK <| zE oPf <| zM <| zK <| zK <| zK <| zK <| zK <| zE oPf <| zM <| zZ
    · replace hb1 := eq_of_beq hb1
      refine zE (oFr fo28_1) <| zR (oL1 sh3) <| zE (oFr fo28_1) <| zR (oL1 sh3) <| zE oEq <| zE oPa <| zE (oV (vb (true && (ah == bh))) (mv_ok (by kernel_rfl))) <| ?_
      rcases hb2 : (true && (ah == bh)) with _ | _
      · exact zK <| zK <| zK <| zK <| zK <| zE oPf <| zM <| zK <| zK <| zK <| zK <| zK <| zE oPf <| zM <| zK <| zK <| zK <| zK <| zK <| zE oPf <| zM <| zK <| zK <| zK <| zK <| zK <| zE oPf <| zM <| zK <| zK <| zK <| zK <| zK <| zE oPf <| zM <| zZ
      · refine zE (oFr fo28_2) <| zR (oL1 sh3) <| zE (oFr fo28_2) <| zR (oL1 sh3) <| zE oEq <| zE oPa <| zE (oV (vb (true && (am == bm))) (mv_ok (by kernel_rfl))) <| ?_
        rcases hb3 : (true && (am == bm)) with _ | _
        · exact zK <| zK <| zK <| zK <| zK <| zE oPf <| zM <| zK <| zK <| zK <| zK <| zK <| zE oPf <| zM <| zK <| zK <| zK <| zK <| zK <| zE oPf <| zM <| zK <| zK <| zK <| zK <| zK <| zE oPf <| zM <| zZ
        · refine zE (oFr fo28_3) <| zR (oL1 sh22) <| zE (oFr fo28_3) <| zR (oL1 sh22) <| zE (oCl (p_eq al bl hbl)) <| zE oPa <| zE (oV (vb (true && (al == bl))) (mv_ok (by kernel_rfl))) <| ?_
          rcases hb4 : (true && (al == bl)) with _ | _
          · exact zK <| zK <| zK <| zK <| zK <| zE oPf <| zM <| zK <| zK <| zK <| zK <| zK <| zE oPf <| zM <| zK <| zK <| zK <| zK <| zK <| zE oPf <| zM <| zZ
          · refine zE (oFr fo28_4) <| zR (oL1 sh22) <| zE (oFr fo28_4) <| zR (oL1 sh22) <| zE (oCl (p_eq ar br hbr)) <| zE oPa <| zE (oV (vb (true && (ar == br))) (mv_ok (by kernel_rfl))) <| ?_
            rcases hb5 : (true && (ar == br)) with _ | _
            · exact zK <| zK <| zK <| zK <| zK <| zE oPf <| zM <| zK <| zK <| zK <| zK <| zK <| zE oPf <| zM <| zZ
            · refine zE (oFr fo28_5) <| zR (oL1 sh22) <| zE (oFr fo28_5) <| zR (oL1 sh22) <| zE (oCl (p_eq ad bd hbd)) <| zE oPa <| zE (oV (vb (true && (ad == bd))) (mv_ok (by kernel_rfl))) <| ?_
              rcases hb6 : (true && (ad == bd)) with _ | _
              · exact zK <| zK <| zK <| zK <| zK <| zE oPf <| zM <| zZ
              · exact zE (oFr fo28_6) <| zR (oL1 sh22) <| zE (oFr fo28_6) <| zR (oL1 sh22) <| zE (oCl (p_eq ac bc hbc)) <| zE oPa <| zM <| zZ
  refine pwp_ret ⟨_, (.tmp (d := (.val (.bool ((((((((aw == bw) && (ah == bh)) && (am == bm)) && (al == bl)) && (ar == br)) && (ad == bd)) && (ac == bc)))))) rfl .nil), ?_⟩
  rfl
theorem p_same (aw ah am : Int) (al : List Int) (bw bh bm : Int) (bl : List Int) (hb : al.length ≤ 1000000) : Takes Tryz.prog 16 [(encRst (RRst.mk aw ah am al)), (encRst (RRst.mk bw bh bm bl))] (.val (.bool ((same4 aw ah am al bw bh bm bl)))) := by
  refine fn_intro Tryz.func16 rfl cb16 rfl ?_
  show PWp _ _ _ _ ⟨[(0, (.d (encRst (RRst.mk aw ah am al)))), (1, (.d (encRst (RRst.mk bw bh bm bl))))], []⟩
  refine pwp_seq <| kx [(2, (.ref 0 0)), (3, (.ref 1 0))] [(0, some (bx (encRst (RRst.mk aw ah am al)))), (1, some (bx (encRst (RRst.mk bw bh bm bl))))] (zN (oBx 0) <| zN (oBx 1) <| zM <| zZ) ?_
  refine pwp_seq <| kx [(4, (vb ((((aw == bw) && (ah == bh)) && (am == bm)) && (al == bl))))] [] ?_ ?_
  · refine zE (oFr fo24_0) <| zR (oL1 sh3) <| zE (oFr fo24_0) <| zR (oL1 sh3) <| zE oEq <| zE (oV (vb (aw == bw)) (mv_ok (by kernel_rfl))) <| ?_
    rcases hb1 : (aw == bw) with _ | _
    · replace hb1 := ne_of_beq_false hb1
      exact zK <| zK <| zK <| zK <| zK <| zE oPf <| zM <| zK <| zK <| zK <| zK <| zK <| zE oPf <| zM <| zK <| zK <| zK <| zK <| zK <| zE oPf <| zM <| zZ
    · replace hb1 := eq_of_beq hb1
      refine zE (oFr fo24_1) <| zR (oL1 sh3) <| zE (oFr fo24_1) <| zR (oL1 sh3) <| zE oEq <| zE oPa <| zE (oV (vb (true && (ah == bh))) (mv_ok (by kernel_rfl))) <| ?_
      rcases hb2 : (true && (ah == bh)) with _ | _
      · exact zK <| zK <| zK <| zK <| zK <| zE oPf <| zM <| zK <| zK <| zK <| zK <| zK <| zE oPf <| zM <| zZ
      · refine zE (oFr fo24_2) <| zR (oL1 sh3) <| zE (oFr fo24_2) <| zR (oL1 sh3) <| zE oEq <| zE oPa <| zE (oV (vb (true && (am == bm))) (mv_ok (by kernel_rfl))) <| ?_
        rcases hb3 : (true && (am == bm)) with _ | _
        · exact zK <| zK <| zK <| zK <| zK <| zE oPf <| zM <| zZ
        · exact zE (oFr fo24_3) <| zR (oL1 sh22) <| zE (oFr fo24_3) <| zR (oL1 sh22) <| zE (oCl (p_eq al bl hb)) <| zE oPa <| zM <| zZ
  refine pwp_ret ⟨_, (.tmp (d := (.val (.bool (((((aw == bw) && (ah == bh)) && (am == bm)) && (al == bl)))))) rfl .nil), ?_⟩
  rfl
end Go.Proofs.YtleidgohjckmlaaGreat
namespace Go.Proofs.YtleidgohjckmlaaGreat
open Go.Fid
set_option maxRecDepth 4000
set_option linter.unusedVariables false
set_option linter.unusedSimpArgs false
theorem cb32 : callB Tryz.prog 32 = true := by kernel_rfl
theorem cb51 : callB Tryz.prog 51 = true := by kernel_rfl
theorem p_badB (n : Int) : Takes Tryz.prog 51 [(.val (.int .i64 (n)))] (.val (.bool ((badB n)))) := by
  refine fn_intro Tryz.func51 rfl cb51 rfl ?_
  show PWp _ _ _ _ ⟨[(0, (vi n))], []⟩
  refine pwp_seq <| kx [] [] (zM <| zZ) ?_
  refine pwp_seq <| kx [(2, (vb (decide (n < -1048576) || decide (1048576 < n))))] [] ?_ ?_
  · refine zM <| zE oLt <| zE (oV (vb (decide (n < -1048576))) (mv_ok (by kernel_rfl))) <| ?_
    rcases hb1 : (decide (n < -1048576)) with _ | _
    · replace hb1 := of_decide_eq_false hb1
      exact zM <| zE oGt <| zE oPo <| zM <| zZ
    · replace hb1 := of_decide_eq_true hb1
      exact zK <| zK <| zE oPt <| zM <| zZ
  refine pwp_ret ⟨_, (.tmp (d := (.val (.bool ((decide (n < -1048576) || decide (1048576 < n)))))) rfl .nil), ?_⟩
  rfl
theorem p_badAI (l : List Int) (hb : l.length ≤ 1000000) : Takes Tryz.prog 62 [(.sl 3 1 (List.map enc_i64 l)), (.val (.func (.func 51) #[] #[]))] (.val (.int .i64 ((firstIx (badB) l 0)))) := by
  refine fn_intro Tryz.func62 rfl cb62 rfl ?_
  show PWp _ _ _ _ ⟨[(0, (vl 3 1 enc_i64 l)), (1, (.d (.val (.func (.func 51) #[] #[]))))], []⟩
  refine pwp_seq <| kx [] [] (zM <| zZ) ?_
  refine pwp_seq <| pwp_seq <| kx [(7, (vin l.length)), (8, (vin 0))] [] (zM <| zE (oLm el22) <| zM <| zZ) ?_
  refine pwp_block <| pwp_loop (α := Nat) (fun k => ⟨[(0, (vl 3 1 enc_i64 l)), (1, (.d (.val (.func (.func 51) #[] #[])))), (7, (vin l.length)), (8, (vin k))], []⟩) (fun k => k ≤ l.length ∧ firstIx (badB) l 0 = firstIx (badB) (l.drop k) k) (fun k => l.length - k) 0 wk ⟨Nat.zero_le _, rfl⟩ ?_
  rintro k ⟨hk, hv⟩
  refine pwp_seq <| kx [(9, (vb (decide (((k : Nat) : Int) < ((l.length : Nat) : Int)))))] [] (zE oLt <| zZ) ?_
  refine pwp_seq <| pwp_cond rfl (fun h1 => ?_) (fun h1 => ?_)
  · replace h1 := of_decide_eq_true h1
    refine pwp_skip <| pwp_seq <| pwp_block <| pwp_seq <| kx [(5, (vin k))] [] (zM <| zM <| zZ) ?_
    refine pwp_seq <| kx [(16, (vb (badB (l.getD k 0))))] [] (zM <| zM <| zM <| zE (oXl el22 k (0 : Int)) <| zE (oC1 sh3) <| zE (oCl (p_badB (l.getD k 0))) <| zZ) ?_
    refine pwp_cond (b := (badB (l.getD k 0))) rfl (fun h2 => ?_) (fun h2 => ?_)
    · have hix := firstIx_at _ l k (by omega) h2
      refine pwp_seq <| kx [(4, (vin k))] [] (zM <| zM <| zZ) ?_
      refine pwp_ret ⟨_, (.tmp (d := (.val (.int .i64 (((k : Nat) : Int))))) rfl .nil), ?_⟩
      rw [hv, hix]; rfl
    · have hix := firstIx_step _ l k (by omega) h2
      refine pwp_skip <| kx [(8, (vin (k + 1)))] [] (zE (oAd (k + 1)) <| zM <| zZ) ?_
      exact ⟨(k + 1), wk, ⟨by omega, hv.trans hix⟩, (by omega)⟩
  · replace h1 := of_decide_eq_false h1
    have hix := firstIx_end (badB) l k (by omega)
    refine pwp_exit <| pwp_seq <| kx [(4, (vi (-1)))] [] (zM <| zZ) ?_
    refine pwp_ret ⟨_, (.tmp (d := (.val (.int .i64 (-1)))) rfl .nil), ?_⟩
    rw [hv, hix]; rfl
theorem p_badA (l : List Int) (hb : l.length ≤ 1000000) : Takes Tryz.prog 45 [(.sl 3 1 (List.map enc_i64 l)), (.val (.func (.func 51) #[] #[]))] (.val (.bool ((l.any (badB))))) := by
  refine fn_intro Tryz.func45 rfl cb45 rfl ?_
  show PWp _ _ _ _ ⟨[(0, (vl 3 1 enc_i64 l)), (1, (.d (.val (.func (.func 51) #[] #[]))))], []⟩
  refine pwp_seq <| kx [] [] (zM <| zZ) ?_
  refine pwp_seq <| kx [(4, (vb (decide (0 ≤ (firstIx (badB) l 0)))))] [] (zM <| zM <| zE (oCl (p_badAI l hb)) <| zE oGe <| zM <| zZ) ?_
  refine pwp_ret ⟨_, (.tmp (d := (.val (.bool (decide (0 ≤ (firstIx (badB) l 0)))))) rfl .nil), ?_⟩
  rw [firstIx_any]; rfl
theorem p_valid (w h m : Int) (l r d c : List Int) (hbl : l.length ≤ 1000000) (hbr : r.length ≤ 1000000) (hbd : d.length ≤ 1000000) (hbc : c.length ≤ 1000000) : Takes Tryz.prog 32 [(encBnd (RBnd.mk w h m l r d c))] (.val (.bool ((vBnd w h m l r d c)))) := by
  refine fn_intro Tryz.func32 rfl cb32 rfl ?_
  show PWp _ _ _ _ ⟨[(0, (.d (encBnd (RBnd.mk w h m l r d c))))], []⟩
  refine pwp_seq <| kx [(1, (.ref 0 0))] [(0, some (bx (encBnd (RBnd.mk w h m l r d c))))] (zN (oBx 0) <| zM <| zZ) ?_
  refine pwp_seq <| pwp_seq <| kx [(36, (vb (((((decide (w < 1) || decide (64 < w)) || decide (h < 1)) || decide (64 < h)) || decide (m < 1)) || decide (65535 < m))))] [] ?_ ?_
  · refine zE (oFr fo28_0) <| zR (oL1 sh3) <| zE oLt <| zE (oV (vb (decide (w < 1))) (mv_ok (by kernel_rfl))) <| ?_
    rcases hb1 : (decide (w < 1)) with _ | _
    · replace hb1 := of_decide_eq_false hb1
      refine zE (oFr fo28_0) <| zR (oL1 sh3) <| zE oGt <| zE oPo <| zE (oV (vb (false || decide (64 < w))) (mv_ok (by kernel_rfl))) <| ?_
      rcases hb2 : (false || decide (64 < w)) with _ | _
      · replace hb2 := of_decide_eq_false (p := (64 < w)) hb2
        refine zE (oFr fo28_1) <| zR (oL1 sh3) <| zE oLt <| zE oPo <| zE (oV (vb (false || decide (h < 1))) (mv_ok (by kernel_rfl))) <| ?_
        rcases hb3 : (false || decide (h < 1)) with _ | _
        · replace hb3 := of_decide_eq_false (p := (h < 1)) hb3
          refine zE (oFr fo28_1) <| zR (oL1 sh3) <| zE oGt <| zE oPo <| zE (oV (vb (false || decide (64 < h))) (mv_ok (by kernel_rfl))) <| ?_
          rcases hb4 : (false || decide (64 < h)) with _ | _
          · replace hb4 := of_decide_eq_false (p := (64 < h)) hb4
            refine zE (oFr fo28_2) <| zR (oL1 sh3) <| zE oLt <| zE oPo <| zE (oV (vb (false || decide (m < 1))) (mv_ok (by kernel_rfl))) <| ?_
            rcases hb5 : (false || decide (m < 1)) with _ | _
            · replace hb5 := of_decide_eq_false (p := (m < 1)) hb5
              exact zE (oFr fo28_2) <| zR (oL1 sh3) <| zE oGt <| zE oPo <| zZ
            · replace hb5 := of_decide_eq_true (p := (m < 1)) hb5
              exact zK <| zK <| zK <| zE oPt <| zZ
          · replace hb4 := of_decide_eq_true (p := (64 < h)) hb4
            exact zK <| zK <| zK <| zE oPt <| zM <| zK <| zK <| zK <| zE oPt <| zZ
        · replace hb3 := of_decide_eq_true (p := (h < 1)) hb3
          exact zK <| zK <| zK <| zE oPt <| zM <| zK <| zK <| zK <| zE oPt <| zM <| zK <| zK <| zK <| zE oPt <| zZ
      · replace hb2 := of_decide_eq_true (p := (64 < w)) hb2
        exact zK <| zK <| zK <| zE oPt <| zM <| zK <| zK <| zK <| zE oPt <| zM <| zK <| zK <| zK <| zE oPt <| zM <| zK <| zK <| zK <| zE oPt <| zZ
    · replace hb1 := of_decide_eq_true hb1
      exact zK <| zK <| zK <| zE oPt <| zM <| zK <| zK <| zK <| zE oPt <| zM <| zK <| zK <| zK <| zE oPt <| zM <| zK <| zK <| zK <| zE oPt <| zM <| zK <| zK <| zK <| zE oPt <| zZ
  refine pwp_cond rfl (fun h6 => ?_) (fun h6 => ?_)
  · refine pwp_seq <| kx [(2, (vb false))] [] (zM <| zZ) ?_
    refine pwp_ret ⟨_, (.tmp (d := (.val (.bool (false)))) rfl .nil), ?_⟩
    rw [vb_1 h6]; rfl
  · have hdm := h6
    simp only [Bool.or_eq_false_iff, decide_eq_false_iff_not] at hdm
    obtain ⟨⟨⟨⟨⟨e1, e2⟩, e3⟩, e4⟩, e5⟩, e6⟩ := hdm
    refine pwp_skip <| pwp_seq <| kd [(3, (vi ((w + 1) / 2))), (4, (vi (w / 2))), (5, (vi ((h + 1) / 2))), (6, (vi (h / 2)))] [] mo (wE (oFr fo28_0) <| wR (oL1 sh3) <| wE (zAd (w + 1) (hr := by exact (inc_up e1 e2))) <| wE (zQu ((w + 1) / 2) (hr := by exact (half_up e1 e2))) <| wE (oFr fo28_0) <| wR (oL1 sh3) <| wE (zQu (w / 2) (hr := by exact (half_dn e1 e2))) <| wE (oFr fo28_1) <| wR (oL1 sh3) <| wE (zAd (h + 1) (hr := by exact (inc_up e3 e4))) <| wE (zQu ((h + 1) / 2) (hr := by exact (half_up e3 e4))) <| wE (oFr fo28_1) <| wR (oL1 sh3) <| wE (zQu (h / 2) (hr := by exact (half_dn e3 e4))) <| wM <| wM <| wM <| wM <| wZ) ?_
    refine pwp_seq <| pwp_seq <| kx [(84, (vb ((((((l.length : Nat) : Int) != (((w + 1) / 2) * ((h + 1) / 2))) || (((r.length : Nat) : Int) != ((w / 2) * ((h + 1) / 2)))) || (((d.length : Nat) : Int) != (((w + 1) / 2) * (h / 2)))) || (((c.length : Nat) : Int) != ((w / 2) * (h / 2))))))] [] ?_ ?_
    · refine zE (oFr fo28_3) <| zR (oL1 sh22) <| zE (oLm el22 (L := l)) <| zM <| zM <| zE (zMl (((w + 1) / 2) * ((h + 1) / 2)) (hr := by exact (wAny rfl (by have hq := pq_bd (a := ((w + 1) / 2)) (b := ((h + 1) / 2)) (by omega) (by omega) (by omega) (by omega); simp only [kLo]; omega) (by have hq := pq_bd (a := ((w + 1) / 2)) (b := ((h + 1) / 2)) (by omega) (by omega) (by omega) (by omega); simp only [kHi]; omega)))) <| zE oNe <| zE (oV (vb (((l.length : Nat) : Int) != (((w + 1) / 2) * ((h + 1) / 2)))) (mv_ok (by kernel_rfl))) <| ?_
      rcases hb7 : (((l.length : Nat) : Int) != (((w + 1) / 2) * ((h + 1) / 2))) with _ | _
      · replace hb7 := bne_eq_false_iff_eq.1 hb7
        refine zE (oFr fo28_4) <| zR (oL1 sh22) <| zE (oLm el22 (L := r)) <| zM <| zM <| zE (zMl ((w / 2) * ((h + 1) / 2)) (hr := by exact (wAny rfl (by have hq := pq_bd (a := (w / 2)) (b := ((h + 1) / 2)) (by omega) (by omega) (by omega) (by omega); simp only [kLo]; omega) (by have hq := pq_bd (a := (w / 2)) (b := ((h + 1) / 2)) (by omega) (by omega) (by omega) (by omega); simp only [kHi]; omega)))) <| zE oNe <| zE oPo <| zE (oV (vb (false || (((r.length : Nat) : Int) != ((w / 2) * ((h + 1) / 2))))) (mv_ok (by kernel_rfl))) <| ?_
        rcases hb8 : (false || (((r.length : Nat) : Int) != ((w / 2) * ((h + 1) / 2)))) with _ | _
        · refine zE (oFr fo28_5) <| zR (oL1 sh22) <| zE (oLm el22 (L := d)) <| zM <| zM <| zE (zMl (((w + 1) / 2) * (h / 2)) (hr := by exact (wAny rfl (by have hq := pq_bd (a := ((w + 1) / 2)) (b := (h / 2)) (by omega) (by omega) (by omega) (by omega); simp only [kLo]; omega) (by have hq := pq_bd (a := ((w + 1) / 2)) (b := (h / 2)) (by omega) (by omega) (by omega) (by omega); simp only [kHi]; omega)))) <| zE oNe <| zE oPo <| zE (oV (vb (false || (((d.length : Nat) : Int) != (((w + 1) / 2) * (h / 2))))) (mv_ok (by kernel_rfl))) <| ?_
          rcases hb9 : (false || (((d.length : Nat) : Int) != (((w + 1) / 2) * (h / 2)))) with _ | _
          · exact zE (oFr fo28_6) <| zR (oL1 sh22) <| zE (oLm el22 (L := c)) <| zM <| zM <| zE (zMl ((w / 2) * (h / 2)) (hr := by exact (wAny rfl (by have hq := pq_bd (a := (w / 2)) (b := (h / 2)) (by omega) (by omega) (by omega) (by omega); simp only [kLo]; omega) (by have hq := pq_bd (a := (w / 2)) (b := (h / 2)) (by omega) (by omega) (by omega) (by omega); simp only [kHi]; omega)))) <| zE oNe <| zE oPo <| zZ
          · exact zK <| zK <| zK <| zK <| zK <| zK <| zK <| zE oPt <| zZ
        · exact zK <| zK <| zK <| zK <| zK <| zK <| zK <| zE oPt <| zM <| zK <| zK <| zK <| zK <| zK <| zK <| zK <| zE oPt <| zZ
      · replace hb7 := bne_iff_ne.1 hb7
        exact zK <| zK <| zK <| zK <| zK <| zK <| zK <| zE oPt <| zM <| zK <| zK <| zK <| zK <| zK <| zK <| zK <| zE oPt <| zM <| zK <| zK <| zK <| zK <| zK <| zK <| zK <| zE oPt <| zZ
    refine pwp_cond rfl (fun h10 => ?_) (fun h10 => ?_)
    · refine pwp_seq <| kx [(2, (vb false))] [] (zM <| zZ) ?_
      refine pwp_ret ⟨_, (.tmp (d := (.val (.bool (false)))) rfl .nil), ?_⟩
      rw [vb_2 h10]; rfl
    · refine pwp_skip <| pwp_seq <| pwp_seq <| kx [(93, (vl 22 1 enc_sl_22 [l, r, d, c])), (94, (vin 4)), (95, (vin 0))] [] (zE (oFr fo28_3) <| zR (oL1 sh22) <| zE (oFr fo28_4) <| zR (oL1 sh22) <| zE (oFr fo28_5) <| zR (oL1 sh22) <| zE (oFr fo28_6) <| zR (oL1 sh22) <| zE (oBs el57 ze22 zo22) <| zE (oLn el57 4) <| zM <| zZ) ?_
      refine pwp_block <| pwp_loop (α := Nat) (fun k => ⟨[(93, (vl 22 1 enc_sl_22 [l, r, d, c])), (94, (vin 4)), (95, (vin k))], []⟩) (fun k => k ≤ 4 ∧ (([l, r, d, c].take k).any fun x => x.any badB) = false) (fun k => 4 - k) 0 wk ⟨Nat.zero_le _, rfl⟩ ?_
      rintro k ⟨hk, hv⟩
      have hgk : ([l, r, d, c].getD k []).length ≤ 1000000 := four_len hbl hbr hbd hbc k
      have h4l : [l, r, d, c].length = 4 := rfl
      refine pwp_seq <| kx [(96, (vb (decide (((k : Nat) : Int) < ((4 : Nat) : Int)))))] [] (zE oLt <| zZ) ?_
      refine pwp_seq <| pwp_cond rfl (fun h11 => ?_) (fun h11 => ?_)
      · replace h11 := of_decide_eq_true h11
        refine pwp_skip <| pwp_seq <| pwp_block <| pwp_seq <| kx [(8, (vl 3 1 enc_i64 ([l, r, d, c].getD k [])))] [] (zE (oXl el57 k ([] : List (Int)) (L := [l, r, d, c])) <| zE (oC1 sh22) <| zM <| zZ) ?_
        refine pwp_seq <| kx [(100, (vb (([l, r, d, c].getD k []).any (badB))))] [] (zM <| zE (oCl (p_badA ([l, r, d, c].getD k []) hgk)) <| zZ) ?_
        refine pwp_cond (b := (([l, r, d, c].getD k []).any (badB))) rfl (fun h12 => ?_) (fun h12 => ?_)
        · refine pwp_seq <| kx [(2, (vb false))] [] (zM <| zZ) ?_
          refine pwp_ret ⟨_, (.tmp (d := (.val (.bool (false)))) rfl .nil), ?_⟩
          rw [vb_3 (k := k) (by omega) h12]; rfl
        · refine pwp_skip <| kx [(95, (vin (k + 1)))] [] (zE (oAd (k + 1)) <| zM <| zZ) ?_
          exact ⟨(k + 1), wk, ⟨by omega, vb_step hv (show k < 4 by omega) h12⟩, (by omega)⟩
      · replace h11 := of_decide_eq_false h11
        refine pwp_exit <| pwp_seq <| kx [(2, (vb true))] [] (zM <| zZ) ?_
        refine pwp_ret ⟨_, (.tmp (d := (.val (.bool (true)))) rfl .nil), ?_⟩
        rw [vb_4 h6 h10 (by rw [show k = 4 by omega] at hv; exact hv)]; rfl
end Go.Proofs.YtleidgohjckmlaaGreat
namespace Go.Proofs.YtleidgohjckmlaaGreat
open Go.Fid
set_option maxRecDepth 4000
set_option linter.unusedVariables false
set_option linter.unusedSimpArgs false
theorem cb52 : callB Tryz.prog 52 = true := by kernel_rfl
theorem cb54 : callB Tryz.prog 54 = true := by kernel_rfl
theorem p_stk (lo : List Int) (hi : List Int) (w : Nat) (s t : Nat) (hw : 0 < w) (hw2 : w ≤ 1000) (hs2 : s ≤ 1000) (ht2 : t ≤ 1000) (hlo : lo.length = w * s) (hhi : hi.length = w * t) (hll : lo.length ≤ 1000000) (hlh : hi.length ≤ 1000000) (hbl : Bd 1048576 lo) (hbh : Bd 1048576 hi) (hst : s = t ∨ s = t + 1) (hst2 : s + t ≤ 1000) : Takes Tryz.prog 52 [(.sl 3 1 (List.map enc_i64 lo)), (.sl 3 1 (List.map enc_i64 hi)), (.val (.int .i64 (((w : Nat) : Int))))] (.sl 22 1 (List.map enc_sl_22 (stkV w s t lo hi))) := by
  have hA := rows_tabG hw2 hs2 hlo hbl (by decide)
  have hB := rows_tabG hw2 ht2 hhi hbh (by decide)
  have hA1 := tab_tr hA
  have hB1 := tab_tr hB
  rw [rowsOf_len] at hA1 hB1
  have hal := tab_len hA1
  have hbl1 := tab_len hB1
  have hlens := stk_lens hlo hhi
  refine fn_intro Tryz.func52 rfl cb52 rfl ?_
  show PWp _ _ _ _ ⟨[(0, (vl 3 1 enc_i64 lo)), (1, (vl 3 1 enc_i64 hi)), (2, (vin w))], []⟩
  refine pwp_seq <| kx [] [] (zE (oNl 22 1) <| zZ) ?_
  refine pwp_seq <| pwp_seq <| kx [(14, (vb (((w : Nat) : Int) == 0)))] [] (zM <| zE oEq <| zZ) ?_
  refine pwp_cond (b := (((w : Nat) : Int) == 0)) rfl (fun h1 => ?_) (fun h1 => ?_)
  · replace h1 := eq_of_beq h1
    omega
  · replace h1 := ne_of_beq_false h1
    refine pwp_skip <| pwp_seq <| kx [(7, (vl 22 1 enc_sl_22 (trP (rowsOf w s lo)))), (8, (vl 22 1 enc_sl_22 (trP (rowsOf w t hi))))] [] (zM <| zM <| zE (oCl (p_lines lo w s hw hlo hll)) <| zE (oCl (p_turnedT hA)) <| zM <| zM <| zE (oCl (p_lines hi w t hw hhi hlh)) <| zE (oCl (p_turnedT hB)) <| zM <| zM <| zZ) ?_
    refine pwp_seq <| kx [(9, (.own 0 22 1 0))] [(0, some (bm enc_sl_22 []))] (zO 0 22 1 <| zZ) ?_
    refine pwp_seq <| pwp_seq <| kx [(23, (vl 22 1 enc_sl_22 (trP (rowsOf w s lo)))), (24, (vin ((trP (rowsOf w s lo)).length))), (25, (vin 0))] [] (zM <| zE (oLm el57 (L := (trP (rowsOf w s lo)))) <| zM <| zZ) ?_
    refine pwp_block <| pwp_loop (α := Nat × List (List Int)) (fun (k, out) => ⟨[(8, (vl 22 1 enc_sl_22 (trP (rowsOf w t hi)))), (9, (.own 0 22 1 out.length)), (23, (vl 22 1 enc_sl_22 (trP (rowsOf w s lo)))), (24, (vin ((trP (rowsOf w s lo)).length))), (25, (vin k))], [(0, some (bm enc_sl_22 out))]⟩) (fun (k, out) => k ≤ (trP (rowsOf w s lo)).length ∧ out = stkR (trP (rowsOf w s lo)) (trP (rowsOf w t hi)) k) (fun (k, out) => (trP (rowsOf w s lo)).length - k) (0, []) wk ⟨Nat.zero_le _, rfl⟩ ?_
    rintro ⟨k, out⟩ ⟨hk, ho⟩
    have hol : out.length ≤ 1000 := by rw [ho, stkR_len]; omega
    have hga := tab_get hA1 k
    have hgb := tab_get hB1 k
    have hout := ho ▸ stk_tab hA1 hB1 hst hlens hk hst2
    refine pwp_seq <| kx [(26, (vb (decide (((k : Nat) : Int) < (((trP (rowsOf w s lo)).length : Nat) : Int)))))] [] (zE oLt <| zZ) ?_
    refine pwp_seq <| pwp_cond rfl (fun h2 => ?_) (fun h2 => ?_)
    · replace h2 := of_decide_eq_true h2
      refine pwp_skip <| pwp_seq <| pwp_block <| pwp_seq <| kx [(10, (vin k)), (11, (vl 3 1 enc_i64 ((trP (rowsOf w s lo)).getD k [])))] [] (zM <| zE (oXl el57 k ([] : List (Int)) (L := (trP (rowsOf w s lo)))) <| zE (oC1 sh22) <| zM <| zM <| zZ) ?_
      refine pwp_seq <| kx [(12, (vl 3 1 enc_i64 []))] [] (zE (oNl 3 1) <| zZ) ?_
      refine pwp_seq <| pwp_seq <| kx [(33, (vb (decide (((k : Nat) : Int) < (((trP (rowsOf w t hi)).length : Nat) : Int)))))] [] (zM <| zM <| zE (oLm el57 (L := (trP (rowsOf w t hi)))) <| zE oLt <| zZ) ?_
      refine pwp_cond rfl (fun h3 => ?_) (fun h3 => ?_)
      · replace h3 := of_decide_eq_true h3
        refine kx [(12, (vl 3 1 enc_i64 ((trP (rowsOf w t hi)).getD k [])))] [] (zM <| zM <| zE (oXl el57 k ([] : List (Int)) (L := (trP (rowsOf w t hi)))) <| zE (oC1 sh22) <| zM <| zZ) ?_
        refine kf [(9, (.own 0 22 1 ((out ++ [(joinS ((trP (rowsOf w s lo)).getD k []) ((trP (rowsOf w t hi)).getD k []))]).length)))] [(0, some (bm enc_sl_22 (out ++ [(joinS ((trP (rowsOf w s lo)).getD k []) ((trP (rowsOf w t hi)).getD k []))])))] (zM <| zM <| zM <| zE (oCl (p_join ((trP (rowsOf w s lo)).getD k []) ((trP (rowsOf w t hi)).getD k []) (hga.1.up (by decide)) (hgb.1.up (by decide)) (Nat.le_trans hga.2 (by decide)) (Nat.le_trans hgb.2 (by decide)))) <| zE (oBs el57 ze22 zo22) <| zA enc_sl_22 out [(joinS ((trP (rowsOf w s lo)).getD k []) ((trP (rowsOf w t hi)).getD k []))] rfl el57 ze22 by22 <| zM <| zF) ?_
        refine kx [(25, (vin (k + 1)))] [] (zE (oAd (k + 1)) <| zM <| zZ) ?_
        exact ⟨(k + 1, out ++ [joinS ((trP (rowsOf w s lo)).getD k []) ((trP (rowsOf w t hi)).getD k [])]), wk, ⟨by omega, by rw [ho]; exact stkR_step _ _ k⟩, (by first | omega | (dsimp only; omega))⟩
      · replace h3 := of_decide_eq_false h3
        refine pwp_skip <| kf [(9, (.own 0 22 1 ((out ++ [(joinS ((trP (rowsOf w s lo)).getD k []) [])]).length)))] [(0, some (bm enc_sl_22 (out ++ [(joinS ((trP (rowsOf w s lo)).getD k []) [])])))] (zM <| zM <| zM <| zE (oCl (p_join ((trP (rowsOf w s lo)).getD k []) [] (hga.1.up (by decide)) (fun x hx => absurd hx List.not_mem_nil) (Nat.le_trans hga.2 (by decide)) (Nat.zero_le _))) <| zE (oBs el57 ze22 zo22) <| zA enc_sl_22 out [(joinS ((trP (rowsOf w s lo)).getD k []) [])] rfl el57 ze22 by22 <| zM <| zF) ?_
        refine kx [(25, (vin (k + 1)))] [] (zE (oAd (k + 1)) <| zM <| zZ) ?_
        exact ⟨(k + 1, out ++ [joinS ((trP (rowsOf w s lo)).getD k []) []]), wk, ⟨by omega, by have e := getD_ge (l := (trP (rowsOf w t hi))) (k := k) (by omega); have q := stkR_step (trP (rowsOf w s lo)) (trP (rowsOf w t hi)) k; rw [e] at q; rw [ho]; exact q⟩, (by first | omega | (dsimp only; omega))⟩
    · replace h2 := of_decide_eq_false h2
      refine pwp_exit <| pwp_seq <| pwp_sim (publish (t := 9) (k := 0) (es := List.map enc_sl_22 out) rfl rfl (pub_cells _ _ (fun _ => rfl)) (map_len _ _ rfl) (pub_take _ _ (fun _ => rfl) rfl)) ?_
      refine kx [(6, (vl 22 1 enc_sl_22 (trP out)))] [] (zM <| zE (oCl (p_turnedT hout)) <| zM <| zZ) ?_
      refine pwp_ret ⟨_, (.tmp (d := (.sl 22 1 (List.map enc_sl_22 (trP out)))) rfl .nil), ?_⟩
      rw [ho, show k = (trP (rowsOf w s lo)).length by omega]; rfl
theorem p_stk0 (lo : List Int) (hi : List Int) (w : Nat) (s t : Nat) (hz : w = 0) : Takes Tryz.prog 52 [(.sl 3 1 (List.map enc_i64 lo)), (.sl 3 1 (List.map enc_i64 hi)), (.val (.int .i64 (((w : Nat) : Int))))] (.sl 22 1 (List.map enc_sl_22 (stkV w s t lo hi))) := by
  refine fn_intro Tryz.func52 rfl cb52 rfl ?_
  show PWp _ _ _ _ ⟨[(0, (vl 3 1 enc_i64 lo)), (1, (vl 3 1 enc_i64 hi)), (2, (vin w))], []⟩
  refine pwp_seq <| kx [] [] (zE (oNl 22 1) <| zZ) ?_
  refine pwp_seq <| pwp_seq <| kx [(14, (vb true))] [] (zM <| zE (oBk true oEq (by exact beq_iff_eq.2 (by rw [show w = 0 from hz]; rfl))) <| zZ) ?_
  refine pwp_cond (b := true) (by kernel_rfl) (fun _ => ?_) (fun h => by cases h)
  refine pwp_seq <| kx [(6, (vl 22 1 enc_sl_22 []))] [] (zE (oNl 22 1) <| zZ) ?_
  refine pwp_ret ⟨_, (.tmp (d := (.sl 22 1 (List.map enc_sl_22 []))) rfl .nil), ?_⟩
  rw [hz, stkV_0]; rfl
theorem p_joinC (n : Int) (w h m : Int) (l r d c : List Int) : Takes Tryz.prog 54 [(.val (.int .i64 (n))), (.cptr 1000000 (Dat.cells (encBnd (RBnd.mk w h m l r d c))) 0)] (.val (.bool ((badPx m n)))) := by
  refine fn_intro Tryz.func54 rfl cb54 rfl ?_
  show PWp _ _ _ _ ⟨[(0, (vi n)), (1, (.d (.cptr 1000000 (Dat.cells (encBnd (RBnd.mk w h m l r d c))) 0)))], []⟩
  refine pwp_seq <| kx [] [] (zM <| zZ) ?_
  refine pwp_seq <| kx [(3, (vb (decide (n < 0) || decide (m < n))))] [] ?_ ?_
  · refine zM <| zE oLt <| zE (oV (vb (decide (n < 0))) (mv_ok (by kernel_rfl))) <| ?_
    rcases hb1 : (decide (n < 0)) with _ | _
    · replace hb1 := of_decide_eq_false hb1
      exact zM <| zE (oFc fo28_2) <| zE (oC1 sh3) <| zE oGt <| zE oPo <| zM <| zZ
    · replace hb1 := of_decide_eq_true hb1
      exact zK <| zK <| zK <| zK <| zE oPt <| zM <| zZ
  refine pwp_ret ⟨_, (.tmp (d := (.val (.bool ((decide (n < 0) || decide (m < n)))))) rfl .nil), ?_⟩
  rfl
theorem p_joinAI (l : List Int) (qw qh qm : Int) (ql qr qd qc : List Int) (hb : l.length ≤ 1000000) : Takes Tryz.prog 62 [(.sl 3 1 (List.map enc_i64 l)), (.clo 54 [(.cptr 1000000 (Dat.cells (encBnd (RBnd.mk qw qh qm ql qr qd qc))) 0)])] (.val (.int .i64 ((firstIx (badPx qm) l 0)))) := by
  refine fn_intro Tryz.func62 rfl cb62 rfl ?_
  show PWp _ _ _ _ ⟨[(0, (vl 3 1 enc_i64 l)), (1, (.d (.clo 54 [(.cptr 1000000 (Dat.cells (encBnd (RBnd.mk qw qh qm ql qr qd qc))) 0)])))], []⟩
  refine pwp_seq <| kx [] [] (zM <| zZ) ?_
  refine pwp_seq <| pwp_seq <| kx [(7, (vin l.length)), (8, (vin 0))] [] (zM <| zE (oLm el22) <| zM <| zZ) ?_
  refine pwp_block <| pwp_loop (α := Nat) (fun k => ⟨[(0, (vl 3 1 enc_i64 l)), (1, (.d (.clo 54 [(.cptr 1000000 (Dat.cells (encBnd (RBnd.mk qw qh qm ql qr qd qc))) 0)]))), (7, (vin l.length)), (8, (vin k))], []⟩) (fun k => k ≤ l.length ∧ firstIx (badPx qm) l 0 = firstIx (badPx qm) (l.drop k) k) (fun k => l.length - k) 0 wk ⟨Nat.zero_le _, rfl⟩ ?_
  rintro k ⟨hk, hv⟩
  refine pwp_seq <| kx [(9, (vb (decide (((k : Nat) : Int) < ((l.length : Nat) : Int)))))] [] (zE oLt <| zZ) ?_
  refine pwp_seq <| pwp_cond rfl (fun h1 => ?_) (fun h1 => ?_)
  · replace h1 := of_decide_eq_true h1
    refine pwp_skip <| pwp_seq <| pwp_block <| pwp_seq <| kx [(5, (vin k))] [] (zM <| zM <| zZ) ?_
    refine pwp_seq <| kx [(16, (vb (badPx qm (l.getD k 0))))] [] (zM <| zM <| zM <| zE (oXl el22 k (0 : Int)) <| zE (oC1 sh3) <| zE (oCd (ds := [(.val (.int .i64 ((l.getD k 0))))]) (caps := [(.cptr 1000000 (Dat.cells (encBnd (RBnd.mk qw qh qm ql qr qd qc))) 0)]) (p_joinC (l.getD k 0) qw qh qm ql qr qd qc)) <| zZ) ?_
    refine pwp_cond (b := (badPx qm (l.getD k 0))) rfl (fun h2 => ?_) (fun h2 => ?_)
    · have hix := firstIx_at _ l k (by omega) h2
      refine pwp_seq <| kx [(4, (vin k))] [] (zM <| zM <| zZ) ?_
      refine pwp_ret ⟨_, (.tmp (d := (.val (.int .i64 (((k : Nat) : Int))))) rfl .nil), ?_⟩
      rw [hv, hix]; rfl
    · have hix := firstIx_step _ l k (by omega) h2
      refine pwp_skip <| kx [(8, (vin (k + 1)))] [] (zE (oAd (k + 1)) <| zM <| zZ) ?_
      exact ⟨(k + 1), wk, ⟨by omega, hv.trans hix⟩, (by omega)⟩
  · replace h1 := of_decide_eq_false h1
    have hix := firstIx_end (badPx qm) l k (by omega)
    refine pwp_exit <| pwp_seq <| kx [(4, (vi (-1)))] [] (zM <| zZ) ?_
    refine pwp_ret ⟨_, (.tmp (d := (.val (.int .i64 (-1)))) rfl .nil), ?_⟩
    rw [hv, hix]; rfl
theorem p_joinA (l : List Int) (qw qh qm : Int) (ql qr qd qc : List Int) (hb : l.length ≤ 1000000) : Takes Tryz.prog 45 [(.sl 3 1 (List.map enc_i64 l)), (.clo 54 [(.cptr 1000000 (Dat.cells (encBnd (RBnd.mk qw qh qm ql qr qd qc))) 0)])] (.val (.bool ((l.any (badPx qm))))) := by
  refine fn_intro Tryz.func45 rfl cb45 rfl ?_
  show PWp _ _ _ _ ⟨[(0, (vl 3 1 enc_i64 l)), (1, (.d (.clo 54 [(.cptr 1000000 (Dat.cells (encBnd (RBnd.mk qw qh qm ql qr qd qc))) 0)])))], []⟩
  refine pwp_seq <| kx [] [] (zM <| zZ) ?_
  refine pwp_seq <| kx [(4, (vb (decide (0 ≤ (firstIx (badPx qm) l 0)))))] [] (zM <| zM <| zE (oCl (p_joinAI l qw qh qm ql qr qd qc hb)) <| zE oGe <| zM <| zZ) ?_
  refine pwp_ret ⟨_, (.tmp (d := (.val (.bool (decide (0 ≤ (firstIx (badPx qm) l 0)))))) rfl .nil), ?_⟩
  rw [firstIx_any]; rfl
theorem p_stkG (lo hi : List Int) (w s t : Nat) (hw2 : w ≤ 1000) (hs2 : s ≤ 1000) (ht2 : t ≤ 1000) (hlo : lo.length = w * s) (hhi : hi.length = w * t) (hll : lo.length ≤ 1000000) (hlh : hi.length ≤ 1000000) (hbl : Bd 1048576 lo) (hbh : Bd 1048576 hi) (hst : s = t ∨ s = t + 1) (hst2 : s + t ≤ 1000) : Takes Tryz.prog 52 [.sl 3 1 (List.map enc_i64 lo), .sl 3 1 (List.map enc_i64 hi), .val (.int .i64 ((w : Nat) : Int))] (.sl 22 1 (List.map enc_sl_22 (stkV w s t lo hi))) := by
  rcases Nat.eq_zero_or_pos w with h | h
  · exact p_stk0 lo hi w s t h
  · exact p_stk lo hi w s t h hw2 hs2 ht2 hlo hhi hll hlh hbl hbh hst hst2
end Go.Proofs.YtleidgohjckmlaaGreat
