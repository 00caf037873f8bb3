/- Part 19 of a proof: rules, plain facts, and functions walked. -/
import Derived.Test.YtleidgohjckmlaaGreatM18
namespace Go.Proofs.YtleidgohjckmlaaGreat
open Go.Fid
set_option maxRecDepth 4000
set_option linter.unusedVariables false
set_option linter.unusedSimpArgs false
theorem cb9 : callB Tryz.prog 9 = true := by kernel_rfl
theorem cb26 : callB Tryz.prog 26 = true := by kernel_rfl
theorem cb27 : callB Tryz.prog 27 = true := by kernel_rfl
theorem fo24_0 : fieldB Tryz.prog 24 0 = some 0 := by kernel_rfl
theorem fo24_1 : fieldB Tryz.prog 24 1 = some 1 := by kernel_rfl
theorem fo24_3 : fieldB Tryz.prog 24 3 = some 3 := by kernel_rfl
theorem fo28_3 : fieldB Tryz.prog 28 3 = some 3 := by kernel_rfl
theorem fo28_4 : fieldB Tryz.prog 28 4 = some 4 := by kernel_rfl
theorem fo28_5 : fieldB Tryz.prog 28 5 = some 5 := by kernel_rfl
theorem fo28_6 : fieldB Tryz.prog 28 6 = some 6 := by kernel_rfl
theorem pl28 : placesB Tryz.prog 28 = some [(0, 1), (1, 1), (2, 1), (3, 1), (4, 1), (5, 1), (6, 1)] := by kernel_rfl
theorem sh24 : shapeB Tryz.prog 24 = some (true, 4) := by kernel_rfl
theorem sh28 : shapeB Tryz.prog 28 = some (true, 7) := by kernel_rfl
theorem ze28 : zeroB Tryz.prog 28 = some [.int .i64 0, .int .i64 0, .int .i64 0, .slice none 0 0, .slice none 0 0, .slice none 0 0, .slice none 0 0] := by kernel_rfl
theorem zo28 : ZOk [.int .i64 0, .int .i64 0, .int .i64 0, .slice none 0 0, .slice none 0 0, .slice none 0 0, .slice none 0 0] [.val (.int .i64 0), .val (.int .i64 0), .val (.int .i64 0), .sl 3 1 [], .sl 3 1 [], .sl 3 1 [], .sl 3 1 []] := by simp [ZOk, Value.oneCell']
theorem p_chk (w h mx : Int) (px : List Int) (hb : px.length ≤ 1000000) : Takes Tryz.prog 26 [(encRst (RRst.mk w h mx px))] (.val (.int .i64 ((chkC w h mx px)))) := by
  refine fn_intro Tryz.func26 rfl cb26 rfl ?_
  show PWp _ _ _ _ ⟨[(0, (.d (encRst (RRst.mk w h mx px))))], []⟩
  refine pwp_seq <| kx [(1, (.ref 0 0))] [(0, some (bx (encRst (RRst.mk w h mx px))))] (zN (oBx 0) <| zM <| zZ) ?_
  refine pwp_seq <| pwp_seq <| kx [(34, (vb (((decide ((min (min w h) mx) < 1) || decide (64 < (max w h))) || decide (65535 < mx)) || (((px.length : Nat) : Int) != (w * h)))))] [] ?_ ?_
  · refine zE (oFr fo24_0) <| zR (oL1 sh3) <| zE (oFr fo24_1) <| zR (oL1 sh3) <| zE (oFr fo24_2) <| zR (oL1 sh3) <| zE (oN3 (min (min w h) mx) (hr := by exact rfl)) <| zE oLt <| zE (oV (vb (decide ((min (min w h) mx) < 1))) (mv_ok (by kernel_rfl))) <| ?_
    rcases hb1 : (decide ((min (min w h) mx) < 1)) with _ | _
    · replace hb1 := of_decide_eq_false hb1
      refine zE (oFr fo24_0) <| zR (oL1 sh3) <| zE (oFr fo24_1) <| zR (oL1 sh3) <| zE (zMx (max w h) (hr := by first | omega | (dsimp only; omega))) <| zE oGt <| zE oPo <| zE (oV (vb (false || decide (64 < (max w h)))) (mv_ok (by kernel_rfl))) <| ?_
      rcases hb2 : (false || decide (64 < (max w h))) with _ | _
      · replace hb2 := of_decide_eq_false (p := (64 < (max w h))) hb2
        refine zE (oFr fo24_2) <| zR (oL1 sh3) <| zE oGt <| zE oPo <| zE (oV (vb (false || decide (65535 < mx))) (mv_ok (by kernel_rfl))) <| ?_
        rcases hb3 : (false || decide (65535 < mx)) with _ | _
        · replace hb3 := of_decide_eq_false (p := (65535 < mx)) hb3
          exact zE (oFr fo24_3) <| zR (oL1 sh22) <| zE (oLm el22) <| zE (oFr fo24_0) <| zR (oL1 sh3) <| zE (oFr fo24_1) <| zR (oL1 sh3) <| zE (zMl (w * h) (hr := by exact (wAny rfl (by have hq := wh_bd (w := w) (h := h) (by omega) (by omega) (by omega) (by omega); simp only [kLo]; omega) (by have hq := wh_bd (w := w) (h := h) (by omega) (by omega) (by omega) (by omega); simp only [kHi]; omega)))) <| zE oNe <| zE oPo <| zZ
        · replace hb3 := of_decide_eq_true (p := (65535 < mx)) hb3
          exact zK <| zK <| zK <| zK <| zK <| zK <| zK <| zK <| zK <| zE oPt <| zZ
      · replace hb2 := of_decide_eq_true (p := (64 < (max w h))) hb2
        exact zK <| zK <| zK <| zE oPt <| zM <| zK <| zK <| zK <| zK <| zK <| zK <| zK <| zK <| zK <| zE oPt <| zZ
    · replace hb1 := of_decide_eq_true hb1
      exact zK <| zK <| zK <| zK <| zK <| zK <| zE oPt <| zM <| zK <| zK <| zK <| zE oPt <| zM <| zK <| zK <| zK <| zK <| zK <| zK <| zK <| zK <| zK <| zE oPt <| zZ
  refine pwp_cond rfl (fun h4 => ?_) (fun h4 => ?_)
  · refine pwp_seq <| kx [(2, (vin 1))] [] (zM <| zZ) ?_
    refine pwp_ret ⟨_, (.tmp (d := (.val (.int .i64 (1)))) rfl .nil), ?_⟩
    rw [chk_1 h4]; rfl
  · refine pwp_skip <| pwp_seq <| pwp_seq <| kx [(38, (vb (px.any (badPx mx))))] [] (zE (oFr fo24_3) <| zR (oL1 sh22) <| zE (oMf [0]) <| zC (oCg [(0, (Dat.cells (encRst (RRst.mk w h mx px))))] [(vl 3 1 enc_i64 px), (.clo 46 [0])] (p_chkA px w h mx px hb) (.d (.c (css := [(Dat.cells (encRst (RRst.mk w h mx px)))]) (.cons (.head _) .nil) .nil)) (.val _)) <| zZ) ?_
    refine pwp_cond (b := (px.any (badPx mx))) rfl (fun h5 => ?_) (fun h5 => ?_)
    · refine pwp_seq <| kx [(2, (vin 1))] [] (zM <| zZ) ?_
      refine pwp_ret ⟨_, (.tmp (d := (.val (.int .i64 (1)))) rfl .nil), ?_⟩
      rw [chk_2 h5]; rfl
    · refine pwp_skip <| pwp_seq <| kx [(2, (vin 0))] [] (zM <| zZ) ?_
      refine pwp_ret ⟨_, (.tmp (d := (.val (.int .i64 (0)))) rfl .nil), ?_⟩
      rw [chk_3 h4 h5]; rfl
theorem p_bands (w h : Nat) (mx : Int) (px : List Int) (hv : RstOk w h px) : Takes Tryz.prog 27 [(encRst (RRst.mk ((w : Nat) : Int) ((h : Nat) : Int) mx px))] (encBnd (RBnd.mk ((w : Nat) : Int) ((h : Nat) : Int) mx (bLow w h px) (bRight w h px) (bDown w h px) (bCorner w h px))) := by
  have hT := rows_tab hv
  have hTl := tab_len hT
  have hpl := rst_len hv
  obtain ⟨w1, w2, w3, w4, w5, w6⟩ := hv
  refine fn_intro Tryz.func27 rfl cb27 rfl ?_
  show PWp _ _ _ _ ⟨[(0, (.d (encRst (RRst.mk ((w : Nat) : Int) ((h : Nat) : Int) mx px))))], []⟩
  refine pwp_seq <| kx [(1, (.ref 0 0)), (2, (.ref 1 0))] [(0, some (bx (encRst (RRst.mk ((w : Nat) : Int) ((h : Nat) : Int) mx px)))), (1, some (bx (encBnd (RBnd.mk 0 0 0 [] [] [] []))))] (zN (oBx 0) <| zN (oAl 1 ze28 zo28) <| zZ) ?_
  refine pwp_seq <| kx [(3, (.own 2 22 1 0)), (4, (.own 3 22 1 0))] [(2, some (bm enc_sl_22 [])), (3, some (bm enc_sl_22 []))] (zO 2 22 1 <| zO 3 22 1 <| zZ) ?_
  refine pwp_seq <| pwp_seq <| kx [(14, (vl 22 1 enc_sl_22 (rowsOf w h px))), (15, (vin ((rowsOf w h px).length))), (16, (vin 0))] [] (zE (oFr fo24_3) <| zR (oL1 sh22) <| zE (oFr fo24_0) <| zR (oL1 sh3) <| zE (oCl (p_lines px w h w1 w5 (by omega))) <| zE (oLm el57 (L := (rowsOf w h px))) <| zM <| zZ) ?_
  refine pwp_block <| pwp_loop (α := Nat × List (List Int) × List (List Int)) (fun (k, a, b) => ⟨[(1, (.ref 0 0)), (2, (.ref 1 0)), (3, (.own 2 22 1 a.length)), (4, (.own 3 22 1 b.length)), (14, (vl 22 1 enc_sl_22 (rowsOf w h px))), (15, (vin ((rowsOf w h px).length))), (16, (vin k))], [(0, some (bx (encRst (RRst.mk ((w : Nat) : Int) ((h : Nat) : Int) mx px)))), (1, some (bx (encBnd (RBnd.mk 0 0 0 [] [] [] [])))), (2, some (bm enc_sl_22 a)), (3, some (bm enc_sl_22 b))]⟩) (fun (k, a, b) => k ≤ (rowsOf w h px).length ∧ a = ((rowsOf w h px).take k).map loS ∧ b = ((rowsOf w h px).take k).map hiS) (fun (k, a, b) => (rowsOf w h px).length - k) (0, [], []) wk ⟨Nat.zero_le _, rfl, rfl⟩ ?_
  rintro ⟨k, a, b⟩ ⟨hk, ha, hb⟩
  have hla := map_lenle loS ha hTl
  have hlb := map_lenle hiS hb hTl
  have hg := tab_get hT k
  have hta := ha ▸ tab_lo (tab_take hT k)
  have htb := hb ▸ tab_hi (tab_take hT k)
  refine pwp_seq <| kx [(17, (vb (decide (((k : Nat) : Int) < (((rowsOf w h px).length : Nat) : Int)))))] [] (zE oLt <| zZ) ?_
  refine pwp_seq <| pwp_cond rfl (fun h1 => ?_) (fun h1 => ?_)
  · replace h1 := of_decide_eq_true h1
    refine pwp_skip <| pwp_seq <| pwp_block <| pwp_seq <| kx [(6, (vl 3 1 enc_i64 ((rowsOf w h px).getD k [])))] [] (zE (oXl el57 k ([] : List (Int)) (L := (rowsOf w h px))) <| zE (oC1 sh22) <| zM <| zZ) ?_
    refine pwp_seq <| kx [(7, (vl 3 1 enc_i64 (loS ((rowsOf w h px).getD k [])))), (8, (vl 3 1 enc_i64 (hiS ((rowsOf w h px).getD k []))))] [] (zM <| zE (oCl (p_split ((rowsOf w h px).getD k []) (hg.1.up (by decide)) (Nat.le_trans hg.2 (by decide)))) <| zM <| zE oEx <| zE oEx <| zM <| zM <| zZ) ?_
    refine kf [(3, (.own 2 22 1 ((a ++ [(loS ((rowsOf w h px).getD k []))]).length))), (4, (.own 3 22 1 ((b ++ [(hiS ((rowsOf w h px).getD k []))]).length)))] [(2, some (bm enc_sl_22 (a ++ [(loS ((rowsOf w h px).getD k []))]))), (3, some (bm enc_sl_22 (b ++ [(hiS ((rowsOf w h px).getD k []))])))] (zM <| zM <| zE (oBs el57 ze22 zo22) <| zA enc_sl_22 a [(loS ((rowsOf w h px).getD k []))] rfl el57 ze22 by22 (k := 2) <| zM <| zM <| zE (oBs el57 ze22 zo22) <| zA enc_sl_22 b [(hiS ((rowsOf w h px).getD k []))] rfl el57 ze22 by22 (k := 3) <| zM <| zM <| zF) ?_
    refine kx [(16, (vin (k + 1)))] [] (zE (oAd (k + 1)) <| zM <| zZ) ?_
    exact ⟨(k + 1, a ++ [loS ((rowsOf w h px).getD k [])], b ++ [hiS ((rowsOf w h px).getD k [])]), wk, ⟨by omega, map_step loS [] ha (by omega), map_step hiS [] hb (by omega)⟩, (by first | omega | (dsimp only; omega))⟩
  · replace h1 := of_decide_eq_false h1
    refine pwp_exit <| pwp_seq <| kx [(9, (.ref 4 0))] [(4, some (bx (encBnd (RBnd.mk ((w : Nat) : Int) ((h : Nat) : Int) mx [] [] [] []))))] (zE (oFr fo24_0) <| zR (oL1 sh3) <| zE (oFr fo24_1) <| zR (oL1 sh3) <| zE (oFr fo24_2) <| zR (oL1 sh3) <| zE (oBd pl28 ze28 zo28) <| zH (oAl 4 ze28 zo28) <| zT (oSt sh28) <| zZ) ?_
    refine pwp_seq <| pwp_sim (publish (t := 3) (k := 2) (es := List.map enc_sl_22 a) rfl rfl (pub_cells _ _ (fun _ => rfl)) (map_len _ _ rfl) (pub_take _ _ (fun _ => rfl) rfl)) ?_
    refine kx [] [(4, some (bx (encBnd (RBnd.mk ((w : Nat) : Int) ((h : Nat) : Int) mx (colLo a) [] (colHi a) []))))] (zM <| zE (oCl (p_cols a ((w + 1) / 2) (tab_up hta (by decide)))) <| zM <| zE oEx <| zE oEx <| zE (oFr fo28_3) <| zT (oSt sh22) <| zE (oFr fo28_5) <| zT (oSt sh22) <| zZ) ?_
    refine pwp_seq <| pwp_sim (publish (t := 4) (k := 3) (es := List.map enc_sl_22 b) rfl rfl (pub_cells _ _ (fun _ => rfl)) (map_len _ _ rfl) (pub_take _ _ (fun _ => rfl) rfl)) ?_
    refine kx [] [(4, some (bx (encBnd (RBnd.mk ((w : Nat) : Int) ((h : Nat) : Int) mx (colLo a) (colLo b) (colHi a) (colHi b)))))] (zM <| zE (oCl (p_cols b (w / 2) (tab_up htb (by decide)))) <| zM <| zE oEx <| zE oEx <| zE (oFr fo28_4) <| zT (oSt sh22) <| zE (oFr fo28_6) <| zT (oSt sh22) <| zZ) ?_
    refine pwp_seq <| kx [] [(1, some (bx (encBnd (RBnd.mk ((w : Nat) : Int) ((h : Nat) : Int) mx (colLo a) (colLo b) (colHi a) (colHi b)))))] (zR (oLa sh28) <| zT (oSt sh28) <| zZ) ?_
    refine pwp_ret ⟨_, (res_a (cs := (bx (encBnd (RBnd.mk ((w : Nat) : Int) ((h : Nat) : Int) mx (colLo a) (colLo b) (colHi a) (colHi b))))) (d := (encBnd (RBnd.mk ((w : Nat) : Int) ((h : Nat) : Int) mx (colLo a) (colLo b) (colHi a) (colHi b)))) rfl rfl sh28 rfl rfl .nil), ?_⟩
    rw [map_end loS ha (by omega), map_end hiS hb (by omega)]; rfl
theorem p_splO (w h : Nat) (mx : Int) (px : List Int) (hv : RstOk w h px) (hb : px.length ≤ 1000000) (hc : chkC ((w : Nat) : Int) ((h : Nat) : Int) mx px = 0) : Takes Tryz.prog 9 [(encRst (RRst.mk ((w : Nat) : Int) ((h : Nat) : Int) mx px))] (.tup [(encBnd (RBnd.mk ((w : Nat) : Int) ((h : Nat) : Int) mx (bLow w h px) (bRight w h px) (bDown w h px) (bCorner w h px))), (.val (.int .i64 (0)))]) := by
  refine fn_intro Tryz.func9 rfl cb9 rfl ?_
  show PWp _ _ _ _ ⟨[(0, (.d (encRst (RRst.mk ((w : Nat) : Int) ((h : Nat) : Int) mx px))))], []⟩
  refine pwp_seq <| kx [(1, (.ref 0 0)), (2, (.ref 1 0))] [(0, some (bx (encRst (RRst.mk ((w : Nat) : Int) ((h : Nat) : Int) mx px)))), (1, some (bx (encBnd (RBnd.mk 0 0 0 [] [] [] []))))] (zN (oBx 0) <| zN (oAl 1 ze28 zo28) <| zM <| zZ) ?_
  refine pwp_seq <| pwp_seq <| kx [(4, (vi (chkC ((w : Nat) : Int) ((h : Nat) : Int) mx px)))] [] (zR (oLa sh24) <| zE (oCl (p_chk ((w : Nat) : Int) ((h : Nat) : Int) mx px hb)) <| zM <| zZ) ?_
  refine pwp_seq <| kx [(8, (vb false))] [] (zM <| zE (oBk false oNe (by exact bne_eq_false_iff_eq.2 hc)) <| zZ) ?_
  refine pwp_cond (b := false) (by kernel_rfl) (fun h => by cases h) (fun _ => ?_)
  refine pwp_skip <| pwp_seq <| kx [(3, (vin 0))] [(1, some (bx (encBnd (RBnd.mk ((w : Nat) : Int) ((h : Nat) : Int) mx (bLow w h px) (bRight w h px) (bDown w h px) (bCorner w h px)))))] (zR (oLa sh24) <| zE (oCl (p_bands w h mx px hv)) <| zT (oSt sh28) <| zM <| zZ) ?_
  refine pwp_ret ⟨_, (res_a (cs := (bx (encBnd (RBnd.mk ((w : Nat) : Int) ((h : Nat) : Int) mx (bLow w h px) (bRight w h px) (bDown w h px) (bCorner w h px))))) (d := (encBnd (RBnd.mk ((w : Nat) : Int) ((h : Nat) : Int) mx (bLow w h px) (bRight w h px) (bDown w h px) (bCorner w h px)))) rfl rfl sh28 rfl rfl (.tmp (d := (.val (.int .i64 (0)))) rfl .nil)), ?_⟩
  rfl
end Go.Proofs.YtleidgohjckmlaaGreat
namespace Go.Proofs.YtleidgohjckmlaaGreat
open Go.Fid
set_option maxRecDepth 4000
set_option linter.unusedVariables false
set_option linter.unusedSimpArgs false
theorem cb8 : callB Tryz.prog 8 = true := by kernel_rfl
theorem cb10 : callB Tryz.prog 10 = true := by kernel_rfl
theorem cb23 : callB Tryz.prog 23 = true := by kernel_rfl
theorem cb55 : callB Tryz.prog 55 = true := by kernel_rfl
theorem p_floor (n : Int) (hn1 : -1125899906842624 ≤ n) (hn2 : n ≤ 1125899906842624) : Takes Tryz.prog 55 [(.val (.int .i64 (n))), (.val (.int .i64 (2)))] (.val (.int .i64 ((n.fdiv 2)))) := by
  refine fn_intro Tryz.func55 rfl cb55 rfl ?_
  show PWp _ _ _ _ ⟨[(0, (vi n)), (1, (vi 2))], []⟩
  refine pwp_seq <| kx [] [] (zM <| zZ) ?_
  refine pwp_seq <| kx [(5, (vi (n.tdiv 2)))] [] (zM <| zM <| zE (zQu (n.tdiv 2) (hr := by exact (by have hq := td2 n; exact wAny rfl (by simp only [kLo]; omega) (by simp only [kHi]; omega)))) <| zM <| zZ) ?_
  refine pwp_seq <| pwp_seq <| kx [(12, (vb (decide ((n.tmod 2) < 0))))] [] (zM <| zM <| zE (zRe (n.tmod 2) (hr := by exact rfl)) <| zE oLt <| zZ) ?_
  refine pwp_cond (b := decide ((n.tmod 2) < 0)) rfl (fun h1 => ?_) (fun h1 => ?_)
  · replace h1 := of_decide_eq_true h1
    refine kx [(5, (vi (n.tdiv 2 - 1)))] [] (zM <| zE (zSb (n.tdiv 2 - 1) (hr := by exact (by have hq := td2 n; exact wAny rfl (by simp only [kLo]; omega) (by simp only [kHi]; omega)))) <| zM <| zZ) ?_
    refine pwp_seq <| kx [(4, (vi (n.tdiv 2 - 1)))] [] (zM <| zM <| zZ) ?_
    refine pwp_ret ⟨_, (.tmp (d := (.val (.int .i64 ((n.tdiv 2 - 1))))) rfl .nil), ?_⟩
    rw [floor_2 h1]; rfl
  · replace h1 := of_decide_eq_false h1
    refine pwp_skip <| pwp_seq <| kx [(4, (vi (n.tdiv 2)))] [] (zM <| zM <| zZ) ?_
    refine pwp_ret ⟨_, (.tmp (d := (.val (.int .i64 ((n.tdiv 2))))) rfl .nil), ?_⟩
    rw [floor_1 h1]; rfl
theorem p_eq (l : List Int) (m : List Int) (hb : l.length ≤ 1000000) : Takes Tryz.prog 23 [(.sl 3 1 (List.map enc_i64 l)), (.sl 3 1 (List.map enc_i64 m))] (.val (.bool ((l == m)))) := by
  refine fn_intro Tryz.func23 rfl cb23 rfl ?_
  show PWp _ _ _ _ ⟨[(0, (vl 3 1 enc_i64 l)), (1, (vl 3 1 enc_i64 m))], []⟩
  refine pwp_seq <| kx [] [] (zM <| zZ) ?_
  refine pwp_seq <| pwp_seq <| kx [(10, (vb (((l.length : Nat) : Int) != ((m.length : Nat) : Int))))] [] (zM <| zE (oLm el22) <| zM <| zE (oLm el22) <| zE oNe <| zZ) ?_
  refine pwp_cond rfl (fun h1 => ?_) (fun h1 => ?_)
  · replace h1 := bne_iff_ne.1 h1
    refine pwp_seq <| kx [(4, (vb false))] [] (zM <| zZ) ?_
    refine pwp_ret ⟨_, (.tmp (d := (.val (.bool (false)))) rfl .nil), ?_⟩
    rw [py_eq_len h1]; rfl
  · replace h1 := bne_eq_false_iff_eq.1 h1
    have hlm : l.length = m.length := by omega
    refine pwp_skip <| pwp_seq <| pwp_seq <| kx [(12, (vin l.length)), (13, (vin 0))] [] (zM <| zE (oLm el22) <| zM <| zZ) ?_
    refine pwp_block <| pwp_loop (α := Nat) (fun k => ⟨[(0, (vl 3 1 enc_i64 l)), (1, (vl 3 1 enc_i64 m)), (12, (vin l.length)), (13, (vin k))], []⟩) (fun k => k ≤ l.length ∧ l.take k = m.take k) (fun k => l.length - k) 0 wk ⟨Nat.zero_le _, rfl⟩ ?_
    rintro k ⟨hk, hv⟩
    refine pwp_seq <| kx [(14, (vb (decide (((k : Nat) : Int) < ((l.length : Nat) : Int)))))] [] (zE oLt <| zZ) ?_
    refine pwp_seq <| pwp_cond rfl (fun h2 => ?_) (fun h2 => ?_)
    · replace h2 := of_decide_eq_true h2
      refine pwp_skip <| pwp_seq <| pwp_block <| pwp_seq <| kx [(5, (vin k))] [] (zM <| zM <| zZ) ?_
      refine pwp_seq <| kd [(24, (vb ((l.getD k 0) != (m.getD k 0))))] [] mo (wM <| wM <| wE (oXl el22 k (0 : Int)) <| wE (oC1 sh3) <| wM <| wM <| wE (oXl el22 k (0 : Int)) <| wE (oC1 sh3) <| wE oNe <| wZ) ?_
      refine pwp_cond (b := ((l.getD k 0) != (m.getD k 0))) rfl (fun h3 => ?_) (fun h3 => ?_)
      · replace h3 := bne_iff_ne.1 h3
        refine pwp_seq <| kx [(4, (vb false))] [] (zM <| zZ) ?_
        refine pwp_ret ⟨_, (.tmp (d := (.val (.bool (false)))) rfl .nil), ?_⟩
        rw [py_eq_at h3]; rfl
      · replace h3 := bne_eq_false_iff_eq.1 h3
        refine pwp_skip <| kx [(13, (vin (k + 1)))] [] (zE (oAd (k + 1)) <| zM <| zZ) ?_
        exact ⟨(k + 1), wk, ⟨by omega, py_eq_step hv (by omega) hlm h3⟩, (by omega)⟩
    · replace h2 := of_decide_eq_false h2
      refine pwp_exit <| pwp_seq <| kx [(4, (vb true))] [] (zM <| zZ) ?_
      refine pwp_ret ⟨_, (.tmp (d := (.val (.bool (true)))) rfl .nil), ?_⟩
      rw [py_eq_end hv (by omega) hlm]; rfl
theorem p_rchk (w h mx : Int) (px : List Int) (hb : px.length ≤ 1000000) : Takes Tryz.prog 10 [(encRst (RRst.mk w h mx px))] (.val (.int .i64 ((chkC w h mx px)))) := by
  refine fn_intro Tryz.func10 rfl cb10 rfl ?_
  show PWp _ _ _ _ ⟨[(0, (.d (encRst (RRst.mk w h mx px))))], []⟩
  refine pwp_seq <| kx [(1, (.ref 0 0))] [(0, some (bx (encRst (RRst.mk w h mx px))))] (zN (oBx 0) <| zM <| zZ) ?_
  refine pwp_seq <| pwp_seq <| kx [(42, (vb ((((((decide (w < 1) || decide (64 < w)) || decide (h < 1)) || decide (64 < h)) || decide (mx < 1)) || decide (65535 < mx)) || (((px.length : Nat) : Int) != (w * h)))))] [] ?_ ?_
  · refine zE (oFr fo24_0) <| zR (oL1 sh3) <| zE oLt <| zE (oV (vb (decide (w < 1))) (mv_ok (by kernel_rfl))) <| ?_
    rcases hb1 : (decide (w < 1)) with _ | _
    · replace hb1 := of_decide_eq_false hb1
      refine zE (oFr fo24_0) <| zR (oL1 sh3) <| zE oGt <| zE oPo <| zE (oV (vb (false || decide (64 < w))) (mv_ok (by kernel_rfl))) <| ?_
      rcases hb2 : (false || decide (64 < w)) with _ | _
      · replace hb2 := of_decide_eq_false (p := (64 < w)) hb2
        refine zE (oFr fo24_1) <| zR (oL1 sh3) <| zE oLt <| zE oPo <| zE (oV (vb (false || decide (h < 1))) (mv_ok (by kernel_rfl))) <| ?_
        rcases hb3 : (false || decide (h < 1)) with _ | _
        · replace hb3 := of_decide_eq_false (p := (h < 1)) hb3
          refine zE (oFr fo24_1) <| zR (oL1 sh3) <| zE oGt <| zE oPo <| zE (oV (vb (false || decide (64 < h))) (mv_ok (by kernel_rfl))) <| ?_
          rcases hb4 : (false || decide (64 < h)) with _ | _
          · replace hb4 := of_decide_eq_false (p := (64 < h)) hb4
            refine zE (oFr fo24_2) <| zR (oL1 sh3) <| zE oLt <| zE oPo <| zE (oV (vb (false || decide (mx < 1))) (mv_ok (by kernel_rfl))) <| ?_
            rcases hb5 : (false || decide (mx < 1)) with _ | _
            · replace hb5 := of_decide_eq_false (p := (mx < 1)) hb5
              refine zE (oFr fo24_2) <| zR (oL1 sh3) <| zE oGt <| zE oPo <| zE (oV (vb (false || decide (65535 < mx))) (mv_ok (by kernel_rfl))) <| ?_
              rcases hb6 : (false || decide (65535 < mx)) with _ | _
              · replace hb6 := of_decide_eq_false (p := (65535 < mx)) hb6
                exact zE (oFr fo24_3) <| zR (oL1 sh22) <| zE (oLm el22 (L := px)) <| zE (oFr fo24_0) <| zR (oL1 sh3) <| zE (oFr fo24_1) <| zR (oL1 sh3) <| zE (zMl (w * h) (hr := by exact (wAny rfl (by have hq := wh_bd (w := w) (h := h) (by omega) (by omega) (by omega) (by omega); simp only [kLo]; omega) (by have hq := wh_bd (w := w) (h := h) (by omega) (by omega) (by omega) (by omega); simp only [kHi]; omega)))) <| zE oNe <| zE oPo <| zZ
              · replace hb6 := of_decide_eq_true (p := (65535 < mx)) hb6
                exact zK <| zK <| zK <| zK <| zK <| zK <| zK <| zK <| zK <| zE oPt <| zZ
            · replace hb5 := of_decide_eq_true (p := (mx < 1)) hb5
              exact zK <| zK <| zK <| zE oPt <| zM <| zK <| zK <| zK <| zK <| zK <| zK <| zK <| zK <| zK <| zE oPt <| zZ
          · replace hb4 := of_decide_eq_true (p := (64 < h)) hb4
            exact zK <| zK <| zK <| zE oPt <| zM <| zK <| zK <| zK <| zE oPt <| zM <| zK <| zK <| zK <| zK <| zK <| zK <| zK <| zK <| zK <| zE oPt <| zZ
        · replace hb3 := of_decide_eq_true (p := (h < 1)) hb3
          exact zK <| zK <| zK <| zE oPt <| zM <| zK <| zK <| zK <| zE oPt <| zM <| zK <| zK <| zK <| zE oPt <| zM <| zK <| zK <| zK <| zK <| zK <| zK <| zK <| zK <| zK <| zE oPt <| zZ
      · replace hb2 := of_decide_eq_true (p := (64 < w)) hb2
        exact zK <| zK <| zK <| zE oPt <| zM <| zK <| zK <| zK <| zE oPt <| zM <| zK <| zK <| zK <| zE oPt <| zM <| zK <| zK <| zK <| zE oPt <| zM <| zK <| zK <| zK <| zK <| zK <| zK <| zK <| zK <| zK <| zE oPt <| zZ
    · replace hb1 := of_decide_eq_true hb1
      exact zK <| zK <| zK <| zE oPt <| zM <| zK <| zK <| zK <| zE oPt <| zM <| zK <| zK <| zK <| zE oPt <| zM <| zK <| zK <| zK <| zE oPt <| zM <| zK <| zK <| zK <| zE oPt <| zM <| zK <| zK <| zK <| zK <| zK <| zK <| zK <| zK <| zK <| zE oPt <| zZ
  refine pwp_cond rfl (fun h7 => ?_) (fun h7 => ?_)
  · refine pwp_seq <| kx [(2, (vin 1))] [] (zM <| zZ) ?_
    refine pwp_ret ⟨_, (.tmp (d := (.val (.int .i64 (1)))) rfl .nil), ?_⟩
    rw [chk_1 ((chkB2_eq w h mx px).symm.trans h7)]; rfl
  · refine pwp_skip <| pwp_seq <| pwp_seq <| kx [(3, (vin 0))] [] (zM <| zZ) ?_
    refine pwp_block <| pwp_loop (α := Nat) (fun k => ⟨[(1, (.ref 0 0)), (3, (vin k))], [(0, some (bx (encRst (RRst.mk w h mx px))))]⟩) (fun k => k ≤ px.length ∧ (px.take k).any (badPx mx) = false) (fun k => px.length - k) 0 wk ⟨Nat.zero_le _, rfl⟩ ?_
    rintro k ⟨hk, hv⟩
    refine pwp_seq <| pwp_seq <| kx [(47, (vb (decide (((k : Nat) : Int) < ((px.length : Nat) : Int)))))] [] (zM <| zE (oFr fo24_3) <| zR (oL1 sh22) <| zE (oLm el22 (L := px)) <| zE oLt <| zZ) ?_
    refine pwp_cond rfl (fun h8 => ?_) (fun h8 => ?_)
    · replace h8 := of_decide_eq_true h8
      refine pwp_skip <| pwp_seq <| pwp_block <| pwp_seq <| kd [(65, (vb (decide ((px.getD k 0) < 0) || decide (mx < (px.getD k 0)))))] [] mo ?_ ?_
      · refine wE (oFr fo24_3) <| wR (oL1 sh22) <| wM <| wE (oXl el22 k (0 : Int) (L := px)) <| wE (oC1 sh3) <| wE oLt <| wE (oV (vb (decide ((px.getD k 0) < 0))) (mv_ok (by kernel_rfl))) <| ?_
        rcases hb9 : (decide ((px.getD k 0) < 0)) with _ | _
        · replace hb9 := of_decide_eq_false hb9
          exact wE (oFr fo24_3) <| wR (oL1 sh22) <| wM <| wE (oXl el22 k (0 : Int) (L := px)) <| wE (oC1 sh3) <| wE (oFr fo24_2) <| wR (oL1 sh3) <| wE oGt <| wE oPo <| wZ
        · replace hb9 := of_decide_eq_true hb9
          exact wK <| wK <| wK <| wK <| wK <| wK <| wK <| wK <| wE oPt <| wZ
      refine pwp_cond rfl (fun h10 => ?_) (fun h10 => ?_)
      · refine pwp_seq <| kx [(2, (vin 1))] [] (zM <| zZ) ?_
        refine pwp_ret ⟨_, (.tmp (d := (.val (.int .i64 (1)))) rfl .nil), ?_⟩
        rw [chk_2 (py_any_at (f := badPx mx) (k := k) (by omega) h10)]; rfl
      · refine pwp_skip <| kx [(3, (vin (k + 1)))] [] (zM <| zE (oAd (k + 1)) <| zM <| zZ) ?_
        exact ⟨(k + 1), wk, ⟨by omega, py_any_step hv (by omega) h10⟩, (by omega)⟩
    · replace h8 := of_decide_eq_false h8
      refine pwp_exit <| pwp_seq <| kx [(2, (vin 0))] [] (zM <| zZ) ?_
      refine pwp_ret ⟨_, (.tmp (d := (.val (.int .i64 (0)))) rfl .nil), ?_⟩
      rw [chk_3 ((chkB2_eq w h mx px).symm.trans h7) (py_any_end hv (by omega))]; rfl
theorem p_few (w h mx : Int) (px : List Int) : Takes Tryz.prog 8 [(encRst (RRst.mk w h mx px))] (.val (.bool ((decide (((px.length : Nat) : Int) ≤ 300))))) := by
  refine fn_intro Tryz.func8 rfl cb8 rfl ?_
  show PWp _ _ _ _ ⟨[(0, (.d (encRst (RRst.mk w h mx px))))], []⟩
  refine pwp_seq <| kx [(1, (.ref 0 0))] [(0, some (bx (encRst (RRst.mk w h mx px))))] (zN (oBx 0) <| zM <| zZ) ?_
  refine pwp_seq <| kx [(2, (vb (decide (((px.length : Nat) : Int) ≤ 300))))] [] (zE (oFr fo24_3) <| zR (oL1 sh22) <| zE (oLm el22) <| zE oLe <| zM <| zZ) ?_
  refine pwp_ret ⟨_, (.tmp (d := (.val (.bool (decide (((px.length : Nat) : Int) ≤ 300))))) rfl .nil), ?_⟩
  rfl
end Go.Proofs.YtleidgohjckmlaaGreat
namespace Go.Proofs.YtleidgohjckmlaaGreat
open Go.Fid
set_option maxRecDepth 4000
set_option linter.unusedVariables false
set_option linter.unusedSimpArgs false
theorem cb28 : callB Tryz.prog 28 = true := by kernel_rfl
theorem cb29 : callB Tryz.prog 29 = true := by kernel_rfl
theorem cb30 : callB Tryz.prog 30 = true := by kernel_rfl
theorem cb31 : callB Tryz.prog 31 = true := by kernel_rfl
theorem cb50 : callB Tryz.prog 50 = true := by kernel_rfl
theorem el58 : elemB Tryz.prog 58 = some (22, 1) := by kernel_rfl
theorem p_lsplit (l : List Int) (hl : Bd 1099511627776 l) (hb : l.length ≤ 1000000) : Takes Tryz.prog 50 [(.sl 3 1 (List.map enc_i64 l))] (.tup [(.sl 3 1 (List.map enc_i64 (loS l))), (.sl 3 1 (List.map enc_i64 (hiS l)))]) := by
  refine fn_intro Tryz.func50 rfl cb50 rfl ?_
  show PWp _ _ _ _ ⟨[(0, (vl 3 1 enc_i64 l))], []⟩
  refine pwp_seq <| kx [(2, (.own 0 3 1 0)), (3, (.own 1 3 1 0))] [(0, some (bm enc_i64 [])), (1, some (bm enc_i64 []))] (zO 0 3 1 <| zO 1 3 1 <| zZ) ?_
  refine pwp_seq <| pwp_seq <| kx [(4, (vin 0))] [] (zM <| zZ) ?_
  refine pwp_block <| pwp_loop (α := Nat × List Int × List Int) (fun (i, lo, hi) => ⟨[(0, (vl 3 1 enc_i64 l)), (2, (.own 0 3 1 lo.length)), (3, (.own 1 3 1 hi.length)), (4, (vin i))], [(0, some (bm enc_i64 lo)), (1, some (bm enc_i64 hi))]⟩) (fun (i, lo, hi) => i ≤ l.length ∧ i % 2 = 0 ∧ lo = loS (l.take i) ∧ hi = hiS (l.take i)) (fun (i, lo, hi) => l.length - i) (0, [], []) wk ⟨Nat.zero_le _, rfl, by simp [loS], by simp [hiS]⟩ ?_
  rintro ⟨i, lo, hi⟩ ⟨hi_, he, hlo, hhi⟩
  have h0_ := hl.get (by decide) i
  have h1_ := hl.get (by decide) (i + 1)
  have hll : lo.length ≤ 1000000 := by rw [hlo, loS_len, List.length_take]; omega
  have hhl : hi.length ≤ 1000000 := by rw [hhi, hiS_len, List.length_take]; omega
  refine pwp_seq <| pwp_seq <| kx [(9, (vb (decide ((((i + 1) : Nat) : Int) < ((l.length : Nat) : Int)))))] [] (zM <| zE (oAd (i + 1)) <| zM <| zE (oLm el22) <| zE oLt <| zZ) ?_
  refine pwp_cond rfl (fun h1 => ?_) (fun h1 => ?_)
  · replace h1 := of_decide_eq_true h1
    refine pwp_skip <| pwp_seq <| pwp_block <| kd [(2, (.own 2 3 1 ((lo ++ [(((l.getD i 0) + (l.getD (i + 1) 0)).fdiv 2)]).length))), (3, (.own 3 3 1 ((hi ++ [((l.getD i 0) - (l.getD (i + 1) 0))]).length)))] [(2, some (bm enc_i64 (lo ++ [(((l.getD i 0) + (l.getD (i + 1) 0)).fdiv 2)]))), (3, some (bm enc_i64 (hi ++ [((l.getD i 0) - (l.getD (i + 1) 0))]))), (0, none), (1, none)] mo (wM <| wM <| wM <| wE (oXl el22 i (0 : Int)) <| wE (oC1 sh3) <| wM <| wM <| wE (oAd (i + 1)) <| wE (oXl el22 (i + 1) (0 : Int)) <| wE (oC1 sh3) <| wE (zAd ((l.getD i 0) + (l.getD (i + 1) 0))) <| wE (oCl (p_floor ((l.getD i 0) + (l.getD (i + 1) 0)) (by omega) (by omega))) <| wE (oBs el22 ze3 zo3) <| wA (k := 0) 2 enc_i64 lo [(((l.getD i 0) + (l.getD (i + 1) 0)).fdiv 2)] rfl el22 ze3 by3 <| wM <| wM <| wM <| wE (oXl el22 i (0 : Int)) <| wE (oC1 sh3) <| wM <| wM <| wE (oAd (i + 1)) <| wE (oXl el22 (i + 1) (0 : Int)) <| wE (oC1 sh3) <| wE (zSb ((l.getD i 0) - (l.getD (i + 1) 0))) <| wE (oBs el22 ze3 zo3) <| wA (k := 1) 3 enc_i64 hi [((l.getD i 0) - (l.getD (i + 1) 0))] rfl el22 ze3 by3 <| wM <| wM <| wZ) ?_
    refine pwp_sim (sim_ren (S' := [(0, (vl 3 1 enc_i64 l)), (2, (.own 0 3 1 ((lo ++ [(((l.getD i 0) + (l.getD (i + 1) 0)).fdiv 2)]).length))), (3, (.own 3 3 1 ((hi ++ [((l.getD i 0) - (l.getD (i + 1) 0))]).length))), (4, (vin i))]) (B' := [(0, some (bm enc_i64 (lo ++ [(((l.getD i 0) + (l.getD (i + 1) 0)).fdiv 2)]))), (3, some (bm enc_i64 (hi ++ [((l.getD i 0) - (l.getD (i + 1) 0))])))]) 0 2) ?_
    refine pwp_sim (sim_ren (S' := [(0, (vl 3 1 enc_i64 l)), (2, (.own 0 3 1 ((lo ++ [(((l.getD i 0) + (l.getD (i + 1) 0)).fdiv 2)]).length))), (3, (.own 1 3 1 ((hi ++ [((l.getD i 0) - (l.getD (i + 1) 0))]).length))), (4, (vin i))]) (B' := [(0, some (bm enc_i64 (lo ++ [(((l.getD i 0) + (l.getD (i + 1) 0)).fdiv 2)]))), (1, some (bm enc_i64 (hi ++ [((l.getD i 0) - (l.getD (i + 1) 0))])))]) 1 3) ?_
    refine kx [(4, (vin (i + 2)))] [] (zM <| zE (oAd (i + 2)) <| zM <| zZ) ?_
    exact ⟨(i + 2, lo ++ [((l.getD i 0 + l.getD (i + 1) 0).fdiv 2)], hi ++ [(l.getD i 0 - l.getD (i + 1) 0)]), wk, (by obtain ⟨q1, q2⟩ := pysplit_step hlo hhi he (by omega); exact ⟨by omega, by omega, q1, q2⟩), (by first | omega | (dsimp only; omega))⟩
  · replace h1 := of_decide_eq_false h1
    have hil : i = l.length ∨ i + 1 = l.length := by omega
    refine pwp_exit <| pwp_seq <| pwp_seq <| kx [(42, (vb ((((l.length % 2) : Nat) : Int) == 1)))] [] (zM <| zE (oLm el22) <| zE (oRe (l.length % 2)) <| zE oEq <| zZ) ?_
    refine pwp_cond (b := ((((l.length % 2) : Nat) : Int) == 1)) rfl (fun h2 => ?_) (fun h2 => ?_)
    · replace h2 := eq_of_beq h2
      have hil1 : i + 1 = l.length := by omega
      have hil2 : l.length - 1 = i := by omega
      refine kf [(2, (.own 0 3 1 ((lo ++ [(l.getD (l.length - 1) 0)]).length)))] [(0, some (bm enc_i64 (lo ++ [(l.getD (l.length - 1) 0)])))] (zM <| zM <| zM <| zE (oLm el22) <| zE (oSb (l.length - 1)) <| zE (oXl el22 (l.length - 1) (0 : Int)) <| zE (oC1 sh3) <| zE (oBs el22 ze3 zo3) <| zA enc_i64 lo [(l.getD (l.length - 1) 0)] rfl el22 ze3 by3 <| zM <| zF) ?_
      refine pwp_seq <| kx [(2, (.own 0 3 1 ((lo ++ [(l.getD (l.length - 1) 0)]).length))), (3, (.own 1 3 1 hi.length))] [] (zM <| zM <| zM <| zM <| zZ) ?_
      refine pwp_sim (publish (t := 2) (k := 0) (es := List.map enc_i64 (lo ++ [(l.getD (l.length - 1) 0)])) rfl rfl (pub_cells _ _ (fun _ => rfl)) (map_len _ _ rfl) (pub_take _ _ (fun _ => rfl) rfl)) ?_
      refine pwp_sim (publish (t := 3) (k := 1) (es := List.map enc_i64 hi) rfl rfl (pub_cells _ _ (fun _ => rfl)) (map_len _ _ rfl) (pub_take _ _ (fun _ => rfl) rfl)) ?_
      refine pwp_ret ⟨_, (.tmp (d := (.sl 3 1 (List.map enc_i64 (lo ++ [(l.getD (l.length - 1) 0)])))) rfl (.tmp (d := (.sl 3 1 (List.map enc_i64 hi))) rfl .nil)), ?_⟩
      obtain ⟨q1, q2⟩ := pysplit_odd hlo hhi he hil1
      rw [← q1, ← q2, hil2]; rfl
    · replace h2 := ne_of_beq_false h2
      have hil1 : i = l.length := by omega
      refine pwp_skip <| pwp_seq <| kx [(2, (.own 0 3 1 lo.length)), (3, (.own 1 3 1 hi.length))] [] (zM <| zM <| zM <| zM <| zZ) ?_
      refine pwp_sim (publish (t := 2) (k := 0) (es := List.map enc_i64 lo) rfl rfl (pub_cells _ _ (fun _ => rfl)) (map_len _ _ rfl) (pub_take _ _ (fun _ => rfl) rfl)) ?_
      refine pwp_sim (publish (t := 3) (k := 1) (es := List.map enc_i64 hi) rfl rfl (pub_cells _ _ (fun _ => rfl)) (map_len _ _ rfl) (pub_take _ _ (fun _ => rfl) rfl)) ?_
      refine pwp_ret ⟨_, (.tmp (d := (.sl 3 1 (List.map enc_i64 lo))) rfl (.tmp (d := (.sl 3 1 (List.map enc_i64 hi))) rfl .nil)), ?_⟩
      rw [hlo, hhi, hil1, List.take_length]; rfl
theorem p_lrows (l : List Int) (w : Nat) (h : Nat) (hw : 0 < w) (hw2 : w ≤ 1000000) (hlw : l.length = w * h) (hb : l.length ≤ 1000000) : Takes Tryz.prog 28 [(.sl 3 1 (List.map enc_i64 l)), (.val (.int .i64 (((w : Nat) : Int))))] (.sl 22 1 (List.map enc_sl_22 (rowsOf w h l))) := by
  refine fn_intro Tryz.func28 rfl cb28 rfl ?_
  show PWp _ _ _ _ ⟨[(0, (vl 3 1 enc_i64 l)), (1, (vin w))], []⟩
  refine pwp_seq <| kx [] [] (zE (oNl 22 1) <| zZ) ?_
  refine pwp_seq <| kx [(5, (.own 0 22 1 0))] [(0, some (bm enc_sl_22 []))] (zO 0 22 1 <| zZ) ?_
  refine pwp_seq <| pwp_seq <| kx [(6, (vin 0))] [] (zM <| zZ) ?_
  refine pwp_block <| pwp_loop (α := Nat × Nat × List (List Int)) (fun (i, y, out) => ⟨[(0, (vl 3 1 enc_i64 l)), (1, (vin w)), (5, (.own 0 22 1 out.length)), (6, (vin i))], [(0, some (bm enc_sl_22 out))]⟩) (fun (i, y, out) => y ≤ h ∧ i = y * w ∧ out = rowsOf w y l) (fun (i, y, out) => l.length - i) (0, 0, []) wk ⟨Nat.zero_le _, by simp, rfl⟩ ?_
  rintro ⟨i, y, out⟩ ⟨hy, hiy, ho⟩
  have hh := rows_h hw hlw hb
  have hil : i ≤ l.length := by rw [hiy, hlw, Nat.mul_comm w h]; exact Nat.mul_le_mul_right w hy
  have hll : out.length ≤ 1000000 := by rw [ho, rowsOf_len]; omega
  refine pwp_seq <| pwp_seq <| kx [(16, (vb (true && decide ((((i + w) : Nat) : Int) ≤ ((l.length : Nat) : Int)))))] [] (zM <| zE (oBk true oGt (by exact decide_eq_true (by omega))) <| zM <| zM <| zM <| zE (oAd (i + w)) <| zM <| zE (oLm el22) <| zE oLe <| zE oPa <| zZ) ?_
  refine pwp_cond rfl (fun h1 => ?_) (fun h1 => ?_)
  · replace h1 := of_decide_eq_true (p := ((((i + w) : Nat) : Int) ≤ ((l.length : Nat) : Int))) h1
    obtain ⟨hy1, hiw⟩ := rows_lt hiy hlw (by omega)
    refine pwp_skip <| pwp_seq <| pwp_block <| kf [(5, (.own 0 22 1 ((out ++ [(List.drop i (List.take (i + w) l))]).length)))] [(0, some (bm enc_sl_22 (out ++ [(List.drop i (List.take (i + w) l))])))] (zM <| zM <| zM <| zM <| zM <| zE (oAd (i + w)) <| zE (e_slc (l := i) (h := (i + w)) (kl := .i64) (kh := .i64) (es' := List.map enc_i64 (List.drop i (List.take (i + w) l))) (by exact rfl) el22 (by exact rfl) (by exact rfl) (by exact rfl) (by omega) (by simp only [List.length_map]; omega) (by rw [List.map_drop, List.map_take])) <| zE (oBs el58 ze22 zo22) <| zA enc_sl_22 out [(List.drop i (List.take (i + w) l))] rfl el58 ze22 by22 <| zM <| zF) ?_
    refine kx [(6, (vin (i + w)))] [] (zM <| zM <| zE (oAd (i + w)) <| zM <| zZ) ?_
    exact ⟨(i + w, y + 1, out ++ [List.drop i (List.take (i + w) l)]), wk, ⟨hy1, by rw [hiy, Nat.add_mul, Nat.one_mul], rows_step hiy ho⟩, (by first | omega | (dsimp only; omega))⟩
  · replace h1 := of_decide_eq_false (p := ((((i + w) : Nat) : Int) ≤ ((l.length : Nat) : Int))) h1
    have hye : y = h := rows_end2 hw hy hiy hlw (by omega)
    refine pwp_exit <| pwp_seq <| kx [(4, (.own 0 22 1 out.length))] [] (zM <| zM <| zZ) ?_
    refine pwp_sim (publish (t := 4) (k := 0) (es := List.map enc_sl_22 out) rfl rfl (pub_cells _ _ (fun _ => rfl)) (map_len _ _ rfl) (pub_take _ _ (fun _ => rfl) rfl)) ?_
    refine pwp_ret ⟨_, (.tmp (d := (.sl 22 1 (List.map enc_sl_22 out))) rfl .nil), ?_⟩
    rw [ho, hye]; rfl
theorem p_halv (T : List (List Int)) (w : Nat) (hT : TabOk 137438953472 w T) : Takes Tryz.prog 29 [(.sl 22 1 (List.map enc_sl_22 T))] (.tup [(.sl 22 1 (List.map enc_sl_22 (T.map loS))), (.sl 22 1 (List.map enc_sl_22 (hvB T)))]) := by
  have hTl := tab_len hT
  refine fn_intro Tryz.func29 rfl cb29 rfl ?_
  show PWp _ _ _ _ ⟨[(0, (vl 22 1 enc_sl_22 T))], []⟩
  refine pwp_seq <| kx [(2, (.own 0 22 1 0)), (3, (.own 1 22 1 0))] [(0, some (bm enc_sl_22 [])), (1, some (bm enc_sl_22 []))] (zO 0 22 1 <| zO 1 22 1 <| zZ) ?_
  refine pwp_seq <| pwp_seq <| kx [(8, (vl 22 1 enc_sl_22 T)), (9, (vin T.length)), (10, (vin 0))] [] (zM <| zE (oLm el58) <| zM <| zZ) ?_
  refine pwp_block <| pwp_loop (α := Nat × List (List Int) × List (List Int)) (fun (k, a, b) => ⟨[(2, (.own 0 22 1 a.length)), (3, (.own 1 22 1 b.length)), (8, (vl 22 1 enc_sl_22 T)), (9, (vin T.length)), (10, (vin k))], [(0, some (bm enc_sl_22 a)), (1, some (bm enc_sl_22 b))]⟩) (fun (k, a, b) => k ≤ T.length ∧ a = (T.take k).map loS ∧ b = hvB (T.take k)) (fun (k, a, b) => T.length - k) (0, [], []) wk ⟨Nat.zero_le _, rfl, rfl⟩ ?_
  rintro ⟨k, a, b⟩ ⟨hk, ha, hb⟩
  have hla := map_lenle loS ha hTl
  have hlb : b.length ≤ 1000 := by rw [hb]; exact Nat.le_trans (hv_len _) (by rw [List.length_take]; omega)
  have hg := tab_get hT k
  refine pwp_seq <| kx [(11, (vb (decide (((k : Nat) : Int) < ((T.length : Nat) : Int)))))] [] (zE oLt <| zZ) ?_
  refine pwp_seq <| pwp_cond rfl (fun h1 => ?_) (fun h1 => ?_)
  · replace h1 := of_decide_eq_true h1
    refine pwp_skip <| pwp_seq <| pwp_block <| pwp_seq <| kx [(5, (vl 3 1 enc_i64 (T.getD k [])))] [] (zE (oXl el58 k ([] : List (Int))) <| zE (oC1 sh22) <| zM <| zZ) ?_
    refine pwp_seq <| kx [(6, (vl 3 1 enc_i64 (loS (T.getD k [])))), (7, (vl 3 1 enc_i64 (hiS (T.getD k []))))] [] (zM <| zE (oCl (p_lsplit (T.getD k []) (hg.1.up (by decide)) (Nat.le_trans hg.2 (by decide)))) <| zM <| zE oEx <| zE oEx <| zM <| zM <| zZ) ?_
    refine pwp_seq <| kf [(2, (.own 0 22 1 ((a ++ [(loS (T.getD k []))]).length)))] [(0, some (bm enc_sl_22 (a ++ [(loS (T.getD k []))])))] (zM <| zM <| zE (oBs el58 ze22 zo22) <| zA enc_sl_22 a [(loS (T.getD k []))] rfl el58 ze22 by22 <| zM <| zF) ?_
    refine pwp_seq <| kx [(25, (vb (decide (0 < (((hiS (T.getD k [])).length : Nat) : Int)))))] [] (zM <| zE (oLm el22 (L := (hiS (T.getD k [])))) <| zE oGt <| zZ) ?_
    refine pwp_cond rfl (fun h2 => ?_) (fun h2 => ?_)
    · replace h2 := of_decide_eq_true h2
      refine kf [(3, (.own 1 22 1 ((b ++ [(hiS (T.getD k []))]).length)))] [(1, some (bm enc_sl_22 (b ++ [(hiS (T.getD k []))])))] (zM <| zM <| zE (oBs el58 ze22 zo22) <| zA enc_sl_22 b [(hiS (T.getD k []))] rfl el58 ze22 by22 <| zM <| zF) ?_
      refine kx [(10, (vin (k + 1)))] [] (zE (oAd (k + 1)) <| zM <| zZ) ?_
      exact ⟨(k + 1, a ++ [loS (T.getD k [])], b ++ [hiS (T.getD k [])]), wk, ⟨by omega, map_step loS [] ha (by omega), hv_t hb (by omega) (by omega)⟩, (by first | omega | (dsimp only; omega))⟩
    · replace h2 := of_decide_eq_false h2
      refine pwp_skip <| kx [(10, (vin (k + 1)))] [] (zE (oAd (k + 1)) <| zM <| zZ) ?_
      exact ⟨(k + 1, a ++ [loS (T.getD k [])], b), wk, ⟨by omega, map_step loS [] ha (by omega), hv_f hb (by omega) (by omega)⟩, (by first | omega | (dsimp only; omega))⟩
  · replace h1 := of_decide_eq_false h1
    refine pwp_exit <| pwp_seq <| kx [(2, (.own 0 22 1 a.length)), (3, (.own 1 22 1 b.length))] [] (zM <| zM <| zM <| zM <| zZ) ?_
    refine pwp_sim (publish (t := 2) (k := 0) (es := List.map enc_sl_22 a) rfl rfl (pub_cells _ _ (fun _ => rfl)) (map_len _ _ rfl) (pub_take _ _ (fun _ => rfl) rfl)) ?_
    refine pwp_sim (publish (t := 3) (k := 1) (es := List.map enc_sl_22 b) rfl rfl (pub_cells _ _ (fun _ => rfl)) (map_len _ _ rfl) (pub_take _ _ (fun _ => rfl) rfl)) ?_
    refine pwp_ret ⟨_, (.tmp (d := (.sl 22 1 (List.map enc_sl_22 a))) rfl (.tmp (d := (.sl 22 1 (List.map enc_sl_22 b))) rfl .nil)), ?_⟩
    rw [map_end loS ha (by omega), hb, List.take_of_length_le (by omega)]; rfl
theorem p_ltr (T : List (List Int)) (w : Nat) (hT : TabOk 137438953472 w T) : Takes Tryz.prog 30 [(.sl 22 1 (List.map enc_sl_22 T))] (.sl 22 1 (List.map enc_sl_22 (trP T))) := by
  have hTl := tab_len hT
  have hTw := hT.2.1
  have hr0 := fun y (hy : y < T.length) => rect_get hT.1 hy
  refine fn_intro Tryz.func30 rfl cb30 rfl ?_
  show PWp _ _ _ _ ⟨[(0, (vl 22 1 enc_sl_22 T))], []⟩
  refine pwp_seq <| kx [] [] (zE (oNl 22 1) <| zZ) ?_
  refine pwp_seq <| kx [(3, (.own 0 22 1 0))] [(0, some (bm enc_sl_22 []))] (zO 0 22 1 <| zZ) ?_
  refine pwp_seq <| pwp_seq <| kx [(9, (vb (((T.length : Nat) : Int) == 0)))] [] (zM <| zE (oLm el58) <| zE oEq <| zZ) ?_
  refine pwp_cond (b := (((T.length : Nat) : Int) == 0)) rfl (fun h1 => ?_) (fun h1 => ?_)
  · replace h1 := eq_of_beq h1
    refine pwp_seq <| kx [(2, (vl 22 1 enc_sl_22 []))] [] (zE (oNl 22 1) <| zZ) ?_
    refine pwp_ret ⟨_, (.tmp (d := (.sl 22 1 (List.map enc_sl_22 []))) rfl .nil), ?_⟩
    rw [List.eq_nil_of_length_eq_zero (show T.length = 0 by omega)]; rfl
  · replace h1 := ne_of_beq_false h1
    have hT0 : 0 < T.length := by omega
    have hw0 := hr0 0 hT0
    refine pwp_skip <| pwp_seq <| pwp_seq <| kx [(13, (vin ((T.getD 0 []).length))), (14, (vin 0))] [] (zM <| zE (oXl el58 0 ([] : List (Int))) <| zE (oC1 sh22) <| zE (oLm el22 (L := (T.getD 0 []))) <| zM <| zZ) ?_
    refine pwp_block <| pwp_loop (α := Nat × List (List Int)) (fun (x, out) => ⟨[(0, (vl 22 1 enc_sl_22 T)), (3, (.own 0 22 1 out.length)), (13, (vin ((T.getD 0 []).length))), (14, (vin x))], [(0, some (bm enc_sl_22 out))]⟩) (fun (x, out) => x ≤ w ∧ out = (List.range x).map fun j => T.map fun r => r.getD j 0) (fun (x, out) => w - x) (0, []) wk ⟨Nat.zero_le _, rfl⟩ ?_
    rintro ⟨x, out⟩ ⟨hx, ho⟩
    have hol : out.length ≤ 1000 := by rw [ho, List.length_map, List.length_range]; omega
    refine pwp_seq <| kx [(15, (vb (decide (((x : Nat) : Int) < (((T.getD 0 []).length : Nat) : Int)))))] [] (zE oLt <| zZ) ?_
    refine pwp_seq <| pwp_cond rfl (fun h2 => ?_) (fun h2 => ?_)
    · replace h2 := of_decide_eq_true h2
      have hxw : x < w := by omega
      refine pwp_skip <| pwp_seq <| pwp_block <| pwp_seq <| kx [(4, (vin x))] [] (zM <| zM <| zZ) ?_
      refine pwp_seq <| kx [(5, (.own 1 3 1 0))] [(1, some (bm enc_i64 []))] (zOh 1 3 1 <| zZ) ?_
      refine pwp_seq <| pwp_seq <| kx [(18, (vin T.length)), (19, (vin 0))] [] (zM <| zE (oLm el58) <| zM <| zZ) ?_
      refine pwp_block <| pwp_loop (α := Nat × List Int) (fun (y, row) => ⟨[(0, (vl 22 1 enc_sl_22 T)), (3, (.own 0 22 1 out.length)), (4, (vin x)), (5, (.own 1 3 1 row.length)), (13, (vin ((T.getD 0 []).length))), (14, (vin x)), (18, (vin T.length)), (19, (vin y))], [(0, some (bm enc_sl_22 out)), (1, some (bm enc_i64 row))]⟩) (fun (y, row) => y ≤ T.length ∧ row = (T.take y).map fun r => r.getD x 0) (fun (y, row) => T.length - y) (0, []) wk ⟨Nat.zero_le _, rfl⟩ ?_
      rintro ⟨y, row⟩ ⟨hy, hrow⟩
      have hrl : row.length ≤ 1000 := by rw [hrow, List.length_map, List.length_take]; omega
      refine pwp_seq <| kx [(20, (vb (decide (((y : Nat) : Int) < ((T.length : Nat) : Int)))))] [] (zE oLt <| zZ) ?_
      refine pwp_seq <| pwp_cond rfl (fun h3 => ?_) (fun h3 => ?_)
      · replace h3 := of_decide_eq_true h3
        have hyw := hr0 y (by omega)
        refine pwp_skip <| pwp_seq <| pwp_block <| pwp_seq <| kx [(6, (vin y))] [] (zM <| zM <| zZ) ?_
        refine kf [(5, (.own 1 3 1 ((row ++ [((T.getD y []).getD x 0)]).length)))] [(1, some (bm enc_i64 (row ++ [((T.getD y []).getD x 0)])))] (zM <| zM <| zM <| zE (oXl el58 y ([] : List (Int))) <| zE (oC1 sh22) <| zM <| zE (oXl el22 x (0 : Int) (L := (T.getD y []))) <| zE (oC1 sh3) <| zE (oBs el22 ze3 zo3) <| zA enc_i64 row [((T.getD y []).getD x 0)] rfl el22 ze3 by3 <| zM <| zF) ?_
        refine kx [(19, (vin (y + 1)))] [] (zE (oAd (y + 1)) <| zM <| zZ) ?_
        exact ⟨(y + 1, row ++ [((T.getD y []).getD x 0)]), wk, ⟨by omega, trc_row hrow (by omega)⟩, (by first | omega | (dsimp only; omega))⟩
      · replace h3 := of_decide_eq_false h3
        have hye : y = T.length := by omega
        refine pwp_exit <| pwp_sim (publish (t := 5) (k := 1) (es := List.map enc_i64 row) rfl rfl (pub_cells _ _ (fun _ => rfl)) (map_len _ _ rfl) (pub_take _ _ (fun _ => rfl) rfl)) ?_
        refine kf [(3, (.own 0 22 1 ((out ++ [row]).length)))] [(0, some (bm enc_sl_22 (out ++ [row])))] (zM <| zM <| zE (oBs el58 ze22 zo22) <| zA enc_sl_22 out [row] rfl el58 ze22 by22 <| zM <| zF) ?_
        refine kx [(14, (vin (x + 1)))] [] (zE (oAd (x + 1)) <| zM <| zZ) ?_
        exact ⟨(x + 1, out ++ [row]), wk, ⟨by omega, by rw [hrow, hye, List.take_length]; exact trc_step ho⟩, (by first | omega | (dsimp only; omega))⟩
    · replace h2 := of_decide_eq_false h2
      refine pwp_exit <| pwp_seq <| kx [(2, (.own 0 22 1 out.length))] [] (zM <| zM <| zZ) ?_
      refine pwp_sim (publish (t := 2) (k := 0) (es := List.map enc_sl_22 out) rfl rfl (pub_cells _ _ (fun _ => rfl)) (map_len _ _ rfl) (pub_take _ _ (fun _ => rfl) rfl)) ?_
      refine pwp_ret ⟨_, (.tmp (d := (.sl 22 1 (List.map enc_sl_22 out))) rfl .nil), ?_⟩
      rw [trc_end ho (by omega)]; rfl
theorem p_flat (T : List (List Int)) (hb : T.flatten.length ≤ 1000000) (hlb : T.length ≤ 1000000) : Takes Tryz.prog 31 [(.sl 22 1 (List.map enc_sl_22 T))] (.sl 3 1 (List.map enc_i64 T.flatten)) := by
  refine fn_intro Tryz.func31 rfl cb31 rfl ?_
  show PWp _ _ _ _ ⟨[(0, (vl 22 1 enc_sl_22 T))], []⟩
  refine pwp_seq <| kx [] [] (zE (oNl 3 1) <| zZ) ?_
  refine pwp_seq <| kx [(3, (.own 0 3 1 0))] [(0, some (bm enc_i64 []))] (zO 0 3 1 <| zZ) ?_
  refine pwp_seq <| pwp_seq <| kx [(6, (vl 22 1 enc_sl_22 T)), (7, (vin T.length)), (8, (vin 0))] [] (zM <| zE (oLm el58) <| zM <| zZ) ?_
  refine pwp_block <| pwp_loop (α := Nat × List Int) (fun (k, out) => ⟨[(3, (.own 0 3 1 out.length)), (6, (vl 22 1 enc_sl_22 T)), (7, (vin T.length)), (8, (vin k))], [(0, some (bm enc_i64 out))]⟩) (fun (k, out) => k ≤ T.length ∧ out = (T.take k).flatten) (fun (k, out) => T.length - k) (0, []) wk ⟨Nat.zero_le _, rfl⟩ ?_
  rintro ⟨k, out⟩ ⟨hk2, ho⟩
  have hol : out.length ≤ 1000000 := by rw [ho]; exact con_le hb
  have hrl := con_row (k := k) hb
  refine pwp_seq <| kx [(9, (vb (decide (((k : Nat) : Int) < ((T.length : Nat) : Int)))))] [] (zE oLt <| zZ) ?_
  refine pwp_seq <| pwp_cond rfl (fun h1 => ?_) (fun h1 => ?_)
  · replace h1 := of_decide_eq_true h1
    refine pwp_skip <| pwp_seq <| pwp_block <| pwp_seq <| kx [(5, (vl 3 1 enc_i64 (T.getD k [])))] [] (zE (oXl el58 k ([] : List (Int))) <| zE (oC1 sh22) <| zM <| zZ) ?_
    refine kf [(3, (.own 0 3 1 ((out ++ (T.getD k [])).length)))] [(0, some (bm enc_i64 (out ++ (T.getD k []))))] (zM <| zM <| zA enc_i64 out (T.getD k []) rfl el22 ze3 by3 <| zM <| zF) ?_
    refine kx [(8, (vin (k + 1)))] [] (zE (oAd (k + 1)) <| zM <| zZ) ?_
    exact ⟨(k + 1, out ++ T.getD k []), wk, ⟨by omega, by rw [ho]; exact con_step (by omega)⟩, (by first | omega | (dsimp only; omega))⟩
  · replace h1 := of_decide_eq_false h1
    refine pwp_exit <| pwp_seq <| kx [(2, (.own 0 3 1 out.length))] [] (zM <| zM <| zZ) ?_
    refine pwp_sim (publish (t := 2) (k := 0) (es := List.map enc_i64 out) rfl rfl (pub_cells _ _ (fun _ => rfl)) (map_len _ _ rfl) (pub_take _ _ (fun _ => rfl) rfl)) ?_
    refine pwp_ret ⟨_, (.tmp (d := (.sl 3 1 (List.map enc_i64 out))) rfl .nil), ?_⟩
    rw [ho, con_end (by omega)]; rfl
end Go.Proofs.YtleidgohjckmlaaGreat
