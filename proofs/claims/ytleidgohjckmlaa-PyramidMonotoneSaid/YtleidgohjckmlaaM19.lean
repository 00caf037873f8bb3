/- Part 19 of a proof: rules, plain facts, and functions walked. -/
import Derived.Test.YtleidgohjckmlaaM18
namespace Go.Proofs.Ytleidgohjckmlaa
open Go.Fid
set_option maxRecDepth 4000
set_option linter.unusedVariables false
set_option linter.unusedSimpArgs false
theorem cb19 : callB Try.prog 19 = true := by kernel_rfl
theorem cb26 : callB Try.prog 26 = true := by kernel_rfl
theorem cb32 : callB Try.prog 32 = true := by kernel_rfl
theorem fo24_0 : fieldB Try.prog 24 0 = some 0 := by kernel_rfl
theorem fo24_1 : fieldB Try.prog 24 1 = some 1 := by kernel_rfl
theorem fo24_3 : fieldB Try.prog 24 3 = some 3 := by kernel_rfl
theorem fo44_3 : fieldB Try.prog 44 3 = some 3 := by kernel_rfl
theorem fo44_4 : fieldB Try.prog 44 4 = some 4 := by kernel_rfl
theorem fo44_5 : fieldB Try.prog 44 5 = some 5 := by kernel_rfl
theorem fo44_6 : fieldB Try.prog 44 6 = some 6 := by kernel_rfl
theorem pl44 : placesB Try.prog 44 = some [(0, 1), (1, 1), (2, 1), (3, 1), (4, 1), (5, 1), (6, 1)] := by kernel_rfl
theorem sh24 : shapeB Try.prog 24 = some (true, 4) := by kernel_rfl
theorem sh44 : shapeB Try.prog 44 = some (true, 7) := by kernel_rfl
theorem ze44 : zeroB Try.prog 44 = some [.int .i64 0, .int .i64 0, .int .i64 0, .slice none 0 0, .slice none 0 0, .slice none 0 0, .slice none 0 0] := by kernel_rfl
theorem zo44 : ZOk [.int .i64 0, .int .i64 0, .int .i64 0, .slice none 0 0, .slice none 0 0, .slice none 0 0, .slice none 0 0] [.val (.int .i64 0), .val (.int .i64 0), .val (.int .i64 0), .sl 3 1 [], .sl 3 1 [], .sl 3 1 [], .sl 3 1 []] := by simp [ZOk, Value.oneCell']
theorem p_chk (w h mx : Int) (px : List Int) (hb : px.length ≤ 1000000) : Takes Try.prog 26 [(encRst (RRst.mk w h mx px))] (.val (.int .i64 ((chkC w h mx px)))) := by
  refine fn_intro Try.func26 rfl cb26 rfl ?_
  show PWp _ _ _ _ ⟨[(0, (.d (encRst (RRst.mk w h mx px))))], []⟩
  refine pwp_seq <| kx [(1, (.ref 0 0))] [(0, some (bx (encRst (RRst.mk w h mx px))))] (zN (oBx 0) <| zM <| zZ) ?_
  refine pwp_seq <| pwp_seq <| kx [(34, (vb (((decide ((min (min w h) mx) < 1) || decide (64 < (max w h))) || decide (65535 < mx)) || (((px.length : Nat) : Int) != (w * h)))))] [] ?_ ?_
  · refine zE (oFr fo24_0) <| zR (oL1 sh3) <| zE (oFr fo24_1) <| zR (oL1 sh3) <| zE (oFr fo24_2) <| zR (oL1 sh3) <| zE (oN3 (min (min w h) mx) (hr := by exact rfl)) <| zE oLt <| zE (oV (vb (decide ((min (min w h) mx) < 1))) (mv_ok (by kernel_rfl))) <| ?_
    rcases hb1 : (decide ((min (min w h) mx) < 1)) with _ | _
    · replace hb1 := of_decide_eq_false hb1
      refine zE (oFr fo24_0) <| zR (oL1 sh3) <| zE (oFr fo24_1) <| zR (oL1 sh3) <| zE (zMx (max w h) (hr := by first | omega | (dsimp only; omega))) <| zE oGt <| zE oPo <| zE (oV (vb (false || decide (64 < (max w h)))) (mv_ok (by kernel_rfl))) <| ?_
      rcases hb2 : (false || decide (64 < (max w h))) with _ | _
      · replace hb2 := of_decide_eq_false (p := (64 < (max w h))) hb2
        refine zE (oFr fo24_2) <| zR (oL1 sh3) <| zE oGt <| zE oPo <| zE (oV (vb (false || decide (65535 < mx))) (mv_ok (by kernel_rfl))) <| ?_
        rcases hb3 : (false || decide (65535 < mx)) with _ | _
        · replace hb3 := of_decide_eq_false (p := (65535 < mx)) hb3
          exact zE (oFr fo24_3) <| zR (oL1 sh22) <| zE (oLm el22) <| zE (oFr fo24_0) <| zR (oL1 sh3) <| zE (oFr fo24_1) <| zR (oL1 sh3) <| zE (zMl (w * h) (hr := by exact (wAny rfl (by have hq := wh_bd (w := w) (h := h) (by omega) (by omega) (by omega) (by omega); simp only [kLo]; omega) (by have hq := wh_bd (w := w) (h := h) (by omega) (by omega) (by omega) (by omega); simp only [kHi]; omega)))) <| zE oNe <| zE oPo <| zZ
        · replace hb3 := of_decide_eq_true (p := (65535 < mx)) hb3
          exact zK <| zK <| zK <| zK <| zK <| zK <| zK <| zK <| zK <| zE oPt <| zZ
      · replace hb2 := of_decide_eq_true (p := (64 < (max w h))) hb2
        exact zK <| zK <| zK <| zE oPt <| zM <| zK <| zK <| zK <| zK <| zK <| zK <| zK <| zK <| zK <| zE oPt <| zZ
    · replace hb1 := of_decide_eq_true hb1
      exact zK <| zK <| zK <| zK <| zK <| zK <| zE oPt <| zM <| zK <| zK <| zK <| zE oPt <| zM <| zK <| zK <| zK <| zK <| zK <| zK <| zK <| zK <| zK <| zE oPt <| zZ
  refine pwp_cond rfl (fun h4 => ?_) (fun h4 => ?_)
  · refine pwp_seq <| kx [(2, (vin 1))] [] (zM <| zZ) ?_
    refine pwp_ret ⟨_, (.tmp (d := (.val (.int .i64 (1)))) rfl .nil), ?_⟩
    rw [chk_1 h4]; rfl
  · refine pwp_skip <| pwp_seq <| pwp_seq <| kx [(38, (vb (px.any (badPx mx))))] [] (zE (oFr fo24_3) <| zR (oL1 sh22) <| zE (oMf [0]) <| zC (oCg [(0, (Dat.cells (encRst (RRst.mk w h mx px))))] [(vl 3 1 enc_i64 px), (.clo 37 [0])] (p_chkA px w h mx px hb) (.d (.c (css := [(Dat.cells (encRst (RRst.mk w h mx px)))]) (.cons (.head _) .nil) .nil)) (.val _)) <| zZ) ?_
    refine pwp_cond (b := (px.any (badPx mx))) rfl (fun h5 => ?_) (fun h5 => ?_)
    · refine pwp_seq <| kx [(2, (vin 1))] [] (zM <| zZ) ?_
      refine pwp_ret ⟨_, (.tmp (d := (.val (.int .i64 (1)))) rfl .nil), ?_⟩
      rw [chk_2 h5]; rfl
    · refine pwp_skip <| pwp_seq <| kx [(2, (vin 0))] [] (zM <| zZ) ?_
      refine pwp_ret ⟨_, (.tmp (d := (.val (.int .i64 (0)))) rfl .nil), ?_⟩
      rw [chk_3 h4 h5]; rfl
theorem p_bands (w h : Nat) (mx : Int) (px : List Int) (hv : RstOk w h px) : Takes Try.prog 32 [(encRst (RRst.mk ((w : Nat) : Int) ((h : Nat) : Int) mx px))] (encBnd (RBnd.mk ((w : Nat) : Int) ((h : Nat) : Int) mx (bLow w h px) (bRight w h px) (bDown w h px) (bCorner w h px))) := by
  have hT := rows_tab hv
  have hTl := tab_len hT
  have hpl := rst_len hv
  obtain ⟨w1, w2, w3, w4, w5, w6⟩ := hv
  refine fn_intro Try.func32 rfl cb32 rfl ?_
  show PWp _ _ _ _ ⟨[(0, (.d (encRst (RRst.mk ((w : Nat) : Int) ((h : Nat) : Int) mx px))))], []⟩
  refine pwp_seq <| kx [(1, (.ref 0 0)), (2, (.ref 1 0))] [(0, some (bx (encRst (RRst.mk ((w : Nat) : Int) ((h : Nat) : Int) mx px)))), (1, some (bx (encBnd (RBnd.mk 0 0 0 [] [] [] []))))] (zN (oBx 0) <| zN (oAl 1 ze44 zo44) <| zZ) ?_
  refine pwp_seq <| kx [(3, (.own 2 22 1 0)), (4, (.own 3 22 1 0))] [(2, some (bm enc_sl_22 [])), (3, some (bm enc_sl_22 []))] (zO 2 22 1 <| zO 3 22 1 <| zZ) ?_
  refine pwp_seq <| pwp_seq <| kx [(14, (vl 22 1 enc_sl_22 (rowsOf w h px))), (15, (vin ((rowsOf w h px).length))), (16, (vin 0))] [] (zE (oFr fo24_3) <| zR (oL1 sh22) <| zE (oFr fo24_0) <| zR (oL1 sh3) <| zE (oCl (p_lines px w h w1 w5 (by omega))) <| zE (oLm el66 (L := (rowsOf w h px))) <| zM <| zZ) ?_
  refine pwp_block <| pwp_loop (α := Nat × List (List Int) × List (List Int)) (fun (k, a, b) => ⟨[(1, (.ref 0 0)), (2, (.ref 1 0)), (3, (.own 2 22 1 a.length)), (4, (.own 3 22 1 b.length)), (14, (vl 22 1 enc_sl_22 (rowsOf w h px))), (15, (vin ((rowsOf w h px).length))), (16, (vin k))], [(0, some (bx (encRst (RRst.mk ((w : Nat) : Int) ((h : Nat) : Int) mx px)))), (1, some (bx (encBnd (RBnd.mk 0 0 0 [] [] [] [])))), (2, some (bm enc_sl_22 a)), (3, some (bm enc_sl_22 b))]⟩) (fun (k, a, b) => k ≤ (rowsOf w h px).length ∧ a = ((rowsOf w h px).take k).map loS ∧ b = ((rowsOf w h px).take k).map hiS) (fun (k, a, b) => (rowsOf w h px).length - k) (0, [], []) wk ⟨Nat.zero_le _, rfl, rfl⟩ ?_
  rintro ⟨k, a, b⟩ ⟨hk, ha, hb⟩
  have hla := map_lenle loS ha hTl
  have hlb := map_lenle hiS hb hTl
  have hg := tab_get hT k
  have hta := ha ▸ tab_lo (tab_take hT k)
  have htb := hb ▸ tab_hi (tab_take hT k)
  refine pwp_seq <| kx [(17, (vb (decide (((k : Nat) : Int) < (((rowsOf w h px).length : Nat) : Int)))))] [] (zE oLt <| zZ) ?_
  refine pwp_seq <| pwp_cond rfl (fun h1 => ?_) (fun h1 => ?_)
  · replace h1 := of_decide_eq_true h1
    refine pwp_skip <| pwp_seq <| pwp_block <| pwp_seq <| kx [(6, (vl 3 1 enc_i64 ((rowsOf w h px).getD k [])))] [] (zE (oXl el66 k ([] : List (Int)) (L := (rowsOf w h px))) <| zE (oC1 sh22) <| zM <| zZ) ?_
    refine pwp_seq <| kx [(7, (vl 3 1 enc_i64 (loS ((rowsOf w h px).getD k [])))), (8, (vl 3 1 enc_i64 (hiS ((rowsOf w h px).getD k []))))] [] (zM <| zE (oCl (p_split ((rowsOf w h px).getD k []) (hg.1.up (by decide)) (Nat.le_trans hg.2 (by decide)))) <| zM <| zE oEx <| zE oEx <| zM <| zM <| zZ) ?_
    refine kf [(3, (.own 2 22 1 ((a ++ [(loS ((rowsOf w h px).getD k []))]).length))), (4, (.own 3 22 1 ((b ++ [(hiS ((rowsOf w h px).getD k []))]).length)))] [(2, some (bm enc_sl_22 (a ++ [(loS ((rowsOf w h px).getD k []))]))), (3, some (bm enc_sl_22 (b ++ [(hiS ((rowsOf w h px).getD k []))])))] (zM <| zM <| zE (oBs el66 ze22 zo22) <| zA enc_sl_22 a [(loS ((rowsOf w h px).getD k []))] rfl el66 ze22 by22 (k := 2) <| zM <| zM <| zE (oBs el66 ze22 zo22) <| zA enc_sl_22 b [(hiS ((rowsOf w h px).getD k []))] rfl el66 ze22 by22 (k := 3) <| zM <| zM <| zF) ?_
    refine kx [(16, (vin (k + 1)))] [] (zE (oAd (k + 1)) <| zM <| zZ) ?_
    exact ⟨(k + 1, a ++ [loS ((rowsOf w h px).getD k [])], b ++ [hiS ((rowsOf w h px).getD k [])]), wk, ⟨by omega, map_step loS [] ha (by omega), map_step hiS [] hb (by omega)⟩, (by first | omega | (dsimp only; omega))⟩
  · replace h1 := of_decide_eq_false h1
    refine pwp_exit <| pwp_seq <| kx [(9, (.ref 4 0))] [(4, some (bx (encBnd (RBnd.mk ((w : Nat) : Int) ((h : Nat) : Int) mx [] [] [] []))))] (zE (oFr fo24_0) <| zR (oL1 sh3) <| zE (oFr fo24_1) <| zR (oL1 sh3) <| zE (oFr fo24_2) <| zR (oL1 sh3) <| zE (oBd pl44 ze44 zo44) <| zH (oAl 4 ze44 zo44) <| zT (oSt sh44) <| zZ) ?_
    refine pwp_seq <| pwp_sim (publish (t := 3) (k := 2) (es := List.map enc_sl_22 a) rfl rfl (pub_cells _ _ (fun _ => rfl)) (map_len _ _ rfl) (pub_take _ _ (fun _ => rfl) rfl)) ?_
    refine kx [] [(4, some (bx (encBnd (RBnd.mk ((w : Nat) : Int) ((h : Nat) : Int) mx (colLo a) [] (colHi a) []))))] (zM <| zE (oCl (p_cols a ((w + 1) / 2) (tab_up hta (by decide)))) <| zM <| zE oEx <| zE oEx <| zE (oFr fo44_3) <| zT (oSt sh22) <| zE (oFr fo44_5) <| zT (oSt sh22) <| zZ) ?_
    refine pwp_seq <| pwp_sim (publish (t := 4) (k := 3) (es := List.map enc_sl_22 b) rfl rfl (pub_cells _ _ (fun _ => rfl)) (map_len _ _ rfl) (pub_take _ _ (fun _ => rfl) rfl)) ?_
    refine kx [] [(4, some (bx (encBnd (RBnd.mk ((w : Nat) : Int) ((h : Nat) : Int) mx (colLo a) (colLo b) (colHi a) (colHi b)))))] (zM <| zE (oCl (p_cols b (w / 2) (tab_up htb (by decide)))) <| zM <| zE oEx <| zE oEx <| zE (oFr fo44_4) <| zT (oSt sh22) <| zE (oFr fo44_6) <| zT (oSt sh22) <| zZ) ?_
    refine pwp_seq <| kx [] [(1, some (bx (encBnd (RBnd.mk ((w : Nat) : Int) ((h : Nat) : Int) mx (colLo a) (colLo b) (colHi a) (colHi b)))))] (zR (oLa sh44) <| zT (oSt sh44) <| zZ) ?_
    refine pwp_ret ⟨_, (res_a (cs := (bx (encBnd (RBnd.mk ((w : Nat) : Int) ((h : Nat) : Int) mx (colLo a) (colLo b) (colHi a) (colHi b))))) (d := (encBnd (RBnd.mk ((w : Nat) : Int) ((h : Nat) : Int) mx (colLo a) (colLo b) (colHi a) (colHi b)))) rfl rfl sh44 rfl rfl .nil), ?_⟩
    rw [map_end loS ha (by omega), map_end hiS hb (by omega)]; rfl
theorem p_splO (w h : Nat) (mx : Int) (px : List Int) (hv : RstOk w h px) (hb : px.length ≤ 1000000) (hc : chkC ((w : Nat) : Int) ((h : Nat) : Int) mx px = 0) : Takes Try.prog 19 [(encRst (RRst.mk ((w : Nat) : Int) ((h : Nat) : Int) mx px))] (.tup [(encBnd (RBnd.mk ((w : Nat) : Int) ((h : Nat) : Int) mx (bLow w h px) (bRight w h px) (bDown w h px) (bCorner w h px))), (.val (.int .i64 (0)))]) := by
  refine fn_intro Try.func19 rfl cb19 rfl ?_
  show PWp _ _ _ _ ⟨[(0, (.d (encRst (RRst.mk ((w : Nat) : Int) ((h : Nat) : Int) mx px))))], []⟩
  refine pwp_seq <| kx [(1, (.ref 0 0)), (2, (.ref 1 0))] [(0, some (bx (encRst (RRst.mk ((w : Nat) : Int) ((h : Nat) : Int) mx px)))), (1, some (bx (encBnd (RBnd.mk 0 0 0 [] [] [] []))))] (zN (oBx 0) <| zN (oAl 1 ze44 zo44) <| zM <| zZ) ?_
  refine pwp_seq <| pwp_seq <| kx [(4, (vi (chkC ((w : Nat) : Int) ((h : Nat) : Int) mx px)))] [] (zR (oLa sh24) <| zE (oCl (p_chk ((w : Nat) : Int) ((h : Nat) : Int) mx px hb)) <| zM <| zZ) ?_
  refine pwp_seq <| kx [(8, (vb false))] [] (zM <| zE (oBk false oNe (by exact bne_eq_false_iff_eq.2 hc)) <| zZ) ?_
  refine pwp_cond (b := false) (by kernel_rfl) (fun h => by cases h) (fun _ => ?_)
  refine pwp_skip <| pwp_seq <| kx [(3, (vin 0))] [(1, some (bx (encBnd (RBnd.mk ((w : Nat) : Int) ((h : Nat) : Int) mx (bLow w h px) (bRight w h px) (bDown w h px) (bCorner w h px)))))] (zR (oLa sh24) <| zE (oCl (p_bands w h mx px hv)) <| zT (oSt sh44) <| zM <| zZ) ?_
  refine pwp_ret ⟨_, (res_a (cs := (bx (encBnd (RBnd.mk ((w : Nat) : Int) ((h : Nat) : Int) mx (bLow w h px) (bRight w h px) (bDown w h px) (bCorner w h px))))) (d := (encBnd (RBnd.mk ((w : Nat) : Int) ((h : Nat) : Int) mx (bLow w h px) (bRight w h px) (bDown w h px) (bCorner w h px)))) rfl rfl sh44 rfl rfl (.tmp (d := (.val (.int .i64 (0)))) rfl .nil)), ?_⟩
  rfl
end Go.Proofs.Ytleidgohjckmlaa
namespace Go.Proofs.Ytleidgohjckmlaa
open Go.Fid
set_option maxRecDepth 4000
set_option linter.unusedVariables false
set_option linter.unusedSimpArgs false
theorem cb7 : callB Try.prog 7 = true := by kernel_rfl
theorem cb11 : callB Try.prog 11 = true := by kernel_rfl
theorem cb21 : callB Try.prog 21 = true := by kernel_rfl
theorem p_eq (l : List Int) (m : List Int) (hb : l.length ≤ 1000000) : Takes Try.prog 21 [(.sl 3 1 (List.map enc_i64 l)), (.sl 3 1 (List.map enc_i64 m))] (.val (.bool ((l == m)))) := by
  refine fn_intro Try.func21 rfl cb21 rfl ?_
  show PWp _ _ _ _ ⟨[(0, (vl 3 1 enc_i64 l)), (1, (vl 3 1 enc_i64 m))], []⟩
  refine pwp_seq <| kx [] [] (zM <| zZ) ?_
  refine pwp_seq <| pwp_seq <| kx [(10, (vb (((l.length : Nat) : Int) != ((m.length : Nat) : Int))))] [] (zM <| zE (oLm el22) <| zM <| zE (oLm el22) <| zE oNe <| zZ) ?_
  refine pwp_cond rfl (fun h1 => ?_) (fun h1 => ?_)
  · replace h1 := bne_iff_ne.1 h1
    refine pwp_seq <| kx [(4, (vb false))] [] (zM <| zZ) ?_
    refine pwp_ret ⟨_, (.tmp (d := (.val (.bool (false)))) rfl .nil), ?_⟩
    rw [py_eq_len h1]; rfl
  · replace h1 := bne_eq_false_iff_eq.1 h1
    have hlm : l.length = m.length := by omega
    refine pwp_skip <| pwp_seq <| pwp_seq <| kx [(12, (vin l.length)), (13, (vin 0))] [] (zM <| zE (oLm el22) <| zM <| zZ) ?_
    refine pwp_block <| pwp_loop (α := Nat) (fun k => ⟨[(0, (vl 3 1 enc_i64 l)), (1, (vl 3 1 enc_i64 m)), (12, (vin l.length)), (13, (vin k))], []⟩) (fun k => k ≤ l.length ∧ l.take k = m.take k) (fun k => l.length - k) 0 wk ⟨Nat.zero_le _, rfl⟩ ?_
    rintro k ⟨hk, hv⟩
    refine pwp_seq <| kx [(14, (vb (decide (((k : Nat) : Int) < ((l.length : Nat) : Int)))))] [] (zE oLt <| zZ) ?_
    refine pwp_seq <| pwp_cond rfl (fun h2 => ?_) (fun h2 => ?_)
    · replace h2 := of_decide_eq_true h2
      refine pwp_skip <| pwp_seq <| pwp_block <| pwp_seq <| kx [(5, (vin k))] [] (zM <| zM <| zZ) ?_
      refine pwp_seq <| kd [(24, (vb ((l.getD k 0) != (m.getD k 0))))] [] mo (wM <| wM <| wE (oXl el22 k (0 : Int)) <| wE (oC1 sh3) <| wM <| wM <| wE (oXl el22 k (0 : Int)) <| wE (oC1 sh3) <| wE oNe <| wZ) ?_
      refine pwp_cond (b := ((l.getD k 0) != (m.getD k 0))) rfl (fun h3 => ?_) (fun h3 => ?_)
      · replace h3 := bne_iff_ne.1 h3
        refine pwp_seq <| kx [(4, (vb false))] [] (zM <| zZ) ?_
        refine pwp_ret ⟨_, (.tmp (d := (.val (.bool (false)))) rfl .nil), ?_⟩
        rw [py_eq_at h3]; rfl
      · replace h3 := bne_eq_false_iff_eq.1 h3
        refine pwp_skip <| kx [(13, (vin (k + 1)))] [] (zE (oAd (k + 1)) <| zM <| zZ) ?_
        exact ⟨(k + 1), wk, ⟨by omega, py_eq_step hv (by omega) hlm h3⟩, (by omega)⟩
    · replace h2 := of_decide_eq_false h2
      refine pwp_exit <| pwp_seq <| kx [(4, (vb true))] [] (zM <| zZ) ?_
      refine pwp_ret ⟨_, (.tmp (d := (.val (.bool (true)))) rfl .nil), ?_⟩
      rw [py_eq_end hv (by omega) hlm]; rfl
theorem p_rchk (w h mx : Int) (px : List Int) (hb : px.length ≤ 1000000) : Takes Try.prog 11 [(encRst (RRst.mk w h mx px))] (.val (.int .i64 ((chkC w h mx px)))) := by
  refine fn_intro Try.func11 rfl cb11 rfl ?_
  show PWp _ _ _ _ ⟨[(0, (.d (encRst (RRst.mk w h mx px))))], []⟩
  refine pwp_seq <| kx [(1, (.ref 0 0))] [(0, some (bx (encRst (RRst.mk w h mx px))))] (zN (oBx 0) <| zM <| zZ) ?_
  refine pwp_seq <| pwp_seq <| kx [(42, (vb ((((((decide (w < 1) || decide (64 < w)) || decide (h < 1)) || decide (64 < h)) || decide (mx < 1)) || decide (65535 < mx)) || (((px.length : Nat) : Int) != (w * h)))))] [] ?_ ?_
  · refine zE (oFr fo24_0) <| zR (oL1 sh3) <| zE oLt <| zE (oV (vb (decide (w < 1))) (mv_ok (by kernel_rfl))) <| ?_
    rcases hb1 : (decide (w < 1)) with _ | _
    · replace hb1 := of_decide_eq_false hb1
      refine zE (oFr fo24_0) <| zR (oL1 sh3) <| zE oGt <| zE oPo <| zE (oV (vb (false || decide (64 < w))) (mv_ok (by kernel_rfl))) <| ?_
      rcases hb2 : (false || decide (64 < w)) with _ | _
      · replace hb2 := of_decide_eq_false (p := (64 < w)) hb2
        refine zE (oFr fo24_1) <| zR (oL1 sh3) <| zE oLt <| zE oPo <| zE (oV (vb (false || decide (h < 1))) (mv_ok (by kernel_rfl))) <| ?_
        rcases hb3 : (false || decide (h < 1)) with _ | _
        · replace hb3 := of_decide_eq_false (p := (h < 1)) hb3
          refine zE (oFr fo24_1) <| zR (oL1 sh3) <| zE oGt <| zE oPo <| zE (oV (vb (false || decide (64 < h))) (mv_ok (by kernel_rfl))) <| ?_
          rcases hb4 : (false || decide (64 < h)) with _ | _
          · replace hb4 := of_decide_eq_false (p := (64 < h)) hb4
            refine zE (oFr fo24_2) <| zR (oL1 sh3) <| zE oLt <| zE oPo <| zE (oV (vb (false || decide (mx < 1))) (mv_ok (by kernel_rfl))) <| ?_
            rcases hb5 : (false || decide (mx < 1)) with _ | _
            · replace hb5 := of_decide_eq_false (p := (mx < 1)) hb5
              refine zE (oFr fo24_2) <| zR (oL1 sh3) <| zE oGt <| zE oPo <| zE (oV (vb (false || decide (65535 < mx))) (mv_ok (by kernel_rfl))) <| ?_
              rcases hb6 : (false || decide (65535 < mx)) with _ | _
              · replace hb6 := of_decide_eq_false (p := (65535 < mx)) hb6
                exact zE (oFr fo24_3) <| zR (oL1 sh22) <| zE (oLm el22 (L := px)) <| zE (oFr fo24_0) <| zR (oL1 sh3) <| zE (oFr fo24_1) <| zR (oL1 sh3) <| zE (zMl (w * h) (hr := by exact (wAny rfl (by have hq := wh_bd (w := w) (h := h) (by omega) (by omega) (by omega) (by omega); simp only [kLo]; omega) (by have hq := wh_bd (w := w) (h := h) (by omega) (by omega) (by omega) (by omega); simp only [kHi]; omega)))) <| zE oNe <| zE oPo <| zZ
              · replace hb6 := of_decide_eq_true (p := (65535 < mx)) hb6
                exact zK <| zK <| zK <| zK <| zK <| zK <| zK <| zK <| zK <| zE oPt <| zZ
            · replace hb5 := of_decide_eq_true (p := (mx < 1)) hb5
              exact zK <| zK <| zK <| zE oPt <| zM <| zK <| zK <| zK <| zK <| zK <| zK <| zK <| zK <| zK <| zE oPt <| zZ
          · replace hb4 := of_decide_eq_true (p := (64 < h)) hb4
            exact zK <| zK <| zK <| zE oPt <| zM <| zK <| zK <| zK <| zE oPt <| zM <| zK <| zK <| zK <| zK <| zK <| zK <| zK <| zK <| zK <| zE oPt <| zZ
        · replace hb3 := of_decide_eq_true (p := (h < 1)) hb3
          exact zK <| zK <| zK <| zE oPt <| zM <| zK <| zK <| zK <| zE oPt <| zM <| zK <| zK <| zK <| zE oPt <| zM <| zK <| zK <| zK <| zK <| zK <| zK <| zK <| zK <| zK <| zE oPt <| zZ
      · replace hb2 := of_decide_eq_true (p := (64 < w)) hb2
        exact zK <| zK <| zK <| zE oPt <| zM <| zK <| zK <| zK <| zE oPt <| zM <| zK <| zK <| zK <| zE oPt <| zM <| zK <| zK <| zK <| zE oPt <| zM <| zK <| zK <| zK <| zK <| zK <| zK <| zK <| zK <| zK <| zE oPt <| zZ
    · replace hb1 := of_decide_eq_true hb1
      exact zK <| zK <| zK <| zE oPt <| zM <| zK <| zK <| zK <| zE oPt <| zM <| zK <| zK <| zK <| zE oPt <| zM <| zK <| zK <| zK <| zE oPt <| zM <| zK <| zK <| zK <| zE oPt <| zM <| zK <| zK <| zK <| zK <| zK <| zK <| zK <| zK <| zK <| zE oPt <| zZ
  refine pwp_cond rfl (fun h7 => ?_) (fun h7 => ?_)
  · refine pwp_seq <| kx [(2, (vin 1))] [] (zM <| zZ) ?_
    refine pwp_ret ⟨_, (.tmp (d := (.val (.int .i64 (1)))) rfl .nil), ?_⟩
    rw [chk_1 ((chkB2_eq w h mx px).symm.trans h7)]; rfl
  · refine pwp_skip <| pwp_seq <| pwp_seq <| kx [(3, (vin 0))] [] (zM <| zZ) ?_
    refine pwp_block <| pwp_loop (α := Nat) (fun k => ⟨[(1, (.ref 0 0)), (3, (vin k))], [(0, some (bx (encRst (RRst.mk w h mx px))))]⟩) (fun k => k ≤ px.length ∧ (px.take k).any (badPx mx) = false) (fun k => px.length - k) 0 wk ⟨Nat.zero_le _, rfl⟩ ?_
    rintro k ⟨hk, hv⟩
    refine pwp_seq <| pwp_seq <| kx [(47, (vb (decide (((k : Nat) : Int) < ((px.length : Nat) : Int)))))] [] (zM <| zE (oFr fo24_3) <| zR (oL1 sh22) <| zE (oLm el22 (L := px)) <| zE oLt <| zZ) ?_
    refine pwp_cond rfl (fun h8 => ?_) (fun h8 => ?_)
    · replace h8 := of_decide_eq_true h8
      refine pwp_skip <| pwp_seq <| pwp_block <| pwp_seq <| kd [(65, (vb (decide ((px.getD k 0) < 0) || decide (mx < (px.getD k 0)))))] [] mo ?_ ?_
      · refine wE (oFr fo24_3) <| wR (oL1 sh22) <| wM <| wE (oXl el22 k (0 : Int) (L := px)) <| wE (oC1 sh3) <| wE oLt <| wE (oV (vb (decide ((px.getD k 0) < 0))) (mv_ok (by kernel_rfl))) <| ?_
        rcases hb9 : (decide ((px.getD k 0) < 0)) with _ | _
        · replace hb9 := of_decide_eq_false hb9
          exact wE (oFr fo24_3) <| wR (oL1 sh22) <| wM <| wE (oXl el22 k (0 : Int) (L := px)) <| wE (oC1 sh3) <| wE (oFr fo24_2) <| wR (oL1 sh3) <| wE oGt <| wE oPo <| wZ
        · replace hb9 := of_decide_eq_true hb9
          exact wK <| wK <| wK <| wK <| wK <| wK <| wK <| wK <| wE oPt <| wZ
      refine pwp_cond rfl (fun h10 => ?_) (fun h10 => ?_)
      · refine pwp_seq <| kx [(2, (vin 1))] [] (zM <| zZ) ?_
        refine pwp_ret ⟨_, (.tmp (d := (.val (.int .i64 (1)))) rfl .nil), ?_⟩
        rw [chk_2 (py_any_at (f := badPx mx) (k := k) (by omega) h10)]; rfl
      · refine pwp_skip <| kx [(3, (vin (k + 1)))] [] (zM <| zE (oAd (k + 1)) <| zM <| zZ) ?_
        exact ⟨(k + 1), wk, ⟨by omega, py_any_step hv (by omega) h10⟩, (by omega)⟩
    · replace h8 := of_decide_eq_false h8
      refine pwp_exit <| pwp_seq <| kx [(2, (vin 0))] [] (zM <| zZ) ?_
      refine pwp_ret ⟨_, (.tmp (d := (.val (.int .i64 (0)))) rfl .nil), ?_⟩
      rw [chk_3 ((chkB2_eq w h mx px).symm.trans h7) (py_any_end hv (by omega))]; rfl
theorem p_few (w h mx : Int) (px : List Int) : Takes Try.prog 7 [(encRst (RRst.mk w h mx px))] (.val (.bool ((decide (((px.length : Nat) : Int) ≤ 300))))) := by
  refine fn_intro Try.func7 rfl cb7 rfl ?_
  show PWp _ _ _ _ ⟨[(0, (.d (encRst (RRst.mk w h mx px))))], []⟩
  refine pwp_seq <| kx [(1, (.ref 0 0))] [(0, some (bx (encRst (RRst.mk w h mx px))))] (zN (oBx 0) <| zM <| zZ) ?_
  refine pwp_seq <| kx [(2, (vb (decide (((px.length : Nat) : Int) ≤ 300))))] [] (zE (oFr fo24_3) <| zR (oL1 sh22) <| zE (oLm el22) <| zE oLe <| zM <| zZ) ?_
  refine pwp_ret ⟨_, (.tmp (d := (.val (.bool (decide (((px.length : Nat) : Int) ≤ 300))))) rfl .nil), ?_⟩
  rfl
end Go.Proofs.Ytleidgohjckmlaa
namespace Go.Proofs.Ytleidgohjckmlaa
open Go.Fid
set_option maxRecDepth 4000
set_option linter.unusedVariables false
set_option linter.unusedSimpArgs false
theorem cb12 : callB Try.prog 12 = true := by kernel_rfl
theorem p_same (aw ah am : Int) (al : List Int) (bw bh bm : Int) (bl : List Int) (hb : al.length ≤ 1000000) : Takes Try.prog 12 [(encRst (RRst.mk aw ah am al)), (encRst (RRst.mk bw bh bm bl))] (.val (.bool ((same4 aw ah am al bw bh bm bl)))) := by
  refine fn_intro Try.func12 rfl cb12 rfl ?_
  show PWp _ _ _ _ ⟨[(0, (.d (encRst (RRst.mk aw ah am al)))), (1, (.d (encRst (RRst.mk bw bh bm bl))))], []⟩
  refine pwp_seq <| kx [(2, (.ref 0 0)), (3, (.ref 1 0))] [(0, some (bx (encRst (RRst.mk aw ah am al)))), (1, some (bx (encRst (RRst.mk bw bh bm bl))))] (zN (oBx 0) <| zN (oBx 1) <| zM <| zZ) ?_
  refine pwp_seq <| kx [(4, (vb ((((aw == bw) && (ah == bh)) && (am == bm)) && (al == bl))))] [] ?_ ?_
  · refine zE (oFr fo24_0) <| zR (oL1 sh3) <| zE (oFr fo24_0) <| zR (oL1 sh3) <| zE oEq <| zE (oV (vb (aw == bw)) (mv_ok (by kernel_rfl))) <| ?_
    rcases hb1 : (aw == bw) with _ | _
    · replace hb1 := ne_of_beq_false hb1
      exact zK <| zK <| zK <| zK <| zK <| zE oPf <| zM <| zK <| zK <| zK <| zK <| zK <| zE oPf <| zM <| zK <| zK <| zK <| zK <| zK <| zE oPf <| zM <| zZ
    · replace hb1 := eq_of_beq hb1
      refine zE (oFr fo24_1) <| zR (oL1 sh3) <| zE (oFr fo24_1) <| zR (oL1 sh3) <| zE oEq <| zE oPa <| zE (oV (vb (true && (ah == bh))) (mv_ok (by kernel_rfl))) <| ?_
      rcases hb2 : (true && (ah == bh)) with _ | _
      · exact zK <| zK <| zK <| zK <| zK <| zE oPf <| zM <| zK <| zK <| zK <| zK <| zK <| zE oPf <| zM <| zZ
      · refine zE (oFr fo24_2) <| zR (oL1 sh3) <| zE (oFr fo24_2) <| zR (oL1 sh3) <| zE oEq <| zE oPa <| zE (oV (vb (true && (am == bm))) (mv_ok (by kernel_rfl))) <| ?_
        rcases hb3 : (true && (am == bm)) with _ | _
        · exact zK <| zK <| zK <| zK <| zK <| zE oPf <| zM <| zZ
        · exact zE (oFr fo24_3) <| zR (oL1 sh22) <| zE (oFr fo24_3) <| zR (oL1 sh22) <| zE (oCl (p_eq al bl hb)) <| zE oPa <| zM <| zZ
  refine pwp_ret ⟨_, (.tmp (d := (.val (.bool (((((aw == bw) && (ah == bh)) && (am == bm)) && (al == bl)))))) rfl .nil), ?_⟩
  rfl
end Go.Proofs.Ytleidgohjckmlaa
namespace Go.Proofs.Ytleidgohjckmlaa
open Go.Fid
set_option maxRecDepth 4000
set_option linter.unusedVariables false
set_option linter.unusedSimpArgs false
theorem cb33 : callB Try.prog 33 = true := by kernel_rfl
theorem cb48 : callB Try.prog 48 = true := by kernel_rfl
theorem fo44_0 : fieldB Try.prog 44 0 = some 0 := by kernel_rfl
theorem fo44_1 : fieldB Try.prog 44 1 = some 1 := by kernel_rfl
theorem fo44_2 : fieldB Try.prog 44 2 = some 2 := by kernel_rfl
theorem p_badB (n : Int) : Takes Try.prog 48 [(.val (.int .i64 (n)))] (.val (.bool ((badB n)))) := by
  refine fn_intro Try.func48 rfl cb48 rfl ?_
  show PWp _ _ _ _ ⟨[(0, (vi n))], []⟩
  refine pwp_seq <| kx [] [] (zM <| zZ) ?_
  refine pwp_seq <| kx [(2, (vb (decide (n < -1048576) || decide (1048576 < n))))] [] ?_ ?_
  · refine zM <| zE oLt <| zE (oV (vb (decide (n < -1048576))) (mv_ok (by kernel_rfl))) <| ?_
    rcases hb1 : (decide (n < -1048576)) with _ | _
    · replace hb1 := of_decide_eq_false hb1
      exact zM <| zE oGt <| zE oPo <| zM <| zZ
    · replace hb1 := of_decide_eq_true hb1
      exact zK <| zK <| zE oPt <| zM <| zZ
  refine pwp_ret ⟨_, (.tmp (d := (.val (.bool ((decide (n < -1048576) || decide (1048576 < n)))))) rfl .nil), ?_⟩
  rfl
theorem p_badAI (l : List Int) (hb : l.length ≤ 1000000) : Takes Try.prog 52 [(.sl 3 1 (List.map enc_i64 l)), (.val (.func (.func 48) #[] #[]))] (.val (.int .i64 ((firstIx (badB) l 0)))) := by
  refine fn_intro Try.func52 rfl cb52 rfl ?_
  show PWp _ _ _ _ ⟨[(0, (vl 3 1 enc_i64 l)), (1, (.d (.val (.func (.func 48) #[] #[]))))], []⟩
  refine pwp_seq <| kx [] [] (zM <| zZ) ?_
  refine pwp_seq <| pwp_seq <| kx [(7, (vin l.length)), (8, (vin 0))] [] (zM <| zE (oLm el22) <| zM <| zZ) ?_
  refine pwp_block <| pwp_loop (α := Nat) (fun k => ⟨[(0, (vl 3 1 enc_i64 l)), (1, (.d (.val (.func (.func 48) #[] #[])))), (7, (vin l.length)), (8, (vin k))], []⟩) (fun k => k ≤ l.length ∧ firstIx (badB) l 0 = firstIx (badB) (l.drop k) k) (fun k => l.length - k) 0 wk ⟨Nat.zero_le _, rfl⟩ ?_
  rintro k ⟨hk, hv⟩
  refine pwp_seq <| kx [(9, (vb (decide (((k : Nat) : Int) < ((l.length : Nat) : Int)))))] [] (zE oLt <| zZ) ?_
  refine pwp_seq <| pwp_cond rfl (fun h1 => ?_) (fun h1 => ?_)
  · replace h1 := of_decide_eq_true h1
    refine pwp_skip <| pwp_seq <| pwp_block <| pwp_seq <| kx [(5, (vin k))] [] (zM <| zM <| zZ) ?_
    refine pwp_seq <| kx [(16, (vb (badB (l.getD k 0))))] [] (zM <| zM <| zM <| zE (oXl el22 k (0 : Int)) <| zE (oC1 sh3) <| zE (oCl (p_badB (l.getD k 0))) <| zZ) ?_
    refine pwp_cond (b := (badB (l.getD k 0))) rfl (fun h2 => ?_) (fun h2 => ?_)
    · have hix := firstIx_at _ l k (by omega) h2
      refine pwp_seq <| kx [(4, (vin k))] [] (zM <| zM <| zZ) ?_
      refine pwp_ret ⟨_, (.tmp (d := (.val (.int .i64 (((k : Nat) : Int))))) rfl .nil), ?_⟩
      rw [hv, hix]; rfl
    · have hix := firstIx_step _ l k (by omega) h2
      refine pwp_skip <| kx [(8, (vin (k + 1)))] [] (zE (oAd (k + 1)) <| zM <| zZ) ?_
      exact ⟨(k + 1), wk, ⟨by omega, hv.trans hix⟩, (by omega)⟩
  · replace h1 := of_decide_eq_false h1
    have hix := firstIx_end (badB) l k (by omega)
    refine pwp_exit <| pwp_seq <| kx [(4, (vi (-1)))] [] (zM <| zZ) ?_
    refine pwp_ret ⟨_, (.tmp (d := (.val (.int .i64 (-1)))) rfl .nil), ?_⟩
    rw [hv, hix]; rfl
theorem p_badA (l : List Int) (hb : l.length ≤ 1000000) : Takes Try.prog 36 [(.sl 3 1 (List.map enc_i64 l)), (.val (.func (.func 48) #[] #[]))] (.val (.bool ((l.any (badB))))) := by
  refine fn_intro Try.func36 rfl cb36 rfl ?_
  show PWp _ _ _ _ ⟨[(0, (vl 3 1 enc_i64 l)), (1, (.d (.val (.func (.func 48) #[] #[]))))], []⟩
  refine pwp_seq <| kx [] [] (zM <| zZ) ?_
  refine pwp_seq <| kx [(4, (vb (decide (0 ≤ (firstIx (badB) l 0)))))] [] (zM <| zM <| zE (oCl (p_badAI l hb)) <| zE oGe <| zM <| zZ) ?_
  refine pwp_ret ⟨_, (.tmp (d := (.val (.bool (decide (0 ≤ (firstIx (badB) l 0)))))) rfl .nil), ?_⟩
  rw [firstIx_any]; rfl
theorem p_valid (w h m : Int) (l r d c : List Int) (hbl : l.length ≤ 1000000) (hbr : r.length ≤ 1000000) (hbd : d.length ≤ 1000000) (hbc : c.length ≤ 1000000) : Takes Try.prog 33 [(encBnd (RBnd.mk w h m l r d c))] (.val (.bool ((vBnd w h m l r d c)))) := by
  refine fn_intro Try.func33 rfl cb33 rfl ?_
  show PWp _ _ _ _ ⟨[(0, (.d (encBnd (RBnd.mk w h m l r d c))))], []⟩
  refine pwp_seq <| kx [(1, (.ref 0 0))] [(0, some (bx (encBnd (RBnd.mk w h m l r d c))))] (zN (oBx 0) <| zM <| zZ) ?_
  refine pwp_seq <| pwp_seq <| kx [(36, (vb (((((decide (w < 1) || decide (64 < w)) || decide (h < 1)) || decide (64 < h)) || decide (m < 1)) || decide (65535 < m))))] [] ?_ ?_
  · refine zE (oFr fo44_0) <| zR (oL1 sh3) <| zE oLt <| zE (oV (vb (decide (w < 1))) (mv_ok (by kernel_rfl))) <| ?_
    rcases hb1 : (decide (w < 1)) with _ | _
    · replace hb1 := of_decide_eq_false hb1
      refine zE (oFr fo44_0) <| zR (oL1 sh3) <| zE oGt <| zE oPo <| zE (oV (vb (false || decide (64 < w))) (mv_ok (by kernel_rfl))) <| ?_
      rcases hb2 : (false || decide (64 < w)) with _ | _
      · replace hb2 := of_decide_eq_false (p := (64 < w)) hb2
        refine zE (oFr fo44_1) <| zR (oL1 sh3) <| zE oLt <| zE oPo <| zE (oV (vb (false || decide (h < 1))) (mv_ok (by kernel_rfl))) <| ?_
        rcases hb3 : (false || decide (h < 1)) with _ | _
        · replace hb3 := of_decide_eq_false (p := (h < 1)) hb3
          refine zE (oFr fo44_1) <| zR (oL1 sh3) <| zE oGt <| zE oPo <| zE (oV (vb (false || decide (64 < h))) (mv_ok (by kernel_rfl))) <| ?_
          rcases hb4 : (false || decide (64 < h)) with _ | _
          · replace hb4 := of_decide_eq_false (p := (64 < h)) hb4
            refine zE (oFr fo44_2) <| zR (oL1 sh3) <| zE oLt <| zE oPo <| zE (oV (vb (false || decide (m < 1))) (mv_ok (by kernel_rfl))) <| ?_
            rcases hb5 : (false || decide (m < 1)) with _ | _
            · replace hb5 := of_decide_eq_false (p := (m < 1)) hb5
              exact zE (oFr fo44_2) <| zR (oL1 sh3) <| zE oGt <| zE oPo <| zZ
            · replace hb5 := of_decide_eq_true (p := (m < 1)) hb5
              exact zK <| zK <| zK <| zE oPt <| zZ
          · replace hb4 := of_decide_eq_true (p := (64 < h)) hb4
            exact zK <| zK <| zK <| zE oPt <| zM <| zK <| zK <| zK <| zE oPt <| zZ
        · replace hb3 := of_decide_eq_true (p := (h < 1)) hb3
          exact zK <| zK <| zK <| zE oPt <| zM <| zK <| zK <| zK <| zE oPt <| zM <| zK <| zK <| zK <| zE oPt <| zZ
      · replace hb2 := of_decide_eq_true (p := (64 < w)) hb2
        exact zK <| zK <| zK <| zE oPt <| zM <| zK <| zK <| zK <| zE oPt <| zM <| zK <| zK <| zK <| zE oPt <| zM <| zK <| zK <| zK <| zE oPt <| zZ
    · replace hb1 := of_decide_eq_true hb1
      exact zK <| zK <| zK <| zE oPt <| zM <| zK <| zK <| zK <| zE oPt <| zM <| zK <| zK <| zK <| zE oPt <| zM <| zK <| zK <| zK <| zE oPt <| zM <| zK <| zK <| zK <| zE oPt <| zZ
  refine pwp_cond rfl (fun h6 => ?_) (fun h6 => ?_)
  · refine pwp_seq <| kx [(2, (vb false))] [] (zM <| zZ) ?_
    refine pwp_ret ⟨_, (.tmp (d := (.val (.bool (false)))) rfl .nil), ?_⟩
    rw [vb_1 h6]; rfl
  · have hdm := h6
    simp only [Bool.or_eq_false_iff, decide_eq_false_iff_not] at hdm
    obtain ⟨⟨⟨⟨⟨e1, e2⟩, e3⟩, e4⟩, e5⟩, e6⟩ := hdm
    refine pwp_skip <| pwp_seq <| kd [(3, (vi ((w + 1) / 2))), (4, (vi (w / 2))), (5, (vi ((h + 1) / 2))), (6, (vi (h / 2)))] [] mo (wE (oFr fo44_0) <| wR (oL1 sh3) <| wE (zAd (w + 1) (hr := by exact (inc_up e1 e2))) <| wE (zQu ((w + 1) / 2) (hr := by exact (half_up e1 e2))) <| wE (oFr fo44_0) <| wR (oL1 sh3) <| wE (zQu (w / 2) (hr := by exact (half_dn e1 e2))) <| wE (oFr fo44_1) <| wR (oL1 sh3) <| wE (zAd (h + 1) (hr := by exact (inc_up e3 e4))) <| wE (zQu ((h + 1) / 2) (hr := by exact (half_up e3 e4))) <| wE (oFr fo44_1) <| wR (oL1 sh3) <| wE (zQu (h / 2) (hr := by exact (half_dn e3 e4))) <| wM <| wM <| wM <| wM <| wZ) ?_
    refine pwp_seq <| pwp_seq <| kx [(84, (vb ((((((l.length : Nat) : Int) != (((w + 1) / 2) * ((h + 1) / 2))) || (((r.length : Nat) : Int) != ((w / 2) * ((h + 1) / 2)))) || (((d.length : Nat) : Int) != (((w + 1) / 2) * (h / 2)))) || (((c.length : Nat) : Int) != ((w / 2) * (h / 2))))))] [] ?_ ?_
    · refine zE (oFr fo44_3) <| zR (oL1 sh22) <| zE (oLm el22 (L := l)) <| zM <| zM <| zE (zMl (((w + 1) / 2) * ((h + 1) / 2)) (hr := by exact (wAny rfl (by have hq := pq_bd (a := ((w + 1) / 2)) (b := ((h + 1) / 2)) (by omega) (by omega) (by omega) (by omega); simp only [kLo]; omega) (by have hq := pq_bd (a := ((w + 1) / 2)) (b := ((h + 1) / 2)) (by omega) (by omega) (by omega) (by omega); simp only [kHi]; omega)))) <| zE oNe <| zE (oV (vb (((l.length : Nat) : Int) != (((w + 1) / 2) * ((h + 1) / 2)))) (mv_ok (by kernel_rfl))) <| ?_
      rcases hb7 : (((l.length : Nat) : Int) != (((w + 1) / 2) * ((h + 1) / 2))) with _ | _
      · replace hb7 := bne_eq_false_iff_eq.1 hb7
        refine zE (oFr fo44_4) <| zR (oL1 sh22) <| zE (oLm el22 (L := r)) <| zM <| zM <| zE (zMl ((w / 2) * ((h + 1) / 2)) (hr := by exact (wAny rfl (by have hq := pq_bd (a := (w / 2)) (b := ((h + 1) / 2)) (by omega) (by omega) (by omega) (by omega); simp only [kLo]; omega) (by have hq := pq_bd (a := (w / 2)) (b := ((h + 1) / 2)) (by omega) (by omega) (by omega) (by omega); simp only [kHi]; omega)))) <| zE oNe <| zE oPo <| zE (oV (vb (false || (((r.length : Nat) : Int) != ((w / 2) * ((h + 1) / 2))))) (mv_ok (by kernel_rfl))) <| ?_
        rcases hb8 : (false || (((r.length : Nat) : Int) != ((w / 2) * ((h + 1) / 2)))) with _ | _
        · refine zE (oFr fo44_5) <| zR (oL1 sh22) <| zE (oLm el22 (L := d)) <| zM <| zM <| zE (zMl (((w + 1) / 2) * (h / 2)) (hr := by exact (wAny rfl (by have hq := pq_bd (a := ((w + 1) / 2)) (b := (h / 2)) (by omega) (by omega) (by omega) (by omega); simp only [kLo]; omega) (by have hq := pq_bd (a := ((w + 1) / 2)) (b := (h / 2)) (by omega) (by omega) (by omega) (by omega); simp only [kHi]; omega)))) <| zE oNe <| zE oPo <| zE (oV (vb (false || (((d.length : Nat) : Int) != (((w + 1) / 2) * (h / 2))))) (mv_ok (by kernel_rfl))) <| ?_
          rcases hb9 : (false || (((d.length : Nat) : Int) != (((w + 1) / 2) * (h / 2)))) with _ | _
          · exact zE (oFr fo44_6) <| zR (oL1 sh22) <| zE (oLm el22 (L := c)) <| zM <| zM <| zE (zMl ((w / 2) * (h / 2)) (hr := by exact (wAny rfl (by have hq := pq_bd (a := (w / 2)) (b := (h / 2)) (by omega) (by omega) (by omega) (by omega); simp only [kLo]; omega) (by have hq := pq_bd (a := (w / 2)) (b := (h / 2)) (by omega) (by omega) (by omega) (by omega); simp only [kHi]; omega)))) <| zE oNe <| zE oPo <| zZ
          · exact zK <| zK <| zK <| zK <| zK <| zK <| zK <| zE oPt <| zZ
        · exact zK <| zK <| zK <| zK <| zK <| zK <| zK <| zE oPt <| zM <| zK <| zK <| zK <| zK <| zK <| zK <| zK <| zE oPt <| zZ
      · replace hb7 := bne_iff_ne.1 hb7
        exact zK <| zK <| zK <| zK <| zK <| zK <| zK <| zE oPt <| zM <| zK <| zK <| zK <| zK <| zK <| zK <| zK <| zE oPt <| zM <| zK <| zK <| zK <| zK <| zK <| zK <| zK <| zE oPt <| zZ
    refine pwp_cond rfl (fun h10 => ?_) (fun h10 => ?_)
    · refine pwp_seq <| kx [(2, (vb false))] [] (zM <| zZ) ?_
      refine pwp_ret ⟨_, (.tmp (d := (.val (.bool (false)))) rfl .nil), ?_⟩
      rw [vb_2 h10]; rfl
    · refine pwp_skip <| pwp_seq <| pwp_seq <| kx [(93, (vl 22 1 enc_sl_22 [l, r, d, c])), (94, (vin 4)), (95, (vin 0))] [] (zE (oFr fo44_3) <| zR (oL1 sh22) <| zE (oFr fo44_4) <| zR (oL1 sh22) <| zE (oFr fo44_5) <| zR (oL1 sh22) <| zE (oFr fo44_6) <| zR (oL1 sh22) <| zE (oBs el66 ze22 zo22) <| zE (oLn el66 4) <| zM <| zZ) ?_
      refine pwp_block <| pwp_loop (α := Nat) (fun k => ⟨[(93, (vl 22 1 enc_sl_22 [l, r, d, c])), (94, (vin 4)), (95, (vin k))], []⟩) (fun k => k ≤ 4 ∧ (([l, r, d, c].take k).any fun x => x.any badB) = false) (fun k => 4 - k) 0 wk ⟨Nat.zero_le _, rfl⟩ ?_
      rintro k ⟨hk, hv⟩
      have hgk : ([l, r, d, c].getD k []).length ≤ 1000000 := four_len hbl hbr hbd hbc k
      have h4l : [l, r, d, c].length = 4 := rfl
      refine pwp_seq <| kx [(96, (vb (decide (((k : Nat) : Int) < ((4 : Nat) : Int)))))] [] (zE oLt <| zZ) ?_
      refine pwp_seq <| pwp_cond rfl (fun h11 => ?_) (fun h11 => ?_)
      · replace h11 := of_decide_eq_true h11
        refine pwp_skip <| pwp_seq <| pwp_block <| pwp_seq <| kx [(8, (vl 3 1 enc_i64 ([l, r, d, c].getD k [])))] [] (zE (oXl el66 k ([] : List (Int)) (L := [l, r, d, c])) <| zE (oC1 sh22) <| zM <| zZ) ?_
        refine pwp_seq <| kx [(100, (vb (([l, r, d, c].getD k []).any (badB))))] [] (zM <| zE (oCl (p_badA ([l, r, d, c].getD k []) hgk)) <| zZ) ?_
        refine pwp_cond (b := (([l, r, d, c].getD k []).any (badB))) rfl (fun h12 => ?_) (fun h12 => ?_)
        · refine pwp_seq <| kx [(2, (vb false))] [] (zM <| zZ) ?_
          refine pwp_ret ⟨_, (.tmp (d := (.val (.bool (false)))) rfl .nil), ?_⟩
          rw [vb_3 (k := k) (by omega) h12]; rfl
        · refine pwp_skip <| kx [(95, (vin (k + 1)))] [] (zE (oAd (k + 1)) <| zM <| zZ) ?_
          exact ⟨(k + 1), wk, ⟨by omega, vb_step hv (show k < 4 by omega) h12⟩, (by omega)⟩
      · replace h11 := of_decide_eq_false h11
        refine pwp_exit <| pwp_seq <| kx [(2, (vb true))] [] (zM <| zZ) ?_
        refine pwp_ret ⟨_, (.tmp (d := (.val (.bool (true)))) rfl .nil), ?_⟩
        rw [vb_4 h6 h10 (by rw [show k = 4 by omega] at hv; exact hv)]; rfl
end Go.Proofs.Ytleidgohjckmlaa
