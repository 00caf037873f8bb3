/- Part 20 of a proof: rules, plain facts, and functions walked. -/
import Derived.Test.YtleidgohjckmlaaM19
import Derived.Test.YtleidgohjckmlaaM17
namespace Go.Proofs.Ytleidgohjckmlaa
open Go.Fid
set_option maxRecDepth 4000
set_option linter.unusedVariables false
set_option linter.unusedSimpArgs false
theorem cb49 : callB Try.prog 49 = true := by kernel_rfl
theorem cb51 : callB Try.prog 51 = true := by kernel_rfl
theorem p_stk (lo : List Int) (hi : List Int) (w : Nat) (s t : Nat) (hw : 0 < w) (hw2 : w ≤ 1000) (hs2 : s ≤ 1000) (ht2 : t ≤ 1000) (hlo : lo.length = w * s) (hhi : hi.length = w * t) (hll : lo.length ≤ 1000000) (hlh : hi.length ≤ 1000000) (hbl : Bd 1048576 lo) (hbh : Bd 1048576 hi) (hst : s = t ∨ s = t + 1) (hst2 : s + t ≤ 1000) : Takes Try.prog 49 [(.sl 3 1 (List.map enc_i64 lo)), (.sl 3 1 (List.map enc_i64 hi)), (.val (.int .i64 (((w : Nat) : Int))))] (.sl 22 1 (List.map enc_sl_22 (stkV w s t lo hi))) := by
  have hA := rows_tabG hw2 hs2 hlo hbl (by decide)
  have hB := rows_tabG hw2 ht2 hhi hbh (by decide)
  have hA1 := tab_tr hA
  have hB1 := tab_tr hB
  rw [rowsOf_len] at hA1 hB1
  have hal := tab_len hA1
  have hbl1 := tab_len hB1
  have hlens := stk_lens hlo hhi
  refine fn_intro Try.func49 rfl cb49 rfl ?_
  show PWp _ _ _ _ ⟨[(0, (vl 3 1 enc_i64 lo)), (1, (vl 3 1 enc_i64 hi)), (2, (vin w))], []⟩
  refine pwp_seq <| kx [] [] (zE (oNl 22 1) <| zZ) ?_
  refine pwp_seq <| pwp_seq <| kx [(14, (vb (((w : Nat) : Int) == 0)))] [] (zM <| zE oEq <| zZ) ?_
  refine pwp_cond (b := (((w : Nat) : Int) == 0)) rfl (fun h1 => ?_) (fun h1 => ?_)
  · replace h1 := eq_of_beq h1
    omega
  · replace h1 := ne_of_beq_false h1
    refine pwp_skip <| pwp_seq <| kx [(7, (vl 22 1 enc_sl_22 (trP (rowsOf w s lo)))), (8, (vl 22 1 enc_sl_22 (trP (rowsOf w t hi))))] [] (zM <| zM <| zE (oCl (p_lines lo w s hw hlo hll)) <| zE (oCl (p_turnedT hA)) <| zM <| zM <| zE (oCl (p_lines hi w t hw hhi hlh)) <| zE (oCl (p_turnedT hB)) <| zM <| zM <| zZ) ?_
    refine pwp_seq <| kx [(9, (.own 0 22 1 0))] [(0, some (bm enc_sl_22 []))] (zO 0 22 1 <| zZ) ?_
    refine pwp_seq <| pwp_seq <| kx [(23, (vl 22 1 enc_sl_22 (trP (rowsOf w s lo)))), (24, (vin ((trP (rowsOf w s lo)).length))), (25, (vin 0))] [] (zM <| zE (oLm el66 (L := (trP (rowsOf w s lo)))) <| zM <| zZ) ?_
    refine pwp_block <| pwp_loop (α := Nat × List (List Int)) (fun (k, out) => ⟨[(8, (vl 22 1 enc_sl_22 (trP (rowsOf w t hi)))), (9, (.own 0 22 1 out.length)), (23, (vl 22 1 enc_sl_22 (trP (rowsOf w s lo)))), (24, (vin ((trP (rowsOf w s lo)).length))), (25, (vin k))], [(0, some (bm enc_sl_22 out))]⟩) (fun (k, out) => k ≤ (trP (rowsOf w s lo)).length ∧ out = stkR (trP (rowsOf w s lo)) (trP (rowsOf w t hi)) k) (fun (k, out) => (trP (rowsOf w s lo)).length - k) (0, []) wk ⟨Nat.zero_le _, rfl⟩ ?_
    rintro ⟨k, out⟩ ⟨hk, ho⟩
    have hol : out.length ≤ 1000 := by rw [ho, stkR_len]; omega
    have hga := tab_get hA1 k
    have hgb := tab_get hB1 k
    have hout := ho ▸ stk_tab hA1 hB1 hst hlens hk hst2
    refine pwp_seq <| kx [(26, (vb (decide (((k : Nat) : Int) < (((trP (rowsOf w s lo)).length : Nat) : Int)))))] [] (zE oLt <| zZ) ?_
    refine pwp_seq <| pwp_cond rfl (fun h2 => ?_) (fun h2 => ?_)
    · replace h2 := of_decide_eq_true h2
      refine pwp_skip <| pwp_seq <| pwp_block <| pwp_seq <| kx [(10, (vin k)), (11, (vl 3 1 enc_i64 ((trP (rowsOf w s lo)).getD k [])))] [] (zM <| zE (oXl el66 k ([] : List (Int)) (L := (trP (rowsOf w s lo)))) <| zE (oC1 sh22) <| zM <| zM <| zZ) ?_
      refine pwp_seq <| kx [(12, (vl 3 1 enc_i64 []))] [] (zE (oNl 3 1) <| zZ) ?_
      refine pwp_seq <| pwp_seq <| kx [(33, (vb (decide (((k : Nat) : Int) < (((trP (rowsOf w t hi)).length : Nat) : Int)))))] [] (zM <| zM <| zE (oLm el66 (L := (trP (rowsOf w t hi)))) <| zE oLt <| zZ) ?_
      refine pwp_cond rfl (fun h3 => ?_) (fun h3 => ?_)
      · replace h3 := of_decide_eq_true h3
        refine kx [(12, (vl 3 1 enc_i64 ((trP (rowsOf w t hi)).getD k [])))] [] (zM <| zM <| zE (oXl el66 k ([] : List (Int)) (L := (trP (rowsOf w t hi)))) <| zE (oC1 sh22) <| zM <| zZ) ?_
        refine kf [(9, (.own 0 22 1 ((out ++ [(joinS ((trP (rowsOf w s lo)).getD k []) ((trP (rowsOf w t hi)).getD k []))]).length)))] [(0, some (bm enc_sl_22 (out ++ [(joinS ((trP (rowsOf w s lo)).getD k []) ((trP (rowsOf w t hi)).getD k []))])))] (zM <| zM <| zM <| zE (oCl (p_join ((trP (rowsOf w s lo)).getD k []) ((trP (rowsOf w t hi)).getD k []) (hga.1.up (by decide)) (hgb.1.up (by decide)) (Nat.le_trans hga.2 (by decide)) (Nat.le_trans hgb.2 (by decide)))) <| zE (oBs el66 ze22 zo22) <| zA enc_sl_22 out [(joinS ((trP (rowsOf w s lo)).getD k []) ((trP (rowsOf w t hi)).getD k []))] rfl el66 ze22 by22 <| zM <| zF) ?_
        refine kx [(25, (vin (k + 1)))] [] (zE (oAd (k + 1)) <| zM <| zZ) ?_
        exact ⟨(k + 1, out ++ [joinS ((trP (rowsOf w s lo)).getD k []) ((trP (rowsOf w t hi)).getD k [])]), wk, ⟨by omega, by rw [ho]; exact stkR_step _ _ k⟩, (by first | omega | (dsimp only; omega))⟩
      · replace h3 := of_decide_eq_false h3
        refine pwp_skip <| kf [(9, (.own 0 22 1 ((out ++ [(joinS ((trP (rowsOf w s lo)).getD k []) [])]).length)))] [(0, some (bm enc_sl_22 (out ++ [(joinS ((trP (rowsOf w s lo)).getD k []) [])])))] (zM <| zM <| zM <| zE (oCl (p_join ((trP (rowsOf w s lo)).getD k []) [] (hga.1.up (by decide)) (fun x hx => absurd hx List.not_mem_nil) (Nat.le_trans hga.2 (by decide)) (Nat.zero_le _))) <| zE (oBs el66 ze22 zo22) <| zA enc_sl_22 out [(joinS ((trP (rowsOf w s lo)).getD k []) [])] rfl el66 ze22 by22 <| zM <| zF) ?_
        refine kx [(25, (vin (k + 1)))] [] (zE (oAd (k + 1)) <| zM <| zZ) ?_
        exact ⟨(k + 1, out ++ [joinS ((trP (rowsOf w s lo)).getD k []) []]), wk, ⟨by omega, by have e := getD_ge (l := (trP (rowsOf w t hi))) (k := k) (by omega); have q := stkR_step (trP (rowsOf w s lo)) (trP (rowsOf w t hi)) k; rw [e] at q; rw [ho]; exact q⟩, (by first | omega | (dsimp only; omega))⟩
    · replace h2 := of_decide_eq_false h2
      refine pwp_exit <| pwp_seq <| pwp_sim (publish (t := 9) (k := 0) (es := List.map enc_sl_22 out) rfl rfl (pub_cells _ _ (fun _ => rfl)) (map_len _ _ rfl) (pub_take _ _ (fun _ => rfl) rfl)) ?_
      refine kx [(6, (vl 22 1 enc_sl_22 (trP out)))] [] (zM <| zE (oCl (p_turnedT hout)) <| zM <| zZ) ?_
      refine pwp_ret ⟨_, (.tmp (d := (.sl 22 1 (List.map enc_sl_22 (trP out)))) rfl .nil), ?_⟩
      rw [ho, show k = (trP (rowsOf w s lo)).length by omega]; rfl
theorem p_stk0 (lo : List Int) (hi : List Int) (w : Nat) (s t : Nat) (hz : w = 0) : Takes Try.prog 49 [(.sl 3 1 (List.map enc_i64 lo)), (.sl 3 1 (List.map enc_i64 hi)), (.val (.int .i64 (((w : Nat) : Int))))] (.sl 22 1 (List.map enc_sl_22 (stkV w s t lo hi))) := by
  refine fn_intro Try.func49 rfl cb49 rfl ?_
  show PWp _ _ _ _ ⟨[(0, (vl 3 1 enc_i64 lo)), (1, (vl 3 1 enc_i64 hi)), (2, (vin w))], []⟩
  refine pwp_seq <| kx [] [] (zE (oNl 22 1) <| zZ) ?_
  refine pwp_seq <| pwp_seq <| kx [(14, (vb true))] [] (zM <| zE (oBk true oEq (by exact beq_iff_eq.2 (by rw [show w = 0 from hz]; rfl))) <| zZ) ?_
  refine pwp_cond (b := true) (by kernel_rfl) (fun _ => ?_) (fun h => by cases h)
  refine pwp_seq <| kx [(6, (vl 22 1 enc_sl_22 []))] [] (zE (oNl 22 1) <| zZ) ?_
  refine pwp_ret ⟨_, (.tmp (d := (.sl 22 1 (List.map enc_sl_22 []))) rfl .nil), ?_⟩
  rw [hz, stkV_0]; rfl
theorem p_joinC (n : Int) (w h m : Int) (l r d c : List Int) : Takes Try.prog 51 [(.val (.int .i64 (n))), (.cptr 1000000 (Dat.cells (encBnd (RBnd.mk w h m l r d c))) 0)] (.val (.bool ((badPx m n)))) := by
  refine fn_intro Try.func51 rfl cb51 rfl ?_
  show PWp _ _ _ _ ⟨[(0, (vi n)), (1, (.d (.cptr 1000000 (Dat.cells (encBnd (RBnd.mk w h m l r d c))) 0)))], []⟩
  refine pwp_seq <| kx [] [] (zM <| zZ) ?_
  refine pwp_seq <| kx [(3, (vb (decide (n < 0) || decide (m < n))))] [] ?_ ?_
  · refine zM <| zE oLt <| zE (oV (vb (decide (n < 0))) (mv_ok (by kernel_rfl))) <| ?_
    rcases hb1 : (decide (n < 0)) with _ | _
    · replace hb1 := of_decide_eq_false hb1
      exact zM <| zE (oFc fo44_2) <| zE (oC1 sh3) <| zE oGt <| zE oPo <| zM <| zZ
    · replace hb1 := of_decide_eq_true hb1
      exact zK <| zK <| zK <| zK <| zE oPt <| zM <| zZ
  refine pwp_ret ⟨_, (.tmp (d := (.val (.bool ((decide (n < 0) || decide (m < n)))))) rfl .nil), ?_⟩
  rfl
theorem p_joinAI (l : List Int) (qw qh qm : Int) (ql qr qd qc : List Int) (hb : l.length ≤ 1000000) : Takes Try.prog 52 [(.sl 3 1 (List.map enc_i64 l)), (.clo 51 [(.cptr 1000000 (Dat.cells (encBnd (RBnd.mk qw qh qm ql qr qd qc))) 0)])] (.val (.int .i64 ((firstIx (badPx qm) l 0)))) := by
  refine fn_intro Try.func52 rfl cb52 rfl ?_
  show PWp _ _ _ _ ⟨[(0, (vl 3 1 enc_i64 l)), (1, (.d (.clo 51 [(.cptr 1000000 (Dat.cells (encBnd (RBnd.mk qw qh qm ql qr qd qc))) 0)])))], []⟩
  refine pwp_seq <| kx [] [] (zM <| zZ) ?_
  refine pwp_seq <| pwp_seq <| kx [(7, (vin l.length)), (8, (vin 0))] [] (zM <| zE (oLm el22) <| zM <| zZ) ?_
  refine pwp_block <| pwp_loop (α := Nat) (fun k => ⟨[(0, (vl 3 1 enc_i64 l)), (1, (.d (.clo 51 [(.cptr 1000000 (Dat.cells (encBnd (RBnd.mk qw qh qm ql qr qd qc))) 0)]))), (7, (vin l.length)), (8, (vin k))], []⟩) (fun k => k ≤ l.length ∧ firstIx (badPx qm) l 0 = firstIx (badPx qm) (l.drop k) k) (fun k => l.length - k) 0 wk ⟨Nat.zero_le _, rfl⟩ ?_
  rintro k ⟨hk, hv⟩
  refine pwp_seq <| kx [(9, (vb (decide (((k : Nat) : Int) < ((l.length : Nat) : Int)))))] [] (zE oLt <| zZ) ?_
  refine pwp_seq <| pwp_cond rfl (fun h1 => ?_) (fun h1 => ?_)
  · replace h1 := of_decide_eq_true h1
    refine pwp_skip <| pwp_seq <| pwp_block <| pwp_seq <| kx [(5, (vin k))] [] (zM <| zM <| zZ) ?_
    refine pwp_seq <| kx [(16, (vb (badPx qm (l.getD k 0))))] [] (zM <| zM <| zM <| zE (oXl el22 k (0 : Int)) <| zE (oC1 sh3) <| zE (oCd (ds := [(.val (.int .i64 ((l.getD k 0))))]) (caps := [(.cptr 1000000 (Dat.cells (encBnd (RBnd.mk qw qh qm ql qr qd qc))) 0)]) (p_joinC (l.getD k 0) qw qh qm ql qr qd qc)) <| zZ) ?_
    refine pwp_cond (b := (badPx qm (l.getD k 0))) rfl (fun h2 => ?_) (fun h2 => ?_)
    · have hix := firstIx_at _ l k (by omega) h2
      refine pwp_seq <| kx [(4, (vin k))] [] (zM <| zM <| zZ) ?_
      refine pwp_ret ⟨_, (.tmp (d := (.val (.int .i64 (((k : Nat) : Int))))) rfl .nil), ?_⟩
      rw [hv, hix]; rfl
    · have hix := firstIx_step _ l k (by omega) h2
      refine pwp_skip <| kx [(8, (vin (k + 1)))] [] (zE (oAd (k + 1)) <| zM <| zZ) ?_
      exact ⟨(k + 1), wk, ⟨by omega, hv.trans hix⟩, (by omega)⟩
  · replace h1 := of_decide_eq_false h1
    have hix := firstIx_end (badPx qm) l k (by omega)
    refine pwp_exit <| pwp_seq <| kx [(4, (vi (-1)))] [] (zM <| zZ) ?_
    refine pwp_ret ⟨_, (.tmp (d := (.val (.int .i64 (-1)))) rfl .nil), ?_⟩
    rw [hv, hix]; rfl
theorem p_joinA (l : List Int) (qw qh qm : Int) (ql qr qd qc : List Int) (hb : l.length ≤ 1000000) : Takes Try.prog 36 [(.sl 3 1 (List.map enc_i64 l)), (.clo 51 [(.cptr 1000000 (Dat.cells (encBnd (RBnd.mk qw qh qm ql qr qd qc))) 0)])] (.val (.bool ((l.any (badPx qm))))) := by
  refine fn_intro Try.func36 rfl cb36 rfl ?_
  show PWp _ _ _ _ ⟨[(0, (vl 3 1 enc_i64 l)), (1, (.d (.clo 51 [(.cptr 1000000 (Dat.cells (encBnd (RBnd.mk qw qh qm ql qr qd qc))) 0)])))], []⟩
  refine pwp_seq <| kx [] [] (zM <| zZ) ?_
  refine pwp_seq <| kx [(4, (vb (decide (0 ≤ (firstIx (badPx qm) l 0)))))] [] (zM <| zM <| zE (oCl (p_joinAI l qw qh qm ql qr qd qc hb)) <| zE oGe <| zM <| zZ) ?_
  refine pwp_ret ⟨_, (.tmp (d := (.val (.bool (decide (0 ≤ (firstIx (badPx qm) l 0)))))) rfl .nil), ?_⟩
  rw [firstIx_any]; rfl
theorem p_stkG (lo hi : List Int) (w s t : Nat) (hw2 : w ≤ 1000) (hs2 : s ≤ 1000) (ht2 : t ≤ 1000) (hlo : lo.length = w * s) (hhi : hi.length = w * t) (hll : lo.length ≤ 1000000) (hlh : hi.length ≤ 1000000) (hbl : Bd 1048576 lo) (hbh : Bd 1048576 hi) (hst : s = t ∨ s = t + 1) (hst2 : s + t ≤ 1000) : Takes Try.prog 49 [.sl 3 1 (List.map enc_i64 lo), .sl 3 1 (List.map enc_i64 hi), .val (.int .i64 ((w : Nat) : Int))] (.sl 22 1 (List.map enc_sl_22 (stkV w s t lo hi))) := by
  rcases Nat.eq_zero_or_pos w with h | h
  · exact p_stk0 lo hi w s t h
  · exact p_stk lo hi w s t h hw2 hs2 ht2 hlo hhi hll hlh hbl hbh hst hst2
end Go.Proofs.Ytleidgohjckmlaa
namespace Go.Proofs.Ytleidgohjckmlaa
open Go.Fid
set_option maxRecDepth 4000
set_option linter.unusedVariables false
set_option linter.unusedSimpArgs false
theorem cb24 : callB Try.prog 24 = true := by kernel_rfl
theorem cb34 : callB Try.prog 34 = true := by kernel_rfl
theorem pl24 : placesB Try.prog 24 = some [(0, 1), (1, 1), (2, 1), (3, 1)] := by kernel_rfl
theorem ze24 : zeroB Try.prog 24 = some [.int .i64 0, .int .i64 0, .int .i64 0, .slice none 0 0] := by kernel_rfl
theorem zn24 : ZOk [.int .i64 0, .int .i64 0, .int .i64 0, .slice none 0 0] [.val (.int .i64 0), .val (.int .i64 0), .val (.int .i64 0), .val (.slice none 0 0)] := by simp [ZOk, Value.oneCell']
theorem zo24 : ZOk [.int .i64 0, .int .i64 0, .int .i64 0, .slice none 0 0] [.val (.int .i64 0), .val (.int .i64 0), .val (.int .i64 0), .sl 3 1 []] := by simp [ZOk, Value.oneCell']
theorem p_joiO (w h : Nat) (m : Int) (l r d c : List Int) (hv : BndOk w h l r d c) (hc : ((pxJ w h l r d c).any (badPx m)) = false) : Takes Try.prog 34 [(encBnd (RBnd.mk ((w : Nat) : Int) ((h : Nat) : Int) m l r d c))] (.tup [(encRst (RRst.mk ((w : Nat) : Int) ((h : Nat) : Int) m (pxJ w h l r d c))), (.val (.int .i64 (0)))]) := by
  have hv0 := hv
  obtain ⟨w1, w2, w3, w4, v1, v2, v3, v4, hbl, hbr, hbd, hbc⟩ := hv
  have b1 : 0 < (w + 1) / 2 := by omega
  have hst : (h + 1) / 2 = h / 2 ∨ (h + 1) / 2 = h / 2 + 1 := by omega
  have hll : l.length ≤ 1000000 := by rw [v1]; exact Nat.le_trans (Nat.mul_le_mul (show (w + 1) / 2 ≤ 32 by omega) (show (h + 1) / 2 ≤ 32 by omega)) (by decide)
  have hlr : r.length ≤ 1000000 := by rw [v2]; exact Nat.le_trans (Nat.mul_le_mul (show w / 2 ≤ 32 by omega) (show (h + 1) / 2 ≤ 32 by omega)) (by decide)
  have hld : d.length ≤ 1000000 := by rw [v3]; exact Nat.le_trans (Nat.mul_le_mul (show (w + 1) / 2 ≤ 32 by omega) (show h / 2 ≤ 32 by omega)) (by decide)
  have hlc : c.length ≤ 1000000 := by rw [v4]; exact Nat.le_trans (Nat.mul_le_mul (show w / 2 ≤ 32 by omega) (show h / 2 ≤ 32 by omega)) (by decide)
  obtain ⟨tL, nL, _⟩ := stkV_tab (w := (w + 1) / 2) (by omega) (by omega) (by omega) hst v1 v3 hbl hbd
  obtain ⟨tH, nH, zH⟩ := stkV_tab (w := w / 2) (by omega) (by omega) (by omega) hst v2 v4 hbr hbc
  have nL := nL b1
  have hq : w / 2 = 0 ∨ (stkV ((w + 1) / 2) ((h + 1) / 2) (h / 2) l d).length ≤ (stkV (w / 2) ((h + 1) / 2) (h / 2) r c).length := by rcases Nat.eq_zero_or_pos (w / 2) with h0 | h0; exact .inl h0; right; rw [nL, nH h0]; exact Nat.le_refl _
  have hpq : (w + 1) / 2 = w / 2 ∨ (w + 1) / 2 = w / 2 + 1 := by omega
  refine fn_intro Try.func34 rfl cb34 rfl ?_
  show PWp _ _ _ _ ⟨[(0, (.d (encBnd (RBnd.mk ((w : Nat) : Int) ((h : Nat) : Int) m l r d c))))], []⟩
  refine pwp_seq <| kx [(1, (.ref 0 0)), (2, (.ref 1 0))] [(0, some (bx (encBnd (RBnd.mk ((w : Nat) : Int) ((h : Nat) : Int) m l r d c)))), (1, some (bx (encRst (RRst.mk 0 0 0 []))))] (zN (oBx 0) <| zN (oAl 1 ze24 zo24) <| zM <| zZ) ?_
  refine pwp_seq <| kx [(4, (vl 22 1 enc_sl_22 (stkV ((w + 1) / 2) ((h + 1) / 2) (h / 2) l d)))] [] (zE (oFr fo44_3) <| zR (oL1 sh22) <| zE (oFr fo44_5) <| zR (oL1 sh22) <| zE (oFr fo44_0) <| zR (oL1 sh3) <| zE (oAd (w + 1)) <| zE (oQu ((w + 1) / 2)) <| zE (oCl (p_stkG l d ((w + 1) / 2) ((h + 1) / 2) (h / 2) (by omega) (by omega) (by omega) v1 v3 hll hld hbl hbd hst (by omega))) <| zM <| zZ) ?_
  refine pwp_seq <| kx [(5, (vl 22 1 enc_sl_22 (stkV (w / 2) ((h + 1) / 2) (h / 2) r c)))] [] (zE (oFr fo44_4) <| zR (oL1 sh22) <| zE (oFr fo44_6) <| zR (oL1 sh22) <| zE (oFr fo44_0) <| zR (oL1 sh3) <| zE (oQu (w / 2)) <| zE (oCl (p_stkG r c (w / 2) ((h + 1) / 2) (h / 2) (by omega) (by omega) (by omega) v2 v4 hlr hlc hbr hbc hst (by omega))) <| zM <| zZ) ?_
  refine pwp_seq <| kx [(6, (.ref 2 0))] [(2, some (bx (.agg [(.val (.int .i64 (((w : Nat) : Int)))), (.val (.int .i64 (((h : Nat) : Int)))), (.val (.int .i64 (m))), (.val (.slice none 0 0))])))] (zE (oFr fo44_0) <| zR (oL1 sh3) <| zE (oFr fo44_1) <| zR (oL1 sh3) <| zE (oFr fo44_2) <| zR (oL1 sh3) <| zE (oBd pl24 ze24 zn24) <| zN (oAl 2 ze24 zo24) <| zT (oSt sh24) <| zZ) ?_
  refine pwp_seq <| pwp_seq <| pwp_own 2 3 3 3 1 (cs := (bx (.agg [(.val (.int .i64 (((w : Nat) : Int)))), (.val (.int .i64 (((h : Nat) : Int)))), (.val (.int .i64 (m))), (.val (.slice none 0 0))]))) (h := ?_)
  refine pwp_sim (wk (l := [(1, (.ref 0 0)), (2, (.ref 1 0)), (4, (vl 22 1 enc_sl_22 (stkV ((w + 1) / 2) ((h + 1) / 2) (h / 2) l d))), (5, (vl 22 1 enc_sl_22 (stkV (w / 2) ((h + 1) / 2) (h / 2) r c))), (6, (.ref 2 0))]) (b := [(0, some (bx (encBnd (RBnd.mk ((w : Nat) : Int) ((h : Nat) : Int) m l r d c)))), (1, some (bx (encRst (RRst.mk 0 0 0 [])))), (2, some [(vin w), (vin h), (vi m), (.own 3 3 1 0)]), (3, some (bm enc_i64 []))])) ?_
  refine kx [(34, (vl 22 1 enc_sl_22 (stkV ((w + 1) / 2) ((h + 1) / 2) (h / 2) l d))), (35, (vin ((stkV ((w + 1) / 2) ((h + 1) / 2) (h / 2) l d).length))), (36, (vin 0))] [] (zM <| zE (oLm el66 (L := (stkV ((w + 1) / 2) ((h + 1) / 2) (h / 2) l d))) <| zM <| zZ) ?_
  refine pwp_block <| pwp_loop (α := Nat × List Int) (fun (k, out) => ⟨[(1, (.ref 0 0)), (2, (.ref 1 0)), (5, (vl 22 1 enc_sl_22 (stkV (w / 2) ((h + 1) / 2) (h / 2) r c))), (6, (.ref 2 0)), (34, (vl 22 1 enc_sl_22 (stkV ((w + 1) / 2) ((h + 1) / 2) (h / 2) l d))), (35, (vin ((stkV ((w + 1) / 2) ((h + 1) / 2) (h / 2) l d).length))), (36, (vin k))], [(0, some (bx (encBnd (RBnd.mk ((w : Nat) : Int) ((h : Nat) : Int) m l r d c)))), (1, some (bx (encRst (RRst.mk 0 0 0 [])))), (2, some [(vin w), (vin h), (vi m), (.own 3 3 1 out.length)]), (3, some (bm enc_i64 out))]⟩) (fun (k, out) => k ≤ (stkV ((w + 1) / 2) ((h + 1) / 2) (h / 2) l d).length ∧ out = (stkR (stkV ((w + 1) / 2) ((h + 1) / 2) (h / 2) l d) (stkV (w / 2) ((h + 1) / 2) (h / 2) r c) k).flatten) (fun (k, out) => (stkV ((w + 1) / 2) ((h + 1) / 2) (h / 2) l d).length - k) (0, []) wk ⟨Nat.zero_le _, rfl⟩ ?_
  rintro ⟨k, out⟩ ⟨hk, ho⟩
  have hol : out.length ≤ 1000000 := by rw [ho, stkF_len tL.1 tH.1 hq hpq k hk]; exact Nat.le_trans (Nat.mul_le_mul (show k ≤ 64 by omega) (show (w + 1) / 2 + w / 2 ≤ 64 by omega)) (by decide)
  have hgl := tab_get tL k
  have hgh := tab_get tH k
  refine pwp_seq <| kx [(37, (vb (decide (((k : Nat) : Int) < (((stkV ((w + 1) / 2) ((h + 1) / 2) (h / 2) l d).length : Nat) : Int)))))] [] (zE oLt <| zZ) ?_
  refine pwp_seq <| pwp_cond rfl (fun h1 => ?_) (fun h1 => ?_)
  · replace h1 := of_decide_eq_true h1
    refine pwp_skip <| pwp_seq <| pwp_block <| pwp_seq <| kx [(7, (vin k)), (8, (vl 3 1 enc_i64 ((stkV ((w + 1) / 2) ((h + 1) / 2) (h / 2) l d).getD k [])))] [] (zM <| zE (oXl el66 k ([] : List (Int)) (L := (stkV ((w + 1) / 2) ((h + 1) / 2) (h / 2) l d))) <| zE (oC1 sh22) <| zM <| zM <| zZ) ?_
    refine pwp_seq <| kx [(9, (vl 3 1 enc_i64 []))] [] (zE (oNl 3 1) <| zZ) ?_
    refine pwp_seq <| pwp_seq <| kx [(44, (vb (decide (((k : Nat) : Int) < (((stkV (w / 2) ((h + 1) / 2) (h / 2) r c).length : Nat) : Int)))))] [] (zM <| zM <| zE (oLm el66 (L := (stkV (w / 2) ((h + 1) / 2) (h / 2) r c))) <| zE oLt <| zZ) ?_
    refine pwp_cond rfl (fun h2 => ?_) (fun h2 => ?_)
    · replace h2 := of_decide_eq_true h2
      have hrow := row_len tL.1 tH.1 (k := k) (by omega) hq hpq
      have hpos : 0 < (joinS ((stkV ((w + 1) / 2) ((h + 1) / 2) (h / 2) l d).getD k []) ((stkV (w / 2) ((h + 1) / 2) (h / 2) r c).getD k [])).length := by omega
      refine kx [(9, (vl 3 1 enc_i64 ((stkV (w / 2) ((h + 1) / 2) (h / 2) r c).getD k [])))] [] (zM <| zM <| zE (oXl el66 k ([] : List (Int)) (L := (stkV (w / 2) ((h + 1) / 2) (h / 2) r c))) <| zE (oC1 sh22) <| zM <| zZ) ?_
      refine kd [] [(2, some [(vin w), (vin h), (vi m), (.own 4 3 1 ((out ++ (joinS ((stkV ((w + 1) / 2) ((h + 1) / 2) (h / 2) l d).getD k []) ((stkV (w / 2) ((h + 1) / 2) (h / 2) r c).getD k []))).length))]), (4, some (bm enc_i64 (out ++ (joinS ((stkV ((w + 1) / 2) ((h + 1) / 2) (h / 2) l d).getD k []) ((stkV (w / 2) ((h + 1) / 2) (h / 2) r c).getD k []))))), (3, none)] mo (wE (oFr fo24_3) <| wR (oL1 sh22) <| wM <| wM <| wE (oCl (p_join ((stkV ((w + 1) / 2) ((h + 1) / 2) (h / 2) l d).getD k []) ((stkV (w / 2) ((h + 1) / 2) (h / 2) r c).getD k []) (hgl.1.up (by decide)) (hgh.1.up (by decide)) (Nat.le_trans hgl.2 (by decide)) (Nat.le_trans hgh.2 (by decide)))) <| wA (k := 3) 4 enc_i64 out (joinS ((stkV ((w + 1) / 2) ((h + 1) / 2) (h / 2) l d).getD k []) ((stkV (w / 2) ((h + 1) / 2) (h / 2) r c).getD k [])) rfl el22 ze3 by3 (hpos := Nat.ble_eq_true_of_le hpos) <| wE (oFr fo24_3) <| wT (oSx sh22) <| wZ) ?_
      refine pwp_sim (wk (l := [(1, (.ref 0 0)), (2, (.ref 1 0)), (5, (vl 22 1 enc_sl_22 (stkV (w / 2) ((h + 1) / 2) (h / 2) r c))), (6, (.ref 2 0)), (34, (vl 22 1 enc_sl_22 (stkV ((w + 1) / 2) ((h + 1) / 2) (h / 2) l d))), (35, (vin ((stkV ((w + 1) / 2) ((h + 1) / 2) (h / 2) l d).length))), (36, (vin k))]) (b := [(0, some (bx (encBnd (RBnd.mk ((w : Nat) : Int) ((h : Nat) : Int) m l r d c)))), (1, some (bx (encRst (RRst.mk 0 0 0 [])))), (2, some [(vin w), (vin h), (vi m), (.own 4 3 1 ((out ++ (joinS ((stkV ((w + 1) / 2) ((h + 1) / 2) (h / 2) l d).getD k []) ((stkV (w / 2) ((h + 1) / 2) (h / 2) r c).getD k []))).length))]), (4, some (bm enc_i64 (out ++ (joinS ((stkV ((w + 1) / 2) ((h + 1) / 2) (h / 2) l d).getD k []) ((stkV (w / 2) ((h + 1) / 2) (h / 2) r c).getD k [])))))])) ?_
      refine pwp_sim (sim_ren2 (S' := [(1, (.ref 0 0)), (2, (.ref 1 0)), (5, (vl 22 1 enc_sl_22 (stkV (w / 2) ((h + 1) / 2) (h / 2) r c))), (6, (.ref 2 0)), (34, (vl 22 1 enc_sl_22 (stkV ((w + 1) / 2) ((h + 1) / 2) (h / 2) l d))), (35, (vin ((stkV ((w + 1) / 2) ((h + 1) / 2) (h / 2) l d).length))), (36, (vin k))]) (B' := [(0, some (bx (encBnd (RBnd.mk ((w : Nat) : Int) ((h : Nat) : Int) m l r d c)))), (1, some (bx (encRst (RRst.mk 0 0 0 [])))), (2, some [(vin w), (vin h), (vi m), (.own 3 3 1 ((out ++ (joinS ((stkV ((w + 1) / 2) ((h + 1) / 2) (h / 2) l d).getD k []) ((stkV (w / 2) ((h + 1) / 2) (h / 2) r c).getD k []))).length))]), (3, some (bm enc_i64 (out ++ (joinS ((stkV ((w + 1) / 2) ((h + 1) / 2) (h / 2) l d).getD k []) ((stkV (w / 2) ((h + 1) / 2) (h / 2) r c).getD k [])))))]) 3 4 2) ?_
      refine kx [(36, (vin (k + 1)))] [] (zE (oAd (k + 1)) <| zM <| zZ) ?_
      exact ⟨(k + 1, out ++ joinS ((stkV ((w + 1) / 2) ((h + 1) / 2) (h / 2) l d).getD k []) ((stkV (w / 2) ((h + 1) / 2) (h / 2) r c).getD k [])), wk, ⟨by omega, by rw [ho]; exact stkF_step _ _ k⟩, (by first | omega | (dsimp only; omega))⟩
    · replace h2 := of_decide_eq_false h2
      have hrow := row_len tL.1 tH.1 (k := k) (by omega) hq hpq
      rw [getD_ge (l := (stkV (w / 2) ((h + 1) / 2) (h / 2) r c)) (k := k) (by omega)] at hrow
      have hpos : 0 < (joinS ((stkV ((w + 1) / 2) ((h + 1) / 2) (h / 2) l d).getD k []) []).length := by omega
      refine pwp_skip <| kd [] [(2, some [(vin w), (vin h), (vi m), (.own 5 3 1 ((out ++ (joinS ((stkV ((w + 1) / 2) ((h + 1) / 2) (h / 2) l d).getD k []) [])).length))]), (5, some (bm enc_i64 (out ++ (joinS ((stkV ((w + 1) / 2) ((h + 1) / 2) (h / 2) l d).getD k []) [])))), (3, none)] mo (wE (oFr fo24_3) <| wR (oL1 sh22) <| wM <| wM <| wE (oCl (p_join ((stkV ((w + 1) / 2) ((h + 1) / 2) (h / 2) l d).getD k []) [] (hgl.1.up (by decide)) (fun x hx => absurd hx List.not_mem_nil) (Nat.le_trans hgl.2 (by decide)) (Nat.zero_le _))) <| wA (k := 3) 5 enc_i64 out (joinS ((stkV ((w + 1) / 2) ((h + 1) / 2) (h / 2) l d).getD k []) []) rfl el22 ze3 by3 (hpos := Nat.ble_eq_true_of_le hpos) <| wE (oFr fo24_3) <| wT (oSx sh22) <| wZ) ?_
      refine pwp_sim (wk (l := [(1, (.ref 0 0)), (2, (.ref 1 0)), (5, (vl 22 1 enc_sl_22 (stkV (w / 2) ((h + 1) / 2) (h / 2) r c))), (6, (.ref 2 0)), (34, (vl 22 1 enc_sl_22 (stkV ((w + 1) / 2) ((h + 1) / 2) (h / 2) l d))), (35, (vin ((stkV ((w + 1) / 2) ((h + 1) / 2) (h / 2) l d).length))), (36, (vin k))]) (b := [(0, some (bx (encBnd (RBnd.mk ((w : Nat) : Int) ((h : Nat) : Int) m l r d c)))), (1, some (bx (encRst (RRst.mk 0 0 0 [])))), (2, some [(vin w), (vin h), (vi m), (.own 5 3 1 ((out ++ (joinS ((stkV ((w + 1) / 2) ((h + 1) / 2) (h / 2) l d).getD k []) [])).length))]), (5, some (bm enc_i64 (out ++ (joinS ((stkV ((w + 1) / 2) ((h + 1) / 2) (h / 2) l d).getD k []) []))))])) ?_
      refine pwp_sim (sim_ren2 (S' := [(1, (.ref 0 0)), (2, (.ref 1 0)), (5, (vl 22 1 enc_sl_22 (stkV (w / 2) ((h + 1) / 2) (h / 2) r c))), (6, (.ref 2 0)), (34, (vl 22 1 enc_sl_22 (stkV ((w + 1) / 2) ((h + 1) / 2) (h / 2) l d))), (35, (vin ((stkV ((w + 1) / 2) ((h + 1) / 2) (h / 2) l d).length))), (36, (vin k))]) (B' := [(0, some (bx (encBnd (RBnd.mk ((w : Nat) : Int) ((h : Nat) : Int) m l r d c)))), (1, some (bx (encRst (RRst.mk 0 0 0 [])))), (2, some [(vin w), (vin h), (vi m), (.own 3 3 1 ((out ++ (joinS ((stkV ((w + 1) / 2) ((h + 1) / 2) (h / 2) l d).getD k []) [])).length))]), (3, some (bm enc_i64 (out ++ (joinS ((stkV ((w + 1) / 2) ((h + 1) / 2) (h / 2) l d).getD k []) []))))]) 3 5 2) ?_
      refine kx [(36, (vin (k + 1)))] [] (zE (oAd (k + 1)) <| zM <| zZ) ?_
      exact ⟨(k + 1, out ++ joinS ((stkV ((w + 1) / 2) ((h + 1) / 2) (h / 2) l d).getD k []) []), wk, ⟨by omega, by have e := getD_ge (l := (stkV (w / 2) ((h + 1) / 2) (h / 2) r c)) (k := k) (by omega); have q := stkF_step (stkV ((w + 1) / 2) ((h + 1) / 2) (h / 2) l d) (stkV (w / 2) ((h + 1) / 2) (h / 2) r c) k; rw [e] at q; rw [ho]; exact q⟩, (by first | omega | (dsimp only; omega))⟩
  · replace h1 := of_decide_eq_false h1
    have hke : out = (pxJ w h l r d c) := by rw [ho, show k = (stkV ((w + 1) / 2) ((h + 1) / 2) (h / 2) l d).length by omega]; rfl
    have hol2 : (pxJ w h l r d c).length ≤ 1000000 := by rw [← hke]; exact hol
    refine pwp_exit <| pwp_seq <| pwp_seq <| pwp_sim (publishAt (j := 2) (k := 3) (pre := [(vin w), (vin h), (vi m)]) (post := []) (es := List.map enc_i64 out) rfl (by decide) rfl (pub_cells _ _ (fun _ => rfl)) (map_len _ _ rfl) (pub_take _ _ (fun _ => rfl) rfl)) ?_
    refine pwp_sim (wk (l := [(1, (.ref 0 0)), (2, (.ref 1 0)), (5, (vl 22 1 enc_sl_22 (stkV (w / 2) ((h + 1) / 2) (h / 2) r c))), (6, (.ref 2 0)), (34, (vl 22 1 enc_sl_22 (stkV ((w + 1) / 2) ((h + 1) / 2) (h / 2) l d))), (35, (vin ((stkV ((w + 1) / 2) ((h + 1) / 2) (h / 2) l d).length))), (36, (vin k)), (37, (vb (decide (((k : Nat) : Int) < (((stkV ((w + 1) / 2) ((h + 1) / 2) (h / 2) l d).length : Nat) : Int)))))]) (b := [(0, some (bx (encBnd (RBnd.mk ((w : Nat) : Int) ((h : Nat) : Int) m l r d c)))), (1, some (bx (encRst (RRst.mk 0 0 0 [])))), (2, some (bx (encRst (RRst.mk ((w : Nat) : Int) ((h : Nat) : Int) m out))))])) ?_
    refine kx [(60, (vb (out.any (badPx m))))] [] (zE (oFr fo24_3) <| zR (oL1 sh22) <| zE (oMf [0]) <| zC (oCg [(0, (Dat.cells (encBnd (RBnd.mk ((w : Nat) : Int) ((h : Nat) : Int) m l r d c))))] [(vl 3 1 enc_i64 out), (.clo 51 [0])] (p_joinA out ((w : Nat) : Int) ((h : Nat) : Int) m l r d c hol) (.d (.c (css := [(Dat.cells (encBnd (RBnd.mk ((w : Nat) : Int) ((h : Nat) : Int) m l r d c)))]) (.cons (.head _) .nil) .nil)) (.val _)) <| zZ) ?_
    refine pwp_cond (b := (out.any (badPx m))) rfl (fun h3 => ?_) (fun h3 => ?_)
    · refine pwp_seq <| kx [(3, (vin 15))] [(1, some (bx (encRst (RRst.mk 0 0 0 []))))] (zE (oBd pl24 ze24 zo24) <| zT (oSt sh24) <| zM <| zZ) ?_
      refine pwp_ret ⟨_, (res_a (cs := (bx (encRst (RRst.mk 0 0 0 [])))) (d := (encRst (RRst.mk 0 0 0 []))) rfl rfl sh24 rfl rfl (.tmp (d := (.val (.int .i64 (15)))) rfl .nil)), ?_⟩
      exact absurd h3 (by rw [hke, hc]; decide)
    · refine pwp_skip <| pwp_seq <| kx [(3, (vin 0))] [(1, some (bx (encRst (RRst.mk ((w : Nat) : Int) ((h : Nat) : Int) m out))))] (zR (oLa sh24) <| zT (oSt sh24) <| zM <| zZ) ?_
      refine pwp_ret ⟨_, (res_a (cs := (bx (encRst (RRst.mk ((w : Nat) : Int) ((h : Nat) : Int) m out)))) (d := (encRst (RRst.mk ((w : Nat) : Int) ((h : Nat) : Int) m out))) rfl rfl sh24 rfl rfl (.tmp (d := (.val (.int .i64 (0)))) rfl .nil)), ?_⟩
      rw [hke]; rfl
theorem p_joV (w h : Nat) (m : Int) (l r d c : List Int) (hnl : l.length ≤ 1000000) (hnr : r.length ≤ 1000000) (hnd : d.length ≤ 1000000) (hnc : c.length ≤ 1000000) (hf : vBnd ((w : Nat) : Int) ((h : Nat) : Int) m l r d c = true) (hv : BndOk w h l r d c) (hc : ((pxJ w h l r d c).any (badPx m)) = false) : Takes Try.prog 24 [(encBnd (RBnd.mk ((w : Nat) : Int) ((h : Nat) : Int) m l r d c))] (.tup [(encRst (RRst.mk ((w : Nat) : Int) ((h : Nat) : Int) m (pxJ w h l r d c))), (.val (.int .i64 (0)))]) := by
  refine fn_intro Try.func24 rfl cb24 rfl ?_
  show PWp _ _ _ _ ⟨[(0, (.d (encBnd (RBnd.mk ((w : Nat) : Int) ((h : Nat) : Int) m l r d c))))], []⟩
  refine pwp_seq <| kx [(1, (.ref 0 0)), (2, (.ref 1 0))] [(0, some (bx (encBnd (RBnd.mk ((w : Nat) : Int) ((h : Nat) : Int) m l r d c)))), (1, some (bx (encRst (RRst.mk 0 0 0 []))))] (zN (oBx 0) <| zN (oAl 1 ze24 zo24) <| zM <| zZ) ?_
  refine pwp_seq <| pwp_seq <| kx [(6, (vb false))] [] (zR (oLa sh44) <| zE (oBk true (oCl (p_valid ((w : Nat) : Int) ((h : Nat) : Int) m l r d c hnl hnr hnd hnc)) (by exact hf)) <| zE oNt <| zZ) ?_
  refine pwp_cond (b := false) (by kernel_rfl) (fun h => by cases h) (fun _ => ?_)
  refine pwp_skip <| pwp_seq <| kx [(3, (vi 0))] [(1, some (bx (encRst (RRst.mk ((w : Nat) : Int) ((h : Nat) : Int) m (pxJ w h l r d c)))))] (zR (oLa sh44) <| zE (oCl (p_joiO w h m l r d c hv hc)) <| zE oEx <| zE oEx <| zT (oSt sh24) <| zM <| zZ) ?_
  refine pwp_ret ⟨_, (res_a (cs := (bx (encRst (RRst.mk ((w : Nat) : Int) ((h : Nat) : Int) m (pxJ w h l r d c))))) (d := (encRst (RRst.mk ((w : Nat) : Int) ((h : Nat) : Int) m (pxJ w h l r d c)))) rfl rfl sh24 rfl rfl (.tmp (d := (.val (.int .i64 (0)))) rfl .nil)), ?_⟩
  rfl
end Go.Proofs.Ytleidgohjckmlaa
namespace Go.Proofs.Ytleidgohjckmlaa
open Go.Fid
set_option maxRecDepth 4000
set_option linter.unusedVariables false
set_option linter.unusedSimpArgs false
theorem cb27 : callB Try.prog 27 = true := by kernel_rfl
theorem p_pix (x : Int) (y : Int) (w h : Nat) (mx : Int) (px : List Int) (hv : RstOk w h px) (hx1 : -1000 ≤ x) (hx2 : x ≤ 1000) (hy1 : -1000 ≤ y) (hy2 : y ≤ 1000) : Takes Try.prog 27 [(.val (.int .i64 (x))), (.val (.int .i64 (y))), (.cptr 1000000 (Dat.cells (encRst (RRst.mk ((w : Nat) : Int) ((h : Nat) : Int) mx px))) 0)] (.val (.int .i64 ((pixA w h px x y)))) := by
  obtain ⟨hm1, hm2⟩ := pix_lt hv x.toNat y.toNat
  obtain ⟨w1, w2, w3, w4, w5, w6⟩ := hv
  refine fn_intro Try.func27 rfl cb27 rfl ?_
  show PWp _ _ _ _ ⟨[(0, (vi x)), (1, (vi y)), (2, (.d (.cptr 1000000 (Dat.cells (encRst (RRst.mk ((w : Nat) : Int) ((h : Nat) : Int) mx px))) 0)))], []⟩
  refine pwp_seq <| kx [] [] (zM <| zZ) ?_
  refine pwp_seq <| kx [(5, (vi (px.getD (((min y.toNat (h - 1)) * w) + (min x.toNat (w - 1))) 0)))] [] (zE (oFc fo24_3) <| zE (oC1 sh22) <| zM <| zE (zMx ((y.toNat : Nat) : Int) (hr := by first | omega | (dsimp only; omega))) <| zE (oFc fo24_1) <| zE (oC1 sh3) <| zE (oSb (h - 1)) <| zE (oMn (min y.toNat (h - 1))) <| zE (oFc fo24_0) <| zE (oC1 sh3) <| zE (oMl ((min y.toNat (h - 1)) * w)) <| zM <| zE (zMx ((x.toNat : Nat) : Int) (hr := by first | omega | (dsimp only; omega))) <| zE (oFc fo24_0) <| zE (oC1 sh3) <| zE (oSb (w - 1)) <| zE (oMn (min x.toNat (w - 1))) <| zE (oAd (((min y.toNat (h - 1)) * w) + (min x.toNat (w - 1)))) <| zE (oXl el22 (((min y.toNat (h - 1)) * w) + (min x.toNat (w - 1))) (0 : Int) (L := px)) <| zE (oC1 sh3) <| zM <| zZ) ?_
  refine pwp_ret ⟨_, (.tmp (d := (.val (.int .i64 ((px.getD (((min y.toNat (h - 1)) * w) + (min x.toNat (w - 1))) 0))))) rfl .nil), ?_⟩
  rfl
end Go.Proofs.Ytleidgohjckmlaa
set_option linter.unusedVariables false
set_option linter.unusedSimpArgs false
namespace Go.Fid
theorem py_range_getD {α : Type} (d : α) (l : List α) : ((List.range l.length).map fun x => l.getD x d) = l := by
  apply List.ext_getElem
  · simp
  · intro n h1 h2; simp [List.getD_eq_getElem?_getD, List.getElem?_eq_getElem h2]
theorem ne_len {T : List (List Int)} (h : 0 < T.length) : T ≠ [] := fun e => by rw [e] at h; exact absurd h (by decide)
theorem tr_zero (T : List (List Int)) : tr 0 T = [] := rfl
theorem rect_lo {w : Nat} {T : List (List Int)} (h : Rect w T) : Rect ((w + 1) / 2) (T.map loS) := fun r hr => by
  obtain ⟨q, hq, rfl⟩ := List.mem_map.1 hr; rw [loS_len, h q hq]
theorem rect_hi {w : Nat} {T : List (List Int)} (h : Rect w T) : Rect (w / 2) (T.map hiS) := fun r hr => by
  obtain ⟨q, hq, rfl⟩ := List.mem_map.1 hr; rw [hiS_len, h q hq]
end Go.Fid
set_option linter.unusedVariables false
set_option linter.unusedSimpArgs false
namespace Go.Fid
theorem col_len {W : Nat} {A : List (List Int)} (hA : Rect W A) (hne : 0 < A.length) : (colLo A).length = W * ((A.length + 1) / 2) ∧ (colHi A).length = W * (A.length / 2) := by
  have e1 : trP A = tr W A := trP_eq hA (ne_len hne)
  have hr := tr_rect W A
  have hlen := tr_len W A
  unfold colLo colHi
  rw [e1]
  rcases Nat.eq_zero_or_pos W with h0 | h0
  · subst h0; rw [tr_zero]; constructor <;> (rw [Nat.zero_mul]; rfl)
  · have h1 : 0 < ((tr W A).map loS).length := by rw [List.length_map, hlen]; exact h0
    have h2 : 0 < ((tr W A).map hiS).length := by rw [List.length_map, hlen]; exact h0
    rw [trP_eq (rect_lo hr) (ne_len h1), trP_eq (rect_hi hr) (ne_len h2), flat_len (tr_rect _ _), flat_len (tr_rect _ _), tr_len, tr_len, List.length_map, List.length_map, hlen]
    exact ⟨rfl, rfl⟩
theorem bands_ok {w h : Nat} {px : List Int} (hv : RstOk w h px) : BndOk w h (bLow w h px) (bRight w h px) (bDown w h px) (bCorner w h px) := by
  have hT := rows_tab hv
  obtain ⟨w1, w2, h1, h2, hl, _⟩ := hv
  have hTl := rowsOf_len w h px
  have hA := tab_lo hT
  have hB := tab_hi hT
  obtain ⟨a1, a2⟩ := col_len hA.1 (by rw [List.length_map, hTl]; omega)
  obtain ⟨b1, b2⟩ := col_len hB.1 (by rw [List.length_map, hTl]; omega)
  rw [List.length_map, hTl] at a1 a2 b1 b2
  exact ⟨w1, w2, h1, h2, a1, b1, a2, b2, (tab_fbd (tab_tr (tab_lo (tab_tr hA)))).up (by decide), (tab_fbd (tab_tr (tab_lo (tab_tr hB)))).up (by decide), (tab_fbd (tab_tr (tab_hi (tab_tr hA)))).up (by decide), (tab_fbd (tab_tr (tab_hi (tab_tr hB)))).up (by decide)⟩
theorem rst_chk {w h : Nat} {mx : Int} {px : List Int} (w1 : 1 ≤ w) (w2 : w ≤ 64) (h1 : 1 ≤ h) (h2 : h ≤ 64) (hl : px.length = w * h) (m1 : 1 ≤ mx) (m2 : mx ≤ 65535) (hp : px.any (badPx mx) = false) : chkC ((w : Nat) : Int) ((h : Nat) : Int) mx px = 0 := by
  have : chkB ((w : Nat) : Int) ((h : Nat) : Int) mx px = false := by
    simp only [chkB, Bool.or_eq_false_iff, bne_eq_false_iff_eq, decide_eq_false_iff_not]
    refine ⟨⟨⟨by omega, by omega⟩, by omega⟩, ?_⟩
    rw [hl]; rfl
  exact chk_3 this hp
theorem px_ok {mx : Int} {px : List Int} : px.any (badPx mx) = false ↔ ∀ x ∈ px, 0 ≤ x ∧ x ≤ mx := by
  rw [List.any_eq_false]
  constructor
  · intro h x hx; have := h x hx; simp only [badPx, Bool.or_eq_true, decide_eq_true_eq, not_or] at this; omega
  · intro h x hx; have := h x hx; simp only [badPx, Bool.or_eq_true, decide_eq_true_eq, not_or]; omega
def smS (w h : Nat) (px : List Int) (x y : Int) : Int :=
  8 + 1 * pixA w h px (x - 1) (y - 1) + 2 * pixA w h px x (y - 1) + 1 * pixA w h px (x + 1) (y - 1)
    + 2 * pixA w h px (x - 1) y + 4 * pixA w h px x y + 2 * pixA w h px (x + 1) y
    + 1 * pixA w h px (x - 1) (y + 1) + 2 * pixA w h px x (y + 1) + 1 * pixA w h px (x + 1) (y + 1)
def smP (w h : Nat) (px : List Int) (i : Nat) : Int := (smS w h px ((i % w : Nat) : Int) ((i / w : Nat) : Int)).tdiv 16
def smV (w h : Nat) (px : List Int) : List Int := (List.range (w * h)).map (smP w h px)
theorem smV_len (w h : Nat) (px : List Int) : (smV w h px).length = w * h := by simp [smV]
theorem range_getD {f : Nat → Int} {n i : Nat} (h : i < n) : ((List.range n).map f).getD i 0 = f i := by
  simp [List.getD_eq_getElem?_getD, h]
theorem range_map_step (f : Nat → Int) {n : Nat} {out : List Int} (ho : out = (List.range n).map f) : out ++ [f n] = (List.range (n + 1)).map f := by
  rw [ho, List.range_succ, List.map_append]; rfl
theorem mod_at {w x y : Nat} (hx : x < w) : (y * w + x) % w = x ∧ (y * w + x) / w = y := by
  refine ⟨by rw [Nat.mul_comm, Nat.mul_add_mod, Nat.mod_eq_of_lt hx], ?_⟩
  rw [Nat.mul_comm, Nat.mul_add_div (by omega), Nat.div_eq_of_lt hx, Nat.add_zero]
theorem smP_at {w h x y : Nat} {px : List Int} (hx : x < w) : smP w h px (y * w + x) = (smS w h px ((x : Nat) : Int) ((y : Nat) : Int)).tdiv 16 := by
  obtain ⟨a, b⟩ := mod_at (y := y) hx
  rw [smP, a, b]
theorem sm_step {w h x y : Nat} {px out : List Int} (ho : out = (List.range (y * w + x)).map (smP w h px)) (hx : x < w) : out ++ [(smS w h px ((x : Nat) : Int) ((y : Nat) : Int)).tdiv 16] = (List.range (y * w + (x + 1))).map (smP w h px) := by
  rw [← smP_at hx]; exact range_map_step _ ho
theorem sm_row {w h y x : Nat} {px out : List Int} (ho : out = (List.range (y * w + x)).map (smP w h px)) (hx : x = w) : out = (List.range ((y + 1) * w + 0)).map (smP w h px) := by
  rw [ho, hx]; congr 2; rw [Nat.add_mul, Nat.one_mul]; omega
theorem lin_le {w h y x : Nat} (hw : w ≤ 64) (hh : h ≤ 64) (hy : y ≤ h) (hx : x ≤ w) : y * w + x ≤ 1000000 := by
  have : y * w ≤ 64 * 64 := Nat.mul_le_mul (by omega) hw
  omega
theorem sm_end {w h y : Nat} {px : List Int} (hy : y = h) : (List.range (y * w + 0)).map (smP w h px) = smV w h px := by rw [hy, smV, Nat.add_zero, Nat.mul_comm]
theorem td16_bd (n : Int) : (0 ≤ n ∧ 0 ≤ n.tdiv 16 ∧ n.tdiv 16 ≤ n) ∨ (n < 0 ∧ n ≤ n.tdiv 16 ∧ n.tdiv 16 ≤ 0) := by
  by_cases h : 0 ≤ n
  · left; rw [Int.tdiv_eq_ediv_of_nonneg h]; omega
  · right
    obtain ⟨m, rfl⟩ : ∃ m : Int, n = -m := ⟨-n, by omega⟩
    rw [Int.neg_tdiv, Int.tdiv_eq_ediv_of_nonneg (by omega)]; omega
theorem pixA_mem {w h : Nat} {px : List Int} (hv : RstOk w h px) (x y : Int) : pixA w h px x y ∈ px := by
  obtain ⟨_, hlt⟩ := pix_lt hv x.toNat y.toNat
  unfold pixA
  rw [List.getD_eq_getElem?_getD, List.getElem?_eq_getElem hlt]
  exact List.getElem_mem hlt
theorem smS_le {w h : Nat} {px : List Int} {a b : Int} (hv : RstOk w h px) (hb : ∀ x ∈ px, a ≤ x ∧ x ≤ b) (x y : Int) : 16 * a + 8 ≤ smS w h px x y ∧ smS w h px x y ≤ 16 * b + 8 := by
  have p := fun x y => hb _ (pixA_mem hv x y)
  have p1 := p (x - 1) (y - 1); have p2 := p x (y - 1); have p3 := p (x + 1) (y - 1)
  have p4 := p (x - 1) y; have p5 := p x y; have p6 := p (x + 1) y
  have p7 := p (x - 1) (y + 1); have p8 := p x (y + 1); have p9 := p (x + 1) (y + 1)
  unfold smS; omega
theorem td16 {n : Int} (h : 0 ≤ n) : n.tdiv 16 = n / 16 := Int.tdiv_eq_ediv_of_nonneg h
theorem smP_le {w h : Nat} {px : List Int} {a b : Int} (hv : RstOk w h px) (h0 : 0 ≤ a) (hb : ∀ x ∈ px, a ≤ x ∧ x ≤ b) (i : Nat) : a ≤ smP w h px i ∧ smP w h px i ≤ b := by
  have := smS_le hv hb ((i % w : Nat) : Int) ((i / w : Nat) : Int)
  unfold smP; rw [td16 (by omega)]; omega
theorem smV_le {w h : Nat} {px : List Int} {a b : Int} (hv : RstOk w h px) (h0 : 0 ≤ a) (hb : ∀ x ∈ px, a ≤ x ∧ x ≤ b) : ∀ x ∈ smV w h px, a ≤ x ∧ x ≤ b := fun x hx => by
  obtain ⟨i, _, rfl⟩ := List.mem_map.1 hx; exact smP_le hv h0 hb i
def pySum : List Int → Int
  | [] => 0
  | a :: l => a + pySum l
theorem pySum_app (l m : List Int) : pySum (l ++ m) = pySum l + pySum m := by
  induction l with
  | nil => simp [pySum]
  | cons a l ih => simp only [List.cons_append, pySum, ih]; omega
theorem pySum_step {l : List Int} {k : Nat} (h : k < l.length) : pySum (l.take k) + l.getD k 0 = pySum (l.take (k + 1)) := by
  rw [take_one h, pySum_app]; simp [pySum]
theorem Bd_take {n : Int} {l : List Int} (h : Bd n l) (k : Nat) : Bd n (l.take k) := fun x hx => h x (List.mem_of_mem_take hx)
theorem pySum_bd {l : List Int} (h : Bd 65535 l) : -(65535 * (l.length : Int)) ≤ pySum l ∧ pySum l ≤ 65535 * (l.length : Int) := by
  induction l with
  | nil => simp [pySum]
  | cons a l ih =>
    have h1 := h a (.head _)
    have h2 := ih fun x hx => h x (.tail _ hx)
    simp only [pySum, List.length_cons]; omega
theorem rst_pos {w h : Nat} {px : List Int} (hv : RstOk w h px) : 0 < px.length := by
  obtain ⟨w1, _, h1, _, hl, _⟩ := hv
  rw [hl]; exact Nat.mul_pos w1 h1
theorem mean_ql {w h : Nat} {px : List Int} (hv : RstOk w h px) : QL (Rat.divInt (pySum px) ((px.length : Nat) : Int)) 3 := by
  have h1 := pySum_bd hv.2.2.2.2.2
  have h2 := rst_len hv
  exact ql_divInt (n := 3) (lenZ_int (by omega) (by omega)) (lenZ_int (by omega) (by omega)) (by decide)
end Go.Fid
