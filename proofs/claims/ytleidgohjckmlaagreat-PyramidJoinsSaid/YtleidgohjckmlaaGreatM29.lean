/- Part 29 of a proof: rules, plain facts, and functions walked. -/
import Derived.Test.YtleidgohjckmlaaGreatM28
namespace Go.Proofs.YtleidgohjckmlaaGreat
open Go.Fid
set_option maxRecDepth 4000
set_option linter.unusedVariables false
set_option linter.unusedSimpArgs false
theorem cb35 : callB Tryz.prog 35 = true := by kernel_rfl
theorem cb36 : callB Tryz.prog 36 = true := by kernel_rfl
theorem p_ljoin (lo : List Int) (hi : List Int) (hl : Bd 1099511627776 lo) (hh : Bd 1099511627776 hi) (hb : lo.length ≤ 1000000) (hb2 : hi.length ≤ 1000000) (hst : lo.length = hi.length ∨ lo.length = hi.length + 1) : Takes Tryz.prog 36 [(.sl 3 1 (List.map enc_i64 lo)), (.sl 3 1 (List.map enc_i64 hi))] (.sl 3 1 (List.map enc_i64 (joinS lo hi))) := by
  refine fn_intro Tryz.func36 rfl cb36 rfl ?_
  show PWp _ _ _ _ ⟨[(0, (vl 3 1 enc_i64 lo)), (1, (vl 3 1 enc_i64 hi))], []⟩
  refine pwp_seq <| kx [] [] (zE (oNl 3 1) <| zZ) ?_
  refine pwp_seq <| kx [(5, (.own 0 3 1 0))] [(0, some (bm enc_i64 []))] (zO 0 3 1 <| zZ) ?_
  refine pwp_seq <| pwp_seq <| kx [(9, (vl 3 1 enc_i64 hi)), (10, (vin hi.length)), (11, (vin 0))] [] (zM <| zE (oLm el22) <| zM <| zZ) ?_
  refine pwp_block <| pwp_loop (α := Nat × List Int) (fun (i, out) => ⟨[(0, (vl 3 1 enc_i64 lo)), (1, (vl 3 1 enc_i64 hi)), (5, (.own 0 3 1 out.length)), (9, (vl 3 1 enc_i64 hi)), (10, (vin hi.length)), (11, (vin i))], [(0, some (bm enc_i64 out))]⟩) (fun (i, out) => i ≤ hi.length ∧ out = joinS (lo.take i) (hi.take i)) (fun (i, out) => hi.length - i) (0, []) wk ⟨Nat.zero_le _, by simp [joinS]⟩ ?_
  rintro ⟨i, out⟩ ⟨hi2, ho⟩
  have h0_ := hl.get (by decide) i
  have h1_ := hh.get (by decide) i
  have hf := fdiv2 (hi.getD i 0 + 1)
  have hll : out.length ≤ 2000000 := by rw [ho]; exact Nat.le_trans (joinS_le _ _) (by rw [List.length_take]; omega)
  refine pwp_seq <| kx [(12, (vb (decide (((i : Nat) : Int) < ((hi.length : Nat) : Int)))))] [] (zE oLt <| zZ) ?_
  refine pwp_seq <| pwp_cond rfl (fun h1 => ?_) (fun h1 => ?_)
  · replace h1 := of_decide_eq_true h1
    refine pwp_skip <| pwp_seq <| pwp_block <| pwp_seq <| kx [(6, (vin i)), (7, (vi (hi.getD i 0)))] [] (zM <| zE (oXl el22 i (0 : Int)) <| zE (oC1 sh3) <| zM <| zM <| zZ) ?_
    refine pwp_seq <| kd [(8, (vi ((lo.getD i 0) + (((hi.getD i 0) + 1).fdiv 2))))] [] mo (wM <| wM <| wE (oXl el22 i (0 : Int)) <| wE (oC1 sh3) <| wM <| wE (zAd ((hi.getD i 0) + 1)) <| wE (oCl (p_floor ((hi.getD i 0) + 1) (by omega) (by omega))) <| wE (zAd ((lo.getD i 0) + (((hi.getD i 0) + 1).fdiv 2))) <| wM <| wZ) ?_
    refine kf [(5, (.own 0 3 1 ((out ++ [((lo.getD i 0) + (((hi.getD i 0) + 1).fdiv 2)), (((lo.getD i 0) + (((hi.getD i 0) + 1).fdiv 2)) - (hi.getD i 0))]).length)))] [(0, some (bm enc_i64 (out ++ [((lo.getD i 0) + (((hi.getD i 0) + 1).fdiv 2)), (((lo.getD i 0) + (((hi.getD i 0) + 1).fdiv 2)) - (hi.getD i 0))])))] (zM <| zM <| zM <| zM <| zE (zSb (((lo.getD i 0) + (((hi.getD i 0) + 1).fdiv 2)) - (hi.getD i 0))) <| zE (oBs el22 ze3 zo3) <| zA enc_i64 out [((lo.getD i 0) + (((hi.getD i 0) + 1).fdiv 2)), (((lo.getD i 0) + (((hi.getD i 0) + 1).fdiv 2)) - (hi.getD i 0))] rfl el22 ze3 by3 <| zM <| zF) ?_
    refine kx [(11, (vin (i + 1)))] [] (zE (oAd (i + 1)) <| zM <| zZ) ?_
    exact ⟨(i + 1, out ++ [(lo.getD i 0 + ((hi.getD i 0 + 1).fdiv 2)), ((lo.getD i 0 + ((hi.getD i 0 + 1).fdiv 2)) - hi.getD i 0)]), wk, ⟨by omega, join_step ho (by omega) (by omega)⟩, (by first | omega | (dsimp only; omega))⟩
  · replace h1 := of_decide_eq_false h1
    have hie : i = hi.length := by omega
    refine pwp_exit <| pwp_seq <| pwp_seq <| kx [(36, (vb (decide (((hi.length : Nat) : Int) < ((lo.length : Nat) : Int)))))] [] (zM <| zE (oLm el22) <| zM <| zE (oLm el22) <| zE oGt <| zZ) ?_
    refine pwp_cond rfl (fun h2 => ?_) (fun h2 => ?_)
    · replace h2 := of_decide_eq_true h2
      refine kf [(5, (.own 0 3 1 ((out ++ [(lo.getD (lo.length - 1) 0)]).length)))] [(0, some (bm enc_i64 (out ++ [(lo.getD (lo.length - 1) 0)])))] (zM <| zM <| zM <| zE (oLm el22) <| zE (oSb (lo.length - 1)) <| zE (oXl el22 (lo.length - 1) (0 : Int)) <| zE (oC1 sh3) <| zE (oBs el22 ze3 zo3) <| zA enc_i64 out [(lo.getD (lo.length - 1) 0)] rfl el22 ze3 by3 <| zM <| zF) ?_
      refine pwp_seq <| kx [(4, (.own 0 3 1 ((out ++ [(lo.getD (lo.length - 1) 0)]).length)))] [] (zM <| zM <| zZ) ?_
      refine pwp_sim (publish (t := 4) (k := 0) (es := List.map enc_i64 (out ++ [(lo.getD (lo.length - 1) 0)])) rfl rfl (pub_cells _ _ (fun _ => rfl)) (map_len _ _ rfl) (pub_take _ _ (fun _ => rfl) rfl)) ?_
      refine pwp_ret ⟨_, (.tmp (d := (.sl 3 1 (List.map enc_i64 (out ++ [(lo.getD (lo.length - 1) 0)])))) rfl .nil), ?_⟩
      rw [show lo.length - 1 = i by omega, join_odd ho (by omega) hie]; rfl
    · replace h2 := of_decide_eq_false h2
      refine pwp_skip <| pwp_seq <| kx [(4, (.own 0 3 1 out.length))] [] (zM <| zM <| zZ) ?_
      refine pwp_sim (publish (t := 4) (k := 0) (es := List.map enc_i64 out) rfl rfl (pub_cells _ _ (fun _ => rfl)) (map_len _ _ rfl) (pub_take _ _ (fun _ => rfl) rfl)) ?_
      refine pwp_ret ⟨_, (.tmp (d := (.sl 3 1 (List.map enc_i64 out))) rfl .nil), ?_⟩
      rw [join_end ho (by omega) (by omega)]; rfl
theorem p_lrows0 (l : List Int) (w : Nat) (hw : w = 0) : Takes Tryz.prog 28 [(.sl 3 1 (List.map enc_i64 l)), (.val (.int .i64 (((w : Nat) : Int))))] (.sl 22 1 (List.map enc_sl_22 [])) := by
  refine fn_intro Tryz.func28 rfl cb28 rfl ?_
  show PWp _ _ _ _ ⟨[(0, (vl 3 1 enc_i64 l)), (1, (vin w))], []⟩
  refine pwp_seq <| kx [] [] (zE (oNl 22 1) <| zZ) ?_
  refine pwp_seq <| kx [(5, (vl 22 1 enc_sl_22 []))] [] (zE (oNl 22 1) <| zZ) ?_
  refine pwp_seq <| pwp_seq <| kx [(6, (vin 0))] [] (zM <| zZ) ?_
  refine pwp_block <| pwp_loop (α := Nat) (fun i => ⟨[(0, (vl 3 1 enc_i64 l)), (1, (vin w)), (5, (vl 22 1 enc_sl_22 [])), (6, (vin i))], []⟩) (fun i => i = 0) (fun i => 0) 0 wk rfl ?_
  rintro i hi
  refine pwp_seq <| pwp_seq <| kx [(16, (vb false))] [] (zM <| zE (oBk false oGt (by exact decide_eq_false (by omega))) <| zM <| zK <| zK <| zK <| zK <| zK <| zK <| zE oPf <| zZ) ?_
  refine pwp_cond (b := false) (by kernel_rfl) (fun h => by cases h) (fun _ => ?_)
  refine pwp_exit <| pwp_seq <| kx [(4, (vl 22 1 enc_sl_22 []))] [] (zM <| zM <| zZ) ?_
  refine pwp_ret ⟨_, (.tmp (d := (.sl 22 1 (List.map enc_sl_22 []))) rfl .nil), ?_⟩
  rfl
theorem p_ltr0  : Takes Tryz.prog 30 [(.sl 22 1 (List.map enc_sl_22 []))] (.sl 22 1 (List.map enc_sl_22 [])) := by
  refine fn_intro Tryz.func30 rfl cb30 rfl ?_
  show PWp _ _ _ _ ⟨[(0, (vl 22 1 enc_sl_22 []))], []⟩
  refine pwp_seq <| kx [] [] (zE (oNl 22 1) <| zZ) ?_
  refine pwp_seq <| kx [(3, (vl 22 1 enc_sl_22 []))] [] (zE (oNl 22 1) <| zZ) ?_
  refine pwp_seq <| pwp_seq <| kx [(9, (vb true))] [] (zM <| zE (oLn el58 0) <| zE oEq <| zZ) ?_
  refine pwp_cond (b := true) (by kernel_rfl) (fun _ => ?_) (fun h => by cases h)
  refine pwp_seq <| kx [(2, (vl 22 1 enc_sl_22 []))] [] (zE (oNl 22 1) <| zZ) ?_
  refine pwp_ret ⟨_, (.tmp (d := (.sl 22 1 (List.map enc_sl_22 []))) rfl .nil), ?_⟩
  rfl
theorem p_lst (lo : List Int) (hi : List Int) (w : Nat) (s t : Nat) (hw : 0 < w) (hw2 : w ≤ 1000) (hs2 : s ≤ 1000) (ht2 : t ≤ 1000) (hlo : lo.length = w * s) (hhi : hi.length = w * t) (hll : lo.length ≤ 1000000) (hlh : hi.length ≤ 1000000) (hbl : Bd 1048576 lo) (hbh : Bd 1048576 hi) (hst : s = t ∨ s = t + 1) (hst2 : s + t ≤ 1000) (hs0 : 0 < s) : Takes Tryz.prog 35 [(.sl 3 1 (List.map enc_i64 lo)), (.sl 3 1 (List.map enc_i64 hi)), (.val (.int .i64 (((w : Nat) : Int))))] (.sl 22 1 (List.map enc_sl_22 (stkV w s t lo hi))) := by
  have hA := rows_tabG hw2 hs2 hlo hbl (by decide)
  have hB := rows_tabG hw2 ht2 hhi hbh (by decide)
  have hA1 := tab_tr hA
  have hB1 := tab_tr hB
  rw [rowsOf_len] at hA1 hB1
  have hal := tab_len hA1
  have hbl1 := tab_len hB1
  have hlens := stk_lens hlo hhi
  have hAl := trP_len hA.1 (by rw [rowsOf_len]; exact hs0)
  refine fn_intro Tryz.func35 rfl cb35 rfl ?_
  show PWp _ _ _ _ ⟨[(0, (vl 3 1 enc_i64 lo)), (1, (vl 3 1 enc_i64 hi)), (2, (vin w))], []⟩
  refine pwp_seq <| kx [] [] (zE (oNl 22 1) <| zZ) ?_
  refine pwp_seq <| kx [(7, (.own 0 22 1 0))] [(0, some (bm enc_sl_22 []))] (zO 0 22 1 <| zZ) ?_
  refine pwp_seq <| kx [(8, (vl 22 1 enc_sl_22 (trP (rowsOf w s lo)))), (9, (vl 22 1 enc_sl_22 (trP (rowsOf w t hi))))] [] (zM <| zM <| zE (oCl (p_lrows lo w s hw (by omega) hlo hll)) <| zE (oCl (p_ltr (rowsOf w s lo) w (tab_up hA (by decide)))) <| zM <| zM <| zE (oCl (p_lrows hi w t hw (by omega) hhi hlh)) <| zE (oCl (p_ltr (rowsOf w t hi) w (tab_up hB (by decide)))) <| zM <| zM <| zZ) ?_
  refine pwp_seq <| pwp_seq <| kx [(21, (vin ((trP (rowsOf w s lo)).length))), (22, (vin 0))] [] (zM <| zE (oLm el58 (L := (trP (rowsOf w s lo)))) <| zM <| zZ) ?_
  refine pwp_block <| pwp_loop (α := Nat × List (List Int)) (fun (k, out) => ⟨[(7, (.own 0 22 1 out.length)), (8, (vl 22 1 enc_sl_22 (trP (rowsOf w s lo)))), (9, (vl 22 1 enc_sl_22 (trP (rowsOf w t hi)))), (21, (vin ((trP (rowsOf w s lo)).length))), (22, (vin k))], [(0, some (bm enc_sl_22 out))]⟩) (fun (k, out) => k ≤ (trP (rowsOf w s lo)).length ∧ out = stkR (trP (rowsOf w s lo)) (trP (rowsOf w t hi)) k) (fun (k, out) => (trP (rowsOf w s lo)).length - k) (0, []) wk ⟨Nat.zero_le _, rfl⟩ ?_
  rintro ⟨k, out⟩ ⟨hk, ho⟩
  have hol : out.length ≤ 1000 := by rw [ho, stkR_len]; omega
  have hga := tab_get hA1 k
  have hgb := tab_get hB1 k
  have hout := ho ▸ stk_tab hA1 hB1 hst hlens hk hst2
  refine pwp_seq <| kx [(23, (vb (decide (((k : Nat) : Int) < (((trP (rowsOf w s lo)).length : Nat) : Int)))))] [] (zE oLt <| zZ) ?_
  refine pwp_seq <| pwp_cond rfl (fun h1 => ?_) (fun h1 => ?_)
  · replace h1 := of_decide_eq_true h1
    have hra := rect_get hA1.1 (y := k) (by omega)
    have hrb := lay_len hw hhi k (by omega)
    refine pwp_skip <| pwp_seq <| pwp_block <| pwp_seq <| kx [(10, (vin k))] [] (zM <| zM <| zZ) ?_
    refine pwp_seq <| kx [(11, (vl 3 1 enc_i64 []))] [] (zE (oNl 3 1) <| zZ) ?_
    refine pwp_seq <| pwp_seq <| kx [(28, (vb (decide (((k : Nat) : Int) < (((trP (rowsOf w t hi)).length : Nat) : Int)))))] [] (zM <| zM <| zE (oLm el58 (L := (trP (rowsOf w t hi)))) <| zE oLt <| zZ) ?_
    refine pwp_cond rfl (fun h2 => ?_) (fun h2 => ?_)
    · replace h2 := of_decide_eq_true h2
      refine kx [(11, (vl 3 1 enc_i64 ((trP (rowsOf w t hi)).getD k [])))] [] (zM <| zM <| zE (oXl el58 k ([] : List (Int)) (L := (trP (rowsOf w t hi)))) <| zE (oC1 sh22) <| zM <| zZ) ?_
      refine kf [(7, (.own 0 22 1 ((out ++ [(joinS ((trP (rowsOf w s lo)).getD k []) ((trP (rowsOf w t hi)).getD k []))]).length)))] [(0, some (bm enc_sl_22 (out ++ [(joinS ((trP (rowsOf w s lo)).getD k []) ((trP (rowsOf w t hi)).getD k []))])))] (zM <| zM <| zM <| zE (oXl el58 k ([] : List (Int)) (L := (trP (rowsOf w s lo)))) <| zE (oC1 sh22) <| zM <| zE (oCl (p_ljoin ((trP (rowsOf w s lo)).getD k []) ((trP (rowsOf w t hi)).getD k []) (hga.1.up (by decide)) (hgb.1.up (by decide)) (Nat.le_trans hga.2 (by decide)) (Nat.le_trans hgb.2 (by decide)) (by omega))) <| zE (oBs el58 ze22 zo22) <| zA enc_sl_22 out [(joinS ((trP (rowsOf w s lo)).getD k []) ((trP (rowsOf w t hi)).getD k []))] rfl el58 ze22 by22 <| zM <| zF) ?_
      refine kx [(22, (vin (k + 1)))] [] (zE (oAd (k + 1)) <| zM <| zZ) ?_
      exact ⟨(k + 1, out ++ [joinS ((trP (rowsOf w s lo)).getD k []) ((trP (rowsOf w t hi)).getD k [])]), wk, ⟨by omega, by rw [ho]; exact stkR_step _ _ k⟩, (by first | omega | (dsimp only; omega))⟩
    · replace h2 := of_decide_eq_false h2
      rw [getD_ge (l := (trP (rowsOf w t hi))) (k := k) (by omega)] at hrb
      simp only [List.length_nil] at hrb
      refine pwp_skip <| kf [(7, (.own 0 22 1 ((out ++ [(joinS ((trP (rowsOf w s lo)).getD k []) [])]).length)))] [(0, some (bm enc_sl_22 (out ++ [(joinS ((trP (rowsOf w s lo)).getD k []) [])])))] (zM <| zM <| zM <| zE (oXl el58 k ([] : List (Int)) (L := (trP (rowsOf w s lo)))) <| zE (oC1 sh22) <| zM <| zE (oCl (p_ljoin ((trP (rowsOf w s lo)).getD k []) [] (hga.1.up (by decide)) (fun x hx => absurd hx List.not_mem_nil) (Nat.le_trans hga.2 (by decide)) (Nat.zero_le _) (by simp only [List.length_nil]; omega))) <| zE (oBs el58 ze22 zo22) <| zA enc_sl_22 out [(joinS ((trP (rowsOf w s lo)).getD k []) [])] rfl el58 ze22 by22 <| zM <| zF) ?_
      refine kx [(22, (vin (k + 1)))] [] (zE (oAd (k + 1)) <| zM <| zZ) ?_
      exact ⟨(k + 1, out ++ [joinS ((trP (rowsOf w s lo)).getD k []) []]), wk, ⟨by omega, by have e := getD_ge (l := (trP (rowsOf w t hi))) (k := k) (by omega); have q := stkR_step (trP (rowsOf w s lo)) (trP (rowsOf w t hi)) k; rw [e] at q; rw [ho]; exact q⟩, (by first | omega | (dsimp only; omega))⟩
  · replace h1 := of_decide_eq_false h1
    refine pwp_exit <| pwp_seq <| pwp_sim (publish (t := 7) (k := 0) (es := List.map enc_sl_22 out) rfl rfl (pub_cells _ _ (fun _ => rfl)) (map_len _ _ rfl) (pub_take _ _ (fun _ => rfl) rfl)) ?_
    refine kx [(6, (vl 22 1 enc_sl_22 (trP out)))] [] (zM <| zE (oCl (p_ltr out (s + t) (tab_up hout (by decide)))) <| zM <| zZ) ?_
    refine pwp_ret ⟨_, (.tmp (d := (.sl 22 1 (List.map enc_sl_22 (trP out)))) rfl .nil), ?_⟩
    rw [ho, show k = (trP (rowsOf w s lo)).length by omega]; rfl
theorem p_lst0 (lo : List Int) (hi : List Int) (w : Nat) (s t : Nat) (hz : w = 0) : Takes Tryz.prog 35 [(.sl 3 1 (List.map enc_i64 lo)), (.sl 3 1 (List.map enc_i64 hi)), (.val (.int .i64 (((w : Nat) : Int))))] (.sl 22 1 (List.map enc_sl_22 (stkV w s t lo hi))) := by
  refine fn_intro Tryz.func35 rfl cb35 rfl ?_
  show PWp _ _ _ _ ⟨[(0, (vl 3 1 enc_i64 lo)), (1, (vl 3 1 enc_i64 hi)), (2, (vin w))], []⟩
  refine pwp_seq <| kx [] [] (zE (oNl 22 1) <| zZ) ?_
  refine pwp_seq <| kx [(7, (vl 22 1 enc_sl_22 []))] [] (zE (oNl 22 1) <| zZ) ?_
  refine pwp_seq <| kx [(8, (vl 22 1 enc_sl_22 [])), (9, (vl 22 1 enc_sl_22 []))] [] (zM <| zM <| zE (oCl (p_lrows0 lo w hz)) <| zE (oCl p_ltr0) <| zM <| zM <| zE (oCl (p_lrows0 hi w hz)) <| zE (oCl p_ltr0) <| zM <| zM <| zZ) ?_
  refine pwp_seq <| pwp_seq <| kx [(21, (vin 0)), (22, (vin 0))] [] (zM <| zE (oLn el58 0) <| zM <| zZ) ?_
  refine pwp_block <| pwp_loop (α := Nat) (fun k => ⟨[(7, (vl 22 1 enc_sl_22 [])), (8, (vl 22 1 enc_sl_22 [])), (9, (vl 22 1 enc_sl_22 [])), (21, (vin 0)), (22, (vin k))], []⟩) (fun k => k = 0) (fun k => 0) 0 wk rfl ?_
  rintro k hk
  refine pwp_seq <| kx [(23, (vb (decide (((k : Nat) : Int) < ((0 : Nat) : Int)))))] [] (zE oLt <| zZ) ?_
  refine pwp_seq <| pwp_cond rfl (fun h1 => ?_) (fun h1 => ?_)
  · replace h1 := of_decide_eq_true h1
    omega
  · replace h1 := of_decide_eq_false h1
    refine pwp_exit <| pwp_seq <| kx [(6, (vl 22 1 enc_sl_22 []))] [] (zM <| zE (oCl p_ltr0) <| zM <| zZ) ?_
    refine pwp_ret ⟨_, (.tmp (d := (.sl 22 1 (List.map enc_sl_22 []))) rfl .nil), ?_⟩
    rw [hz, stkV_0]; rfl
theorem p_lstG (lo hi : List Int) (w s t : Nat) (hw2 : w ≤ 1000) (hs2 : s ≤ 1000) (ht2 : t ≤ 1000) (hlo : lo.length = w * s) (hhi : hi.length = w * t) (hll : lo.length ≤ 1000000) (hlh : hi.length ≤ 1000000) (hbl : Bd 1048576 lo) (hbh : Bd 1048576 hi) (hst : s = t ∨ s = t + 1) (hst2 : s + t ≤ 1000) (hs0 : 0 < s) : Takes Tryz.prog 35 [.sl 3 1 (List.map enc_i64 lo), .sl 3 1 (List.map enc_i64 hi), .val (.int .i64 ((w : Nat) : Int))] (.sl 22 1 (List.map enc_sl_22 (stkV w s t lo hi))) := by
  rcases Nat.eq_zero_or_pos w with h | h
  · exact p_lst0 lo hi w s t h
  · exact p_lst lo hi w s t h hw2 hs2 ht2 hlo hhi hll hlh hbl hbh hst hst2 hs0
end Go.Proofs.YtleidgohjckmlaaGreat
