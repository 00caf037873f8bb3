/- Part 18 of a proof: rules, plain facts, and functions walked. -/
import Derived.Test.YtleidgohjckmlaaM17
import Derived.Test.YtleidgohjckmlaaM14
namespace Go.Proofs.Ytleidgohjckmlaa
open Go.Fid
set_option maxRecDepth 4000
set_option linter.unusedVariables false
set_option linter.unusedSimpArgs false
theorem by3 : bytesB Try.prog 3 = some 8 := by kernel_rfl
theorem by22 : bytesB Try.prog 22 = some 24 := by kernel_rfl
theorem cb45 : callB Try.prog 45 = true := by kernel_rfl
theorem cb46 : callB Try.prog 46 = true := by kernel_rfl
theorem cb50 : callB Try.prog 50 = true := by kernel_rfl
theorem cb67 : callB Try.prog 67 = true := by kernel_rfl
theorem el22 : elemB Try.prog 22 = some (3, 1) := by kernel_rfl
theorem el66 : elemB Try.prog 66 = some (22, 1) := by kernel_rfl
theorem sh3 : shapeB Try.prog 3 = some (false, 1) := by kernel_rfl
theorem ze3 : zeroB Try.prog 3 = some [.int .i64 0] := by kernel_rfl
theorem ze22 : zeroB Try.prog 22 = some [.slice none 0 0] := by kernel_rfl
theorem zo3 : ZOk [.int .i64 0] [.val (.int .i64 0)] := by simp [ZOk, Value.oneCell']
theorem zo22 : ZOk [.slice none 0 0] [.sl 3 1 []] := by simp [ZOk, Value.oneCell']
theorem p_half (n : Int) : Takes Try.prog 67 [(.val (.int .i64 (n)))] (.val (.int .i64 ((n.fdiv 2)))) := by
  refine fn_intro Try.func67 rfl cb67 rfl ?_
  show PWp _ _ _ _ ⟨[(0, (vi n))], []⟩
  refine pwp_seq <| kx [] [] (zM <| zZ) ?_
  refine pwp_seq <| kx [(2, (vi (n.fdiv 2)))] [] (zM <| zE (e_shr (n := 1) (n.fdiv 2)) <| zM <| zZ) ?_
  refine pwp_ret ⟨_, (.tmp (d := (.val (.int .i64 ((n.fdiv 2))))) rfl .nil), ?_⟩
  rfl
theorem p_split (l : List Int) (hl : Bd 1099511627776 l) (hb : l.length ≤ 1000000) : Takes Try.prog 46 [(.sl 3 1 (List.map enc_i64 l))] (.tup [(.sl 3 1 (List.map enc_i64 (loS l))), (.sl 3 1 (List.map enc_i64 (hiS l)))]) := by
  refine fn_intro Try.func46 rfl cb46 rfl ?_
  show PWp _ _ _ _ ⟨[(0, (vl 3 1 enc_i64 l))], []⟩
  refine pwp_seq <| kx [(2, (.own 0 3 1 0)), (3, (.own 1 3 1 0))] [(0, some (bm enc_i64 [])), (1, some (bm enc_i64 []))] (zO 0 3 1 <| zO 1 3 1 <| zZ) ?_
  refine pwp_seq <| pwp_seq <| kx [(4, (vin 0))] [] (zM <| zZ) ?_
  refine pwp_block <| pwp_loop (α := Nat × List Int × List Int) (fun (i, lo, hi) => ⟨[(0, (vl 3 1 enc_i64 l)), (2, (.own 0 3 1 lo.length)), (3, (.own 1 3 1 hi.length)), (4, (vin i))], [(0, some (bm enc_i64 lo)), (1, some (bm enc_i64 hi))]⟩) (fun (i, lo, hi) => i ≤ l.length ∧ i % 2 = 0 ∧ lo = loS (l.take i) ∧ hi = hiS (l.take i)) (fun (i, lo, hi) => l.length - i) (0, [], []) wk ⟨Nat.zero_le _, rfl, by simp [loS], by simp [hiS]⟩ ?_
  rintro ⟨i, lo, hi⟩ ⟨hi_, he, hlo, hhi⟩
  have h0_ := hl.get (by decide) i
  have h1_ := hl.get (by decide) (i + 1)
  have hll : lo.length ≤ 1000000 := by rw [hlo, loS_len, List.length_take]; omega
  have hhl : hi.length ≤ 1000000 := by rw [hhi, hiS_len, List.length_take]; omega
  refine pwp_seq <| pwp_seq <| kx [(8, (vb (decide (((i : Nat) : Int) < ((l.length : Nat) : Int)))))] [] (zM <| zM <| zE (oLm el22) <| zE oLt <| zZ) ?_
  refine pwp_cond rfl (fun h1 => ?_) (fun h1 => ?_)
  · replace h1 := of_decide_eq_true h1
    refine pwp_skip <| pwp_seq <| pwp_block <| pwp_seq <| pwp_seq <| kx [(15, (vb ((((i + 1) : Nat) : Int) == ((l.length : Nat) : Int))))] [] (zM <| zE (oAd (i + 1)) <| zM <| zE (oLm el22) <| zE oEq <| zZ) ?_
    refine pwp_cond rfl (fun h2 => ?_) (fun h2 => ?_)
    · replace h2 := eq_of_beq h2
      refine pwp_seq <| kf [(2, (.own 0 3 1 ((lo ++ [(l.getD i 0)]).length))), (3, (.own 1 3 1 hi.length))] [(0, some (bm enc_i64 (lo ++ [(l.getD i 0)])))] (zM <| zM <| zM <| zE (oXl el22 i (0 : Int)) <| zE (oC1 sh3) <| zE (oBs el22 ze3 zo3) <| zA enc_i64 lo [(l.getD i 0)] rfl el22 ze3 by3 <| zM <| zM <| zM <| zF) ?_
      refine pwp_sim (publish (t := 2) (k := 0) (es := List.map enc_i64 (lo ++ [(l.getD i 0)])) rfl rfl (pub_cells _ _ (fun _ => rfl)) (map_len _ _ rfl) (pub_take _ _ (fun _ => rfl) rfl)) ?_
      refine pwp_sim (publish (t := 3) (k := 1) (es := List.map enc_i64 hi) rfl rfl (pub_cells _ _ (fun _ => rfl)) (map_len _ _ rfl) (pub_take _ _ (fun _ => rfl) rfl)) ?_
      refine pwp_ret ⟨_, (.tmp (d := (.sl 3 1 (List.map enc_i64 (lo ++ [(l.getD i 0)])))) rfl (.tmp (d := (.sl 3 1 (List.map enc_i64 hi))) rfl .nil)), ?_⟩
      obtain ⟨q1, q2⟩ := pysplit_odd hlo hhi he (by omega)
      rw [q1, q2]; rfl
    · replace h2 := ne_of_beq_false h2
      refine pwp_skip <| kd [(2, (.own 2 3 1 ((lo ++ [(((l.getD i 0) + (l.getD (i + 1) 0)).fdiv 2)]).length))), (3, (.own 3 3 1 ((hi ++ [((l.getD i 0) - (l.getD (i + 1) 0))]).length)))] [(2, some (bm enc_i64 (lo ++ [(((l.getD i 0) + (l.getD (i + 1) 0)).fdiv 2)]))), (3, some (bm enc_i64 (hi ++ [((l.getD i 0) - (l.getD (i + 1) 0))]))), (0, none), (1, none)] mo (wM <| wM <| wM <| wE (oXl el22 i (0 : Int)) <| wE (oC1 sh3) <| wM <| wM <| wE (oAd (i + 1)) <| wE (oXl el22 (i + 1) (0 : Int)) <| wE (oC1 sh3) <| wE (zAd ((l.getD i 0) + (l.getD (i + 1) 0))) <| wE (oCl (p_half ((l.getD i 0) + (l.getD (i + 1) 0)))) <| wE (oBs el22 ze3 zo3) <| wA (k := 0) 2 enc_i64 lo [(((l.getD i 0) + (l.getD (i + 1) 0)).fdiv 2)] rfl el22 ze3 by3 <| wM <| wM <| wM <| wE (oXl el22 i (0 : Int)) <| wE (oC1 sh3) <| wM <| wM <| wE (oAd (i + 1)) <| wE (oXl el22 (i + 1) (0 : Int)) <| wE (oC1 sh3) <| wE (zSb ((l.getD i 0) - (l.getD (i + 1) 0))) <| wE (oBs el22 ze3 zo3) <| wA (k := 1) 3 enc_i64 hi [((l.getD i 0) - (l.getD (i + 1) 0))] rfl el22 ze3 by3 <| wM <| wM <| wZ) ?_
      refine pwp_sim (sim_ren (S' := [(0, (vl 3 1 enc_i64 l)), (2, (.own 0 3 1 ((lo ++ [(((l.getD i 0) + (l.getD (i + 1) 0)).fdiv 2)]).length))), (3, (.own 3 3 1 ((hi ++ [((l.getD i 0) - (l.getD (i + 1) 0))]).length))), (4, (vin i))]) (B' := [(0, some (bm enc_i64 (lo ++ [(((l.getD i 0) + (l.getD (i + 1) 0)).fdiv 2)]))), (3, some (bm enc_i64 (hi ++ [((l.getD i 0) - (l.getD (i + 1) 0))])))]) 0 2) ?_
      refine pwp_sim (sim_ren (S' := [(0, (vl 3 1 enc_i64 l)), (2, (.own 0 3 1 ((lo ++ [(((l.getD i 0) + (l.getD (i + 1) 0)).fdiv 2)]).length))), (3, (.own 1 3 1 ((hi ++ [((l.getD i 0) - (l.getD (i + 1) 0))]).length))), (4, (vin i))]) (B' := [(0, some (bm enc_i64 (lo ++ [(((l.getD i 0) + (l.getD (i + 1) 0)).fdiv 2)]))), (1, some (bm enc_i64 (hi ++ [((l.getD i 0) - (l.getD (i + 1) 0))])))]) 1 3) ?_
      refine kx [(4, (vin (i + 2)))] [] (zM <| zE (oAd (i + 2)) <| zM <| zZ) ?_
      exact ⟨(i + 2, lo ++ [((l.getD i 0 + l.getD (i + 1) 0).fdiv 2)], hi ++ [(l.getD i 0 - l.getD (i + 1) 0)]), wk, (by obtain ⟨q1, q2⟩ := pysplit_step hlo hhi he (by omega); exact ⟨by omega, by omega, q1, q2⟩), (by first | omega | (dsimp only; omega))⟩
  · replace h1 := of_decide_eq_false h1
    refine pwp_exit <| pwp_seq <| kx [(2, (.own 0 3 1 lo.length)), (3, (.own 1 3 1 hi.length))] [] (zM <| zM <| zM <| zM <| zZ) ?_
    refine pwp_sim (publish (t := 2) (k := 0) (es := List.map enc_i64 lo) rfl rfl (pub_cells _ _ (fun _ => rfl)) (map_len _ _ rfl) (pub_take _ _ (fun _ => rfl) rfl)) ?_
    refine pwp_sim (publish (t := 3) (k := 1) (es := List.map enc_i64 hi) rfl rfl (pub_cells _ _ (fun _ => rfl)) (map_len _ _ rfl) (pub_take _ _ (fun _ => rfl) rfl)) ?_
    refine pwp_ret ⟨_, (.tmp (d := (.sl 3 1 (List.map enc_i64 lo))) rfl (.tmp (d := (.sl 3 1 (List.map enc_i64 hi))) rfl .nil)), ?_⟩
    rw [hlo, hhi, show i = l.length by omega, List.take_length]; rfl
theorem p_join (lo : List Int) (hi : List Int) (hl : Bd 1099511627776 lo) (hh : Bd 1099511627776 hi) (hb : lo.length ≤ 1000000) (hb2 : hi.length ≤ 1000000) : Takes Try.prog 50 [(.sl 3 1 (List.map enc_i64 lo)), (.sl 3 1 (List.map enc_i64 hi))] (.sl 3 1 (List.map enc_i64 (joinS lo hi))) := by
  refine fn_intro Try.func50 rfl cb50 rfl ?_
  show PWp _ _ _ _ ⟨[(0, (vl 3 1 enc_i64 lo)), (1, (vl 3 1 enc_i64 hi))], []⟩
  refine pwp_seq <| kx [] [] (zE (oNl 3 1) <| zZ) ?_
  refine pwp_seq <| kx [(5, (.own 0 3 1 0))] [(0, some (bm enc_i64 []))] (zO 0 3 1 <| zZ) ?_
  refine pwp_seq <| pwp_seq <| kx [(9, (vl 3 1 enc_i64 lo)), (10, (vin lo.length)), (11, (vin 0))] [] (zM <| zE (oLm el22) <| zM <| zZ) ?_
  refine pwp_block <| pwp_loop (α := Nat × List Int) (fun (i, out) => ⟨[(1, (vl 3 1 enc_i64 hi)), (5, (.own 0 3 1 out.length)), (9, (vl 3 1 enc_i64 lo)), (10, (vin lo.length)), (11, (vin i))], [(0, some (bm enc_i64 out))]⟩) (fun (i, out) => i ≤ lo.length ∧ i ≤ hi.length ∧ out = joinS (lo.take i) (hi.take i)) (fun (i, out) => lo.length - i) (0, []) wk ⟨Nat.zero_le _, Nat.zero_le _, by simp [joinS]⟩ ?_
  rintro ⟨i, out⟩ ⟨hi1, hi2, ho⟩
  have h0_ := hl.get (by decide) i
  have h1_ := hh.get (by decide) i
  have hf := fdiv2 (hi.getD i 0 + 1)
  have hll : out.length ≤ 2000000 := by rw [ho]; exact Nat.le_trans (joinS_le _ _) (by rw [List.length_take]; omega)
  refine pwp_seq <| kx [(12, (vb (decide (((i : Nat) : Int) < ((lo.length : Nat) : Int)))))] [] (zE oLt <| zZ) ?_
  refine pwp_seq <| pwp_cond rfl (fun h1 => ?_) (fun h1 => ?_)
  · replace h1 := of_decide_eq_true h1
    refine pwp_skip <| pwp_seq <| pwp_block <| pwp_seq <| kx [(6, (vin i)), (7, (vi (lo.getD i 0)))] [] (zM <| zE (oXl el22 i (0 : Int)) <| zE (oC1 sh3) <| zM <| zM <| zZ) ?_
    refine pwp_seq <| pwp_seq <| kx [(19, (vb (((i : Nat) : Int) == ((hi.length : Nat) : Int))))] [] (zM <| zM <| zE (oLm el22) <| zE oEq <| zZ) ?_
    refine pwp_cond rfl (fun h2 => ?_) (fun h2 => ?_)
    · replace h2 := eq_of_beq h2
      refine pwp_seq <| kf [(4, (.own 0 3 1 ((out ++ [(lo.getD i 0)]).length))), (5, .junk)] [(0, some (bm enc_i64 (out ++ [(lo.getD i 0)])))] (zM <| zM <| zE (oBs el22 ze3 zo3) <| zA enc_i64 out [(lo.getD i 0)] rfl el22 ze3 by3 <| zM <| zF) ?_
      refine pwp_sim (publish (t := 4) (k := 0) (es := List.map enc_i64 (out ++ [(lo.getD i 0)])) rfl rfl (pub_cells _ _ (fun _ => rfl)) (map_len _ _ rfl) (pub_take _ _ (fun _ => rfl) rfl)) ?_
      refine pwp_ret ⟨_, (.tmp (d := (.sl 3 1 (List.map enc_i64 (out ++ [(lo.getD i 0)])))) rfl .nil), ?_⟩
      rw [join_odd ho (by omega) (by omega)]; rfl
    · replace h2 := ne_of_beq_false h2
      refine pwp_skip <| pwp_seq <| kx [(8, (vi ((lo.getD i 0) + (((hi.getD i 0) + 1).fdiv 2))))] [] (zM <| zM <| zM <| zE (oXl el22 i (0 : Int)) <| zE (oC1 sh3) <| zE (zAd ((hi.getD i 0) + 1)) <| zE (oCl (p_half ((hi.getD i 0) + 1))) <| zE (zAd ((lo.getD i 0) + (((hi.getD i 0) + 1).fdiv 2))) <| zM <| zZ) ?_
      refine kf [(5, (.own 0 3 1 ((out ++ [((lo.getD i 0) + (((hi.getD i 0) + 1).fdiv 2)), (((lo.getD i 0) + (((hi.getD i 0) + 1).fdiv 2)) - (hi.getD i 0))]).length)))] [(0, some (bm enc_i64 (out ++ [((lo.getD i 0) + (((hi.getD i 0) + 1).fdiv 2)), (((lo.getD i 0) + (((hi.getD i 0) + 1).fdiv 2)) - (hi.getD i 0))])))] (zM <| zM <| zM <| zM <| zM <| zE (oXl el22 i (0 : Int)) <| zE (oC1 sh3) <| zE (zSb (((lo.getD i 0) + (((hi.getD i 0) + 1).fdiv 2)) - (hi.getD i 0))) <| zE (oBs el22 ze3 zo3) <| zA enc_i64 out [((lo.getD i 0) + (((hi.getD i 0) + 1).fdiv 2)), (((lo.getD i 0) + (((hi.getD i 0) + 1).fdiv 2)) - (hi.getD i 0))] rfl el22 ze3 by3 <| zM <| zF) ?_
      refine kx [(11, (vin (i + 1)))] [] (zE (oAd (i + 1)) <| zM <| zZ) ?_
      exact ⟨(i + 1, out ++ [(lo.getD i 0 + ((hi.getD i 0 + 1).fdiv 2)), ((lo.getD i 0 + ((hi.getD i 0 + 1).fdiv 2)) - hi.getD i 0)]), wk, ⟨by omega, by omega, join_step ho (by omega) (by omega)⟩, (by first | omega | (dsimp only; omega))⟩
  · replace h1 := of_decide_eq_false h1
    refine pwp_exit <| pwp_seq <| kx [(4, (.own 0 3 1 out.length))] [] (zM <| zM <| zZ) ?_
    refine pwp_sim (publish (t := 4) (k := 0) (es := List.map enc_i64 out) rfl rfl (pub_cells _ _ (fun _ => rfl)) (map_len _ _ rfl) (pub_take _ _ (fun _ => rfl) rfl)) ?_
    refine pwp_ret ⟨_, (.tmp (d := (.sl 3 1 (List.map enc_i64 out))) rfl .nil), ?_⟩
    rw [join_end ho (by omega) (by omega)]; rfl
theorem p_lines (l : List Int) (w : Nat) (h : Nat) (hw : 0 < w) (hlw : l.length = w * h) (hb : l.length ≤ 1000000) : Takes Try.prog 45 [(.sl 3 1 (List.map enc_i64 l)), (.val (.int .i64 (((w : Nat) : Int))))] (.sl 22 1 (List.map enc_sl_22 (rowsOf w h l))) := by
  refine fn_intro Try.func45 rfl cb45 rfl ?_
  show PWp _ _ _ _ ⟨[(0, (vl 3 1 enc_i64 l)), (1, (vin w))], []⟩
  refine pwp_seq <| kx [] [] (zE (oNl 22 1) <| zZ) ?_
  refine pwp_seq <| kx [(5, (.own 0 22 1 0))] [(0, some (bm enc_sl_22 []))] (zO 0 22 1 <| zZ) ?_
  refine pwp_seq <| pwp_seq <| kx [(6, (vin 0))] [] (zM <| zZ) ?_
  refine pwp_block <| pwp_loop (α := Nat × Nat × List (List Int)) (fun (i, y, out) => ⟨[(0, (vl 3 1 enc_i64 l)), (1, (vin w)), (5, (.own 0 22 1 out.length)), (6, (vin i))], [(0, some (bm enc_sl_22 out))]⟩) (fun (i, y, out) => y ≤ h ∧ i = y * w ∧ out = rowsOf w y l) (fun (i, y, out) => l.length - i) (0, 0, []) wk ⟨Nat.zero_le _, by simp, rfl⟩ ?_
  rintro ⟨i, y, out⟩ ⟨hy, hiy, ho⟩
  have hh := rows_h hw hlw hb
  have hll : out.length ≤ 1000000 := by rw [ho, rowsOf_len]; omega
  refine pwp_seq <| pwp_seq <| kx [(10, (vb (decide (((i : Nat) : Int) < ((l.length : Nat) : Int)))))] [] (zM <| zM <| zE (oLm el22) <| zE oLt <| zZ) ?_
  refine pwp_cond rfl (fun h1 => ?_) (fun h1 => ?_)
  · replace h1 := of_decide_eq_true h1
    obtain ⟨hy1, hiw⟩ := rows_lt hiy hlw (by omega)
    refine pwp_skip <| pwp_seq <| pwp_block <| kf [(5, (.own 0 22 1 ((out ++ [(List.drop i (List.take (i + w) l))]).length)))] [(0, some (bm enc_sl_22 (out ++ [(List.drop i (List.take (i + w) l))])))] (zM <| zM <| zM <| zM <| zM <| zE (oAd (i + w)) <| zE (e_slc (l := i) (h := (i + w)) (kl := .i64) (kh := .i64) (es' := List.map enc_i64 (List.drop i (List.take (i + w) l))) (by exact rfl) el22 (by exact rfl) (by exact rfl) (by exact rfl) (by omega) (by simp only [List.length_map]; omega) (by rw [List.map_drop, List.map_take])) <| zE (oBs el66 ze22 zo22) <| zA enc_sl_22 out [(List.drop i (List.take (i + w) l))] rfl el66 ze22 by22 <| zM <| zF) ?_
    refine kx [(6, (vin (i + w)))] [] (zM <| zM <| zE (oAd (i + w)) <| zM <| zZ) ?_
    exact ⟨(i + w, y + 1, out ++ [List.drop i (List.take (i + w) l)]), wk, ⟨hy1, by rw [hiy, Nat.add_mul, Nat.one_mul], rows_step hiy ho⟩, (by first | omega | (dsimp only; omega))⟩
  · replace h1 := of_decide_eq_false h1
    refine pwp_exit <| pwp_seq <| kx [(4, (.own 0 22 1 out.length))] [] (zM <| zM <| zZ) ?_
    refine pwp_sim (publish (t := 4) (k := 0) (es := List.map enc_sl_22 out) rfl rfl (pub_cells _ _ (fun _ => rfl)) (map_len _ _ rfl) (pub_take _ _ (fun _ => rfl) rfl)) ?_
    refine pwp_ret ⟨_, (.tmp (d := (.sl 22 1 (List.map enc_sl_22 out))) rfl .nil), ?_⟩
    rw [ho, rows_end hw hy hiy hlw (by omega)]; rfl
end Go.Proofs.Ytleidgohjckmlaa
namespace Go.Proofs.Ytleidgohjckmlaa
open Go.Fid
set_option maxRecDepth 4000
set_option linter.unusedVariables false
set_option linter.unusedSimpArgs false
theorem cb69 : callB Try.prog 69 = true := by kernel_rfl
theorem cb83 : callB Try.prog 83 = true := by kernel_rfl
theorem in3 : intB Try.prog 3 = some .i64 := by kernel_rfl
theorem sh22 : shapeB Try.prog 22 = some (false, 1) := by kernel_rfl
theorem p_grow0 (n : Nat) (hz : n = 0) : Takes Try.prog 83 [(.val (.slice none 0 0)), (.val (.int .i64 (((n : Nat) : Int))))] (.val (.slice none 0 0)) := by
  refine fn_intro Try.func83 rfl cb83 rfl ?_
  show PWp _ _ _ _ ⟨[(0, (.d (.val (.slice none 0 0)))), (1, (vin n))], []⟩
  refine pwp_seq <| kx [] [] (zE (oNl 3 1) <| zZ) ?_
  refine pwp_seq <| pwp_seq <| kx [(6, (vb (decide (((n : Nat) : Int) < 0))))] [] (zM <| zE oLt <| zZ) ?_
  refine pwp_cond (b := decide (((n : Nat) : Int) < 0)) rfl (fun h1 => ?_) (fun h1 => ?_)
  · replace h1 := of_decide_eq_true h1
    omega
  · replace h1 := of_decide_eq_false h1
    refine pwp_skip <| pwp_seq <| pwp_seq <| kx [(1, (vin (n - (0 - 0))))] [] (zM <| zM <| zE (oCp0 el22) <| zM <| zE (oLn0 el22) <| zE (oSb (0 - 0)) <| zE (oSb (n - (0 - 0))) <| zM <| zZ) ?_
    refine pwp_seq <| kx [(16, (vb (decide (0 < (((n - (0 - 0)) : Nat) : Int)))))] [] (zM <| zE oGt <| zZ) ?_
    refine pwp_cond rfl (fun h2 => ?_) (fun h2 => ?_)
    · replace h2 := of_decide_eq_true h2
      omega
    · replace h2 := of_decide_eq_false h2
      refine pwp_skip <| pwp_seq <| kx [(4, (.d (.val (.slice none 0 0))))] [] (zM <| zM <| zZ) ?_
      refine pwp_ret ⟨_, (.tmp (d := (.val (.slice none 0 0))) rfl .nil), ?_⟩
      rfl
theorem p_grow (n : Nat) (h0 : 0 < n) (hb : n ≤ 1000000) : TakesO Try.prog 83 [(.val (.slice none 0 0)), (.val (.int .i64 (((n : Nat) : Int))))] 3 1 ([] : List Int).length (List.map enc_i64 ([] : List Int)) := by
  refine fn_introO2 Try.func83 rfl cb83 rfl ?_
  show PWp _ _ _ _ ⟨[(0, (.d (.val (.slice none 0 0)))), (1, (vin n))], []⟩
  refine pwp_seq <| kx [] [] (zE (oNl 3 1) <| zZ) ?_
  refine pwp_seq <| pwp_seq <| kx [(6, (vb (decide (((n : Nat) : Int) < 0))))] [] (zM <| zE oLt <| zZ) ?_
  refine pwp_cond (b := decide (((n : Nat) : Int) < 0)) rfl (fun h1 => ?_) (fun h1 => ?_)
  · replace h1 := of_decide_eq_true h1
    omega
  · replace h1 := of_decide_eq_false h1
    refine pwp_skip <| pwp_seq <| pwp_seq <| kx [(1, (vin (n - (0 - 0))))] [] (zM <| zM <| zE (oCp0 el22) <| zM <| zE (oLn0 el22) <| zE (oSb (0 - 0)) <| zE (oSb (n - (0 - 0))) <| zM <| zZ) ?_
    refine pwp_seq <| kx [(16, (vb (decide (0 < (((n - (0 - 0)) : Nat) : Int)))))] [] (zM <| zE oGt <| zZ) ?_
    refine pwp_cond rfl (fun h2 => ?_) (fun h2 => ?_)
    · replace h2 := of_decide_eq_true h2
      refine kx [(0, (.own 0 3 1 0))] [(0, some [.junk])] (zM <| zM <| zE (oCp0 el22) <| zE (oSn0 el22) <| zM <| zN (oAz 0 (n - (0 - 0)) el22 in3 ze3 by3 (by omega) (by unfold maxLen; omega) (by omega)) <| zM <| zE (oLn0 el22) <| zE (oSl0 0 el22 (by omega)) <| zM <| zZ) ?_
      refine pwp_seq <| kx [(4, (.own 0 3 1 0))] [] (zM <| zM <| zZ) ?_
      exact pwp_ret ⟨4, 0, rfl, rfl, [.junk], rfl, (fun h => by cases h), Nat.zero_le _, fun i d h => by simp at h⟩
    · replace h2 := of_decide_eq_false h2
      omega
theorem p_con0 (T : List (List Int)) (hb : T.flatten.length ≤ 1000000) (hlb : T.length ≤ 1000000) (he : T.flatten = []) : Takes Try.prog 69 [(.sl 22 1 (List.map enc_sl_22 T))] (.val (.slice none 0 0)) := by
  refine fn_intro Try.func69 rfl cb69 rfl ?_
  show PWp _ _ _ _ ⟨[(0, (vl 22 1 enc_sl_22 T))], []⟩
  refine pwp_seq <| kx [] [] (zE (oNl 3 1) <| zZ) ?_
  refine pwp_seq <| kx [(3, (vin 0))] [] (zM <| zZ) ?_
  refine pwp_seq <| pwp_seq <| kx [(9, (vl 22 1 enc_sl_22 T)), (10, (vin T.length)), (11, (vin 0))] [] (zM <| zE (oLm el66) <| zM <| zZ) ?_
  refine pwp_block <| pwp_loop (α := Nat × Nat) (fun (k, m) => ⟨[(0, (vl 22 1 enc_sl_22 T)), (3, (vin m)), (9, (vl 22 1 enc_sl_22 T)), (10, (vin T.length)), (11, (vin k))], []⟩) (fun (k, m) => k ≤ T.length ∧ m = (T.take k).flatten.length) (fun (k, m) => T.length - k) (0, 0) wk ⟨Nat.zero_le _, rfl⟩ ?_
  rintro ⟨k, m⟩ ⟨hk, hm⟩
  have hmb := con_le (k := k) hb
  have hmr := con_row (k := k) hb
  refine pwp_seq <| kx [(12, (vb (decide (((k : Nat) : Int) < ((T.length : Nat) : Int)))))] [] (zE oLt <| zZ) ?_
  refine pwp_seq <| pwp_cond rfl (fun h1 => ?_) (fun h1 => ?_)
  · replace h1 := of_decide_eq_true h1
    refine pwp_skip <| pwp_seq <| pwp_block <| pwp_seq <| kx [(5, (vl 3 1 enc_i64 (T.getD k [])))] [] (zE (oXl el66 k ([] : List (Int))) <| zE (oC1 sh22) <| zM <| zZ) ?_
    refine pwp_seq <| kx [(3, (vin (m + (T.getD k []).length)))] [] (zM <| zM <| zE (oLm el22 (L := (T.getD k []))) <| zE (oAd (m + (T.getD k []).length)) <| zM <| zZ) ?_
    refine pwp_seq <| kx [(20, (vb (decide ((((m + (T.getD k []).length) : Nat) : Int) < 0))))] [] (zM <| zE oLt <| zZ) ?_
    refine pwp_cond rfl (fun h2 => ?_) (fun h2 => ?_)
    · replace h2 := of_decide_eq_true h2
      omega
    · replace h2 := of_decide_eq_false h2
      refine pwp_skip <| kx [(11, (vin (k + 1)))] [] (zE (oAd (k + 1)) <| zM <| zZ) ?_
      exact ⟨(k + 1, m + (T.getD k []).length), wk, ⟨by omega, by rw [hm]; exact con_len (by omega)⟩, (by first | omega | (dsimp only; omega))⟩
  · replace h1 := of_decide_eq_false h1
    have hm0 : m = 0 := by rw [hm, con_end (by omega), he]; rfl
    refine pwp_exit <| pwp_seq <| kx [(6, (.d (.val (.slice none 0 0))))] [] (zM <| zE (oCl (p_grow0 m hm0)) <| zM <| zZ) ?_
    refine pwp_seq <| pwp_seq <| kx [(25, (vl 22 1 enc_sl_22 T)), (26, (vin T.length)), (27, (vin 0))] [] (zM <| zE (oLm el66) <| zM <| zZ) ?_
    refine pwp_block <| pwp_loop (α := Nat) (fun k => ⟨[(6, (.d (.val (.slice none 0 0)))), (25, (vl 22 1 enc_sl_22 T)), (26, (vin T.length)), (27, (vin k))], []⟩) (fun k => k ≤ T.length) (fun k => T.length - k) 0 wk (Nat.zero_le _) ?_
    rintro k hk2
    refine pwp_seq <| kx [(28, (vb (decide (((k : Nat) : Int) < ((T.length : Nat) : Int)))))] [] (zE oLt <| zZ) ?_
    refine pwp_seq <| pwp_cond rfl (fun h3 => ?_) (fun h3 => ?_)
    · replace h3 := of_decide_eq_true h3
      refine pwp_skip <| pwp_seq <| pwp_block <| pwp_seq <| kx [(8, (vl 3 1 enc_i64 (T.getD k [])))] [] (zE (oXl el66 k ([] : List (Int))) <| zE (oC1 sh22) <| zM <| zZ) ?_
      refine kx [(6, (.d (.val (.slice none 0 0))))] [] (zM <| zM <| zE (oAn el22 (l := List.map enc_i64 (T.getD k [])) (by rw [List.length_map]; exact con_row0 he k)) <| zM <| zZ) ?_
      refine kx [(27, (vin (k + 1)))] [] (zE (oAd (k + 1)) <| zM <| zZ) ?_
      exact ⟨(k + 1), wk, (by omega), (by omega)⟩
    · replace h3 := of_decide_eq_false h3
      refine pwp_exit <| pwp_seq <| kx [(2, (.d (.val (.slice none 0 0))))] [] (zM <| zM <| zZ) ?_
      refine pwp_ret ⟨_, (.tmp (d := (.val (.slice none 0 0))) rfl .nil), ?_⟩
      rfl
theorem p_con1 (T : List (List Int)) (hb : T.flatten.length ≤ 1000000) (hlb : T.length ≤ 1000000) (he : 0 < T.flatten.length) : Takes Try.prog 69 [(.sl 22 1 (List.map enc_sl_22 T))] (.sl 3 1 (List.map enc_i64 T.flatten)) := by
  refine fn_intro Try.func69 rfl cb69 rfl ?_
  show PWp _ _ _ _ ⟨[(0, (vl 22 1 enc_sl_22 T))], []⟩
  refine pwp_seq <| kx [] [] (zE (oNl 3 1) <| zZ) ?_
  refine pwp_seq <| kx [(3, (vin 0))] [] (zM <| zZ) ?_
  refine pwp_seq <| pwp_seq <| kx [(9, (vl 22 1 enc_sl_22 T)), (10, (vin T.length)), (11, (vin 0))] [] (zM <| zE (oLm el66) <| zM <| zZ) ?_
  refine pwp_block <| pwp_loop (α := Nat × Nat) (fun (k, m) => ⟨[(0, (vl 22 1 enc_sl_22 T)), (3, (vin m)), (9, (vl 22 1 enc_sl_22 T)), (10, (vin T.length)), (11, (vin k))], []⟩) (fun (k, m) => k ≤ T.length ∧ m = (T.take k).flatten.length) (fun (k, m) => T.length - k) (0, 0) wk ⟨Nat.zero_le _, rfl⟩ ?_
  rintro ⟨k, m⟩ ⟨hk, hm⟩
  have hmb := con_le (k := k) hb
  have hmr := con_row (k := k) hb
  refine pwp_seq <| kx [(12, (vb (decide (((k : Nat) : Int) < ((T.length : Nat) : Int)))))] [] (zE oLt <| zZ) ?_
  refine pwp_seq <| pwp_cond rfl (fun h1 => ?_) (fun h1 => ?_)
  · replace h1 := of_decide_eq_true h1
    refine pwp_skip <| pwp_seq <| pwp_block <| pwp_seq <| kx [(5, (vl 3 1 enc_i64 (T.getD k [])))] [] (zE (oXl el66 k ([] : List (Int))) <| zE (oC1 sh22) <| zM <| zZ) ?_
    refine pwp_seq <| kx [(3, (vin (m + (T.getD k []).length)))] [] (zM <| zM <| zE (oLm el22 (L := (T.getD k []))) <| zE (oAd (m + (T.getD k []).length)) <| zM <| zZ) ?_
    refine pwp_seq <| kx [(20, (vb (decide ((((m + (T.getD k []).length) : Nat) : Int) < 0))))] [] (zM <| zE oLt <| zZ) ?_
    refine pwp_cond rfl (fun h2 => ?_) (fun h2 => ?_)
    · replace h2 := of_decide_eq_true h2
      omega
    · replace h2 := of_decide_eq_false h2
      refine pwp_skip <| kx [(11, (vin (k + 1)))] [] (zE (oAd (k + 1)) <| zM <| zZ) ?_
      exact ⟨(k + 1, m + (T.getD k []).length), wk, ⟨by omega, by rw [hm]; exact con_len (by omega)⟩, (by first | omega | (dsimp only; omega))⟩
  · replace h1 := of_decide_eq_false h1
    have hm0 : m = T.flatten.length := by rw [hm, con_end (by omega)]
    refine pwp_exit <| pwp_seq <| kx [(6, (.own 0 3 1 (([] : List Int).length)))] [(0, some (bm enc_i64 ([] : List Int)))] (zM <| zN (oCo 0 (p_grow m (by omega) (by omega))) <| zM <| zZ) ?_
    refine pwp_seq <| pwp_seq <| kx [(25, (vl 22 1 enc_sl_22 T)), (26, (vin T.length)), (27, (vin 0))] [] (zM <| zE (oLm el66) <| zM <| zZ) ?_
    refine pwp_block <| pwp_loop (α := Nat × List Int) (fun (k, out) => ⟨[(6, (.own 0 3 1 out.length)), (25, (vl 22 1 enc_sl_22 T)), (26, (vin T.length)), (27, (vin k))], [(0, some (bm enc_i64 out))]⟩) (fun (k, out) => k ≤ T.length ∧ out = (T.take k).flatten) (fun (k, out) => T.length - k) (0, []) wk ⟨Nat.zero_le _, rfl⟩ ?_
    rintro ⟨k, out⟩ ⟨hk2, ho⟩
    have hol : out.length ≤ 1000000 := by rw [ho]; exact con_le hb
    have hrl := con_row (k := k) hb
    refine pwp_seq <| kx [(28, (vb (decide (((k : Nat) : Int) < ((T.length : Nat) : Int)))))] [] (zE oLt <| zZ) ?_
    refine pwp_seq <| pwp_cond rfl (fun h3 => ?_) (fun h3 => ?_)
    · replace h3 := of_decide_eq_true h3
      refine pwp_skip <| pwp_seq <| pwp_block <| pwp_seq <| kx [(8, (vl 3 1 enc_i64 (T.getD k [])))] [] (zE (oXl el66 k ([] : List (Int))) <| zE (oC1 sh22) <| zM <| zZ) ?_
      refine kf [(6, (.own 0 3 1 ((out ++ (T.getD k [])).length)))] [(0, some (bm enc_i64 (out ++ (T.getD k []))))] (zM <| zM <| zA enc_i64 out (T.getD k []) rfl el22 ze3 by3 <| zM <| zF) ?_
      refine kx [(27, (vin (k + 1)))] [] (zE (oAd (k + 1)) <| zM <| zZ) ?_
      exact ⟨(k + 1, out ++ T.getD k []), wk, ⟨by omega, by rw [ho]; exact con_step (by omega)⟩, (by first | omega | (dsimp only; omega))⟩
    · replace h3 := of_decide_eq_false h3
      refine pwp_exit <| pwp_seq <| kx [(2, (.own 0 3 1 out.length))] [] (zM <| zM <| zZ) ?_
      refine pwp_sim (publish (t := 2) (k := 0) (es := List.map enc_i64 out) rfl rfl (pub_cells _ _ (fun _ => rfl)) (map_len _ _ rfl) (pub_take _ _ (fun _ => rfl) rfl)) ?_
      refine pwp_ret ⟨_, (.tmp (d := (.sl 3 1 (List.map enc_i64 out))) rfl .nil), ?_⟩
      rw [ho, con_end (by omega)]; rfl
theorem p_con (T : List (List Int)) (hb : T.flatten.length ≤ 1000000) (hlb : T.length ≤ 1000000) : Takes Try.prog 69 [.sl 22 1 (List.map enc_sl_22 T)] (.sl 3 1 (List.map enc_i64 T.flatten)) := by
  rcases Nat.eq_zero_or_pos T.flatten.length with h | h
  · have he := List.eq_nil_of_length_eq_zero h
    rw [he]
    exact tk_nilR 3 1 (p_con0 T hb hlb he)
  · exact p_con1 T hb hlb h
end Go.Proofs.Ytleidgohjckmlaa
namespace Go.Proofs.Ytleidgohjckmlaa
open Go.Fid
set_option maxRecDepth 4000
set_option linter.unusedVariables false
set_option linter.unusedSimpArgs false
theorem turn_cb : callB Try.prog 68 = true := by kernel_rfl
theorem turn_sh : shapeB Try.prog 22 = some (false, 1) := by kernel_rfl
abbrev tRs (w : Nat) (T : List (List Int)) (i j : Nat) : List (List Dat) := (rowsAt w T i j).map (List.map enc_i64)
theorem tRs_len {w : Nat} {T : List (List Int)} {i j : Nat} : (tRs w T i j).length = if i = 0 then j else w := by rw [tRs, List.length_map, rowsAt_len]
theorem getD_mapmap {α β : Type} (f : α → β) (l : List (List α)) (j : Nat) : (l.map (List.map f)).getD j [] = (l.getD j []).map f := by
  rw [List.getD_eq_getElem?_getD, List.getD_eq_getElem?_getD, List.getElem?_map]
  cases l[j]? <;> rfl
theorem tRs_set {w i j : Nat} {T : List (List Int)} (hj : j < w) (hi : i ≠ 0) (r : List Int) (hr : T[i]? = some r) : (tRs w T i j).set j ((tRs w T i j).getD j [] ++ [enc_i64 (r.getD j 0)]) = tRs w T i (j + 1) := by
  unfold tRs
  rw [getD_mapmap, ← rowsAt_set hj hi r hr, List.map_set, List.map_append]; rfl
theorem tRs_first {w j : Nat} {T : List (List Int)} (r : List Int) (hr : T[0]? = some r) : (tRs w T 0 j ++ [[]]).set j ((tRs w T 0 j ++ [[]]).getD j [] ++ [enc_i64 (r.getD j 0)]) = tRs w T 0 (j + 1) := by
  have h1 : T.take 1 = [r] := by cases T with
    | nil => simp at hr
    | cons a l => simp at hr; subst hr; rfl
  have hl : (tRs w T 0 j).length = j := by rw [tRs_len, if_pos rfl]
  have e : (tRs w T 0 j ++ [[]]).getD j [] = ([] : List Dat) := by rw [List.getD_eq_getElem?_getD, List.getElem?_append_right (by omega), hl, Nat.sub_self]; rfl
  rw [e, List.set_append_right _ _ (by omega), hl, Nat.sub_self]
  unfold tRs
  rw [← rowsAt_first r h1, List.map_append]; rfl
theorem turn_step {w : Nat} {T : List (List Int)} {i j : Nat} (hb : w ≤ 1000000) (hl : T.length ≤ 1000000) (hi : i < T.length) (hj : j < w) : ((tRs w T i j).getD j []).length ≤ 1000000 := by
  unfold tRs
  rw [getD_mapmap, List.length_map]
  by_cases h0 : i = 0
  · subst h0
    rw [List.getD_eq_getElem?_getD, List.getElem?_eq_none (by rw [rowsAt_len, if_pos rfl]; omega)]; simp
  · rw [rowsAt_get hj h0, List.length_map, List.length_take]; omega
set_option maxHeartbeats 1000000 in
theorem p_turned0 (T : List (List Int)) (w : Nat) (hr : Rect w T) (hb : w ≤ 1000000) (hl : T.length ≤ 1000000) : Takes Try.prog 68 [.sl 22 1 (List.map enc_sl_22 T)] (.sl 22 1 (List.map enc_sl_22 (rowsAt w T T.length 0))) := by
  refine fn_intro Try.func68 rfl turn_cb rfl ?_
  show PWp _ _ _ _ ⟨[(0, (vl 22 1 enc_sl_22 T))], []⟩
  refine pwp_seq <| kx [] [] (zE (oNl 22 1) <| zZ) ?_
  refine pwp_seq <| kx [(3, (.own 0 22 1 0))] [(0, some (bm enc_sl_22 []))] (zO 0 22 1 <| zZ) ?_
  refine pwp_seq <| pwp_seq <| kx [(7, (vl 22 1 enc_sl_22 T)), (8, (vin T.length)), (9, (vin 0))] [] (zM <| zE (oLm el66) <| zM <| zZ) ?_
  refine pwp_block <| pwp_loop (α := Nat) (fun i => ⟨[(0, (vl 22 1 enc_sl_22 T)), (3, (.own 0 22 1 (tRs w T i 0).length)), (7, (vl 22 1 enc_sl_22 T)), (8, (vin T.length)), (9, (vin i))], (0, some (rowC 3 1 1 (tRs w T i 0))) :: rowB 1 (tRs w T i 0)⟩) (fun i => i ≤ T.length) (fun i => T.length - i) 0 wk (Nat.zero_le _) ?_
  intro i hi
  refine pwp_seq <| kx [(10, (vb (decide (((i : Nat) : Int) < ((T.length : Nat) : Int)))))] [] (zE oLt <| zY) ?_
  refine pwp_seq <| pwp_cond rfl (fun h1 => ?_) (fun h1 => ?_)
  · replace h1 := of_decide_eq_true h1
    have hr1 : T[i]? = some (T.getD i []) := by rw [List.getD_eq_getElem?_getD, List.getElem?_eq_getElem (by omega)]; rfl
    have hw1 : (T.getD i []).length = w := hr _ (List.mem_of_getElem? hr1)
    refine pwp_skip <| pwp_seq <| pwp_block <| pwp_seq <| kx [(4, (vin i))] [] (zM <| zM <| zY) ?_
    refine pwp_seq <| kx [(15, (vl 3 1 enc_i64 (T.getD i []))), (16, (vin (T.getD i []).length)), (17, (vin 0))] [] (zM <| zM <| zE (oXl el66 i ([] : List (Int))) <| zE (oC1 turn_sh) <| zE (oLm el22 (L := (T.getD i []))) <| zM <| zY) ?_
    refine pwp_block <| pwp_loop (α := Nat) (fun j => ⟨[(0, (vl 22 1 enc_sl_22 T)), (3, (.own 0 22 1 (tRs w T i j).length)), (4, (vin i)), (7, (vl 22 1 enc_sl_22 T)), (8, (vin T.length)), (9, (vin i)), (15, (vl 3 1 enc_i64 (T.getD i []))), (16, (vin (T.getD i []).length)), (17, (vin j))], (0, some (rowC 3 1 1 (tRs w T i j))) :: rowB 1 (tRs w T i j)⟩) (fun j => j ≤ w) (fun j => w - j) 0 (sim_get (sget_eq_or (by kernel_rfl)) (fun _ _ h => h)) (Nat.zero_le _) ?_
    intro j hj
    refine pwp_seq <| kx [(18, (vb (decide (((j : Nat) : Int) < (((T.getD i []).length : Nat) : Int)))))] [] (zE oLt <| zY) ?_
    refine pwp_seq <| pwp_cond rfl (fun h2 => ?_) (fun h2 => ?_)
    · replace h2 := of_decide_eq_true h2
      have hjw : j < w := by omega
      have hrl := turn_step (T := T) (i := i) hb hl (by omega) hjw
      refine pwp_skip <| pwp_seq <| pwp_block <| pwp_seq <| kx [(5, (vin j)), (6, .d (enc_i64 ((T.getD i []).getD j 0)))] [] (zM <| zE (oXl el22 j (0 : Int)) <| zE (oC1 sh3) <| zM <| zM <| zY) ?_
      refine pwp_seq <| pwp_seq <| kx [(23, (vb (decide (((i : Nat) : Int) = 0))))] [] (zM <| zE oEq <| zY) ?_
      refine pwp_cond rfl (fun h3 => ?_) (fun h3 => ?_)
      · replace h3 := of_decide_eq_true h3
        obtain rfl : i = 0 := by omega
        have hlj : (tRs w T 0 j).length = j := by rw [tRs_len, if_pos rfl]
        refine kr [(0, (vl 22 1 enc_sl_22 T)), (3, (.own 0 22 1 ((tRs w T 0 j).length + 1))), (4, (vin 0)), (5, (vin j)), (6, .d (enc_i64 ((T.getD 0 []).getD j 0))), (7, (vl 22 1 enc_sl_22 T)), (8, (vin T.length)), (9, (vin 0)), (15, (vl 3 1 enc_i64 (T.getD 0 []))), (16, (vin (T.getD 0 []).length)), (17, (vin j))] ((0, some (rowC 3 1 1 (tRs w T 0 j ++ [[]]))) :: rowB 1 (tRs w T 0 j ++ [[]]))
          (zM <| zE (oBs el66 ze22 zo22) <| zX (row_nil (by exact rfl) (by kernel_rfl) el66 ze22 (by kernel_rfl) by22 (by exact rfl) (by exact rfl) (by unfold maxLen; omega) (by omega)) (by kernel_rfl) <| zM <| zI (sim_row (by kernel_rfl) (by kernel_rfl))) ?_
        have hg0 : ((tRs w T 0 j ++ [[]]).getD j []).length = 0 := by rw [List.getD_eq_getElem?_getD, List.getElem?_append_right (by omega), hlj, Nat.sub_self]; rfl
        have hrs : j < (tRs w T 0 j ++ [[]]).length := by rw [List.length_append, hlj]; exact Nat.lt_succ_self j
        refine kr [(0, (vl 22 1 enc_sl_22 T)), (3, (.own 0 22 1 ((tRs w T 0 j).length + 1))), (4, (vin 0)), (7, (vl 22 1 enc_sl_22 T)), (8, (vin T.length)), (9, (vin 0)), (15, (vl 3 1 enc_i64 (T.getD 0 []))), (16, (vin (T.getD 0 []).length)), (17, (vin j))] ((0, some (rowC 3 1 1 ((tRs w T 0 j ++ [[]]).set j ((tRs w T 0 j ++ [[]]).getD j [] ++ [enc_i64 ((T.getD 0 []).getD j 0)])))) :: rowB 1 ((tRs w T 0 j ++ [[]]).set j ((tRs w T 0 j ++ [[]]).getD j [] ++ [enc_i64 ((T.getD 0 []).getD j 0)])))
          (zM <| zM <| zM <| zM <| zE (oXo el66 j) <| zR (row_ld turn_sh hrs) <| zM <| zE (oBs el22 ze3 zo3) <| zX (row_app (d := enc_i64 ((T.getD 0 []).getD j 0)) (by exact rfl) (by kernel_rfl) el22 ze3 (by kernel_rfl) by3 hrs (by exact rfl) (by exact rfl) rfl (by unfold maxLen; omega) (by omega)) (by kernel_rfl) <| zE (oXo el66 j) <| zT (row_st turn_sh hrs) <| zI (sim_rowset hrs (by kernel_rfl))) ?_
        refine kx [(17, (vin (j + 1)))] [] (zE (oAd (j + 1)) <| zM <| zY) ?_
        refine ⟨j + 1, ?_, hjw, by omega⟩
        have e1 : (tRs w T 0 j).length + 1 = (tRs w T 0 (j + 1)).length := by rw [tRs_len, tRs_len, if_pos rfl, if_pos rfl]
        rw [tRs_first _ hr1, e1]
        exact sim_get (sget_eq_or (by kernel_rfl)) (fun _ _ h => h)
      · replace h3 := of_decide_eq_false h3
        have hi0 : i ≠ 0 := by omega
        have hlj : (tRs w T i j).length = w := by rw [tRs_len, if_neg hi0]
        refine pwp_skip ?_
        have hrs : j < (tRs w T i j).length := by omega
        refine kr [(0, (vl 22 1 enc_sl_22 T)), (3, (.own 0 22 1 (tRs w T i j).length)), (4, (vin i)), (7, (vl 22 1 enc_sl_22 T)), (8, (vin T.length)), (9, (vin i)), (15, (vl 3 1 enc_i64 (T.getD i []))), (16, (vin (T.getD i []).length)), (17, (vin j))] ((0, some (rowC 3 1 1 ((tRs w T i j).set j ((tRs w T i j).getD j [] ++ [enc_i64 ((T.getD i []).getD j 0)])))) :: rowB 1 ((tRs w T i j).set j ((tRs w T i j).getD j [] ++ [enc_i64 ((T.getD i []).getD j 0)])))
          (zM <| zM <| zM <| zM <| zE (oXo el66 j) <| zR (row_ld turn_sh hrs) <| zM <| zE (oBs el22 ze3 zo3) <| zX (row_app (d := enc_i64 ((T.getD i []).getD j 0)) (by exact rfl) (by kernel_rfl) el22 ze3 (by kernel_rfl) by3 hrs (by exact rfl) (by exact rfl) rfl (by unfold maxLen; omega) (by omega)) (by kernel_rfl) <| zE (oXo el66 j) <| zT (row_st turn_sh hrs) <| zI (sim_rowset hrs (by kernel_rfl))) ?_
        refine kx [(17, (vin (j + 1)))] [] (zE (oAd (j + 1)) <| zM <| zY) ?_
        refine ⟨j + 1, ?_, hjw, by omega⟩
        have e1 : (tRs w T i j).length = (tRs w T i (j + 1)).length := by rw [tRs_len, tRs_len, if_neg hi0, if_neg hi0]
        rw [tRs_set hjw hi0 _ hr1, e1]
        exact sim_get (sget_eq_or (by kernel_rfl)) (fun _ _ h => h)
    · replace h2 := of_decide_eq_false h2
      obtain rfl : j = w := by omega
      refine pwp_exit <| kx [(9, (vin (i + 1)))] [] (zE (oAd (i + 1)) <| zM <| zY) ?_
      refine ⟨i + 1, ?_, by omega, by omega⟩
      rw [show tRs j T i j = tRs j T (i + 1) 0 by unfold tRs; rw [rowsAt_next]]
      exact sim_get (sget_eq_or (by kernel_rfl)) (fun _ _ h => h)
  · replace h1 := of_decide_eq_false h1
    obtain rfl : i = T.length := by omega
    refine pwp_exit <| pwp_seq <| kx [(2, (.own 0 22 1 (tRs w T T.length 0).length))] [] (zM <| zM <| zY) ?_
    refine pwp_sim (rows_pub (E := 3) (tRs w T T.length 0) 1 [] _ (by decide) (fun r hr e he => by
      obtain ⟨r0, _, rfl⟩ := List.mem_map.1 hr
      obtain ⟨e0, _, rfl⟩ := List.mem_map.1 he; rfl) (by show bget ((0, some (rowC 3 1 1 (tRs w T T.length 0))) :: rowB 1 (tRs w T T.length 0)) 0 = _; rw [bget_cons, if_pos rfl]; rfl) (fun q r hq => by show bget ((0, some (rowC 3 1 1 (tRs w T T.length 0))) :: rowB 1 (tRs w T T.length 0)) (1 + q) = _; rw [bget_cons, if_neg (by omega), rowB_get, if_pos (by omega), show 1 + q - 1 = q by omega, hq]; rfl)) ?_
    refine pwp_sim (publish (t := 2) (k := 0) (es := List.map enc_sl_22 (rowsAt w T T.length 0)) rfl rfl (pub_cells _ _ (fun _ => rfl)) (map_len _ _ (by rw [tRs, List.length_map])) ?_) ?_
    · show ([] ++ (tRs w T T.length 0).map fun r => SV.d (.sl 3 1 r)).take ((tRs w T T.length 0).length * 1) = _
      rw [List.nil_append, show ((tRs w T T.length 0).map fun r => SV.d (.sl 3 1 r)) = bm enc_sl_22 (rowsAt w T T.length 0) by rw [tRs, List.map_map]; rfl]
      exact pub_take _ _ (fun _ => rfl) (by rw [tRs, List.length_map])
    refine pwp_ret ⟨_, (.tmp (d := (.sl 22 1 (List.map enc_sl_22 (rowsAt w T T.length 0)))) rfl .nil), ?_⟩
    rfl
theorem p_turned (T : List (List Int)) (w : Nat) (hr : Rect w T) (hb : w ≤ 1000000) (hl : T.length ≤ 1000000) : Takes Try.prog 68 [.sl 22 1 (List.map enc_sl_22 T)] (.sl 22 1 (List.map enc_sl_22 (trP T))) := by
  have h := p_turned0 T w hr hb hl
  by_cases h0 : T = []
  · subst h0; exact h
  · rw [trP_eq hr h0, ← rowsAt_end w T h0]; exact h
end Go.Proofs.Ytleidgohjckmlaa
namespace Go.Proofs.Ytleidgohjckmlaa
open Go.Fid
set_option maxRecDepth 4000
set_option linter.unusedVariables false
set_option linter.unusedSimpArgs false
theorem cb47 : callB Try.prog 47 = true := by kernel_rfl
theorem p_turnedT {b : Int} {w : Nat} {T : List (List Int)} (h : TabOk b w T) : Takes Try.prog 68 [.sl 22 1 (List.map enc_sl_22 T)] (.sl 22 1 (List.map enc_sl_22 (trP T))) := p_turned T w h.1 (Nat.le_trans h.2.1 (by decide)) (Nat.le_trans h.2.2.1 (by decide))
theorem p_cols (T : List (List Int)) (w : Nat) (ht : TabOk 137438953472 w T) : Takes Try.prog 47 [(.sl 22 1 (List.map enc_sl_22 T))] (.tup [(.sl 3 1 (List.map enc_i64 (colLo T))), (.sl 3 1 (List.map enc_i64 (colHi T)))]) := by
  have htt := tab_tr ht
  have htl := tab_len htt
  refine fn_intro Try.func47 rfl cb47 rfl ?_
  show PWp _ _ _ _ ⟨[(0, (vl 22 1 enc_sl_22 T))], []⟩
  refine pwp_seq <| kx [] [] (zE (oNl 3 1) <| zE (oNl 3 1) <| zZ) ?_
  refine pwp_seq <| kx [(4, (.own 0 22 1 0)), (5, (.own 1 22 1 0))] [(0, some (bm enc_sl_22 [])), (1, some (bm enc_sl_22 []))] (zO 0 22 1 <| zO 1 22 1 <| zZ) ?_
  refine pwp_seq <| pwp_seq <| kx [(11, (vl 22 1 enc_sl_22 (trP T))), (12, (vin ((trP T).length))), (13, (vin 0))] [] (zM <| zE (oCl (p_turnedT ht)) <| zE (oLm el66 (L := (trP T))) <| zM <| zZ) ?_
  refine pwp_block <| pwp_loop (α := Nat × List (List Int) × List (List Int)) (fun (k, a, b) => ⟨[(4, (.own 0 22 1 a.length)), (5, (.own 1 22 1 b.length)), (11, (vl 22 1 enc_sl_22 (trP T))), (12, (vin ((trP T).length))), (13, (vin k))], [(0, some (bm enc_sl_22 a)), (1, some (bm enc_sl_22 b))]⟩) (fun (k, a, b) => k ≤ (trP T).length ∧ a = ((trP T).take k).map loS ∧ b = ((trP T).take k).map hiS) (fun (k, a, b) => (trP T).length - k) (0, [], []) wk ⟨Nat.zero_le _, rfl, rfl⟩ ?_
  rintro ⟨k, a, b⟩ ⟨hk, ha, hb⟩
  have hla := map_lenle loS ha htl
  have hlb := map_lenle hiS hb htl
  have hg := tab_get htt k
  have hta := ha ▸ tab_lo (tab_take htt k)
  have htb := hb ▸ tab_hi (tab_take htt k)
  refine pwp_seq <| kx [(14, (vb (decide (((k : Nat) : Int) < (((trP T).length : Nat) : Int)))))] [] (zE oLt <| zZ) ?_
  refine pwp_seq <| pwp_cond rfl (fun h1 => ?_) (fun h1 => ?_)
  · replace h1 := of_decide_eq_true h1
    refine pwp_skip <| pwp_seq <| pwp_block <| pwp_seq <| kx [(7, (vl 3 1 enc_i64 ((trP T).getD k [])))] [] (zE (oXl el66 k ([] : List (Int)) (L := (trP T))) <| zE (oC1 sh22) <| zM <| zZ) ?_
    refine pwp_seq <| kx [(8, (vl 3 1 enc_i64 (loS ((trP T).getD k [])))), (9, (vl 3 1 enc_i64 (hiS ((trP T).getD k []))))] [] (zM <| zE (oCl (p_split ((trP T).getD k []) (hg.1.up (by decide)) (Nat.le_trans hg.2 (by decide)))) <| zM <| zE oEx <| zE oEx <| zM <| zM <| zZ) ?_
    refine kf [(4, (.own 0 22 1 ((a ++ [(loS ((trP T).getD k []))]).length))), (5, (.own 1 22 1 ((b ++ [(hiS ((trP T).getD k []))]).length)))] [(0, some (bm enc_sl_22 (a ++ [(loS ((trP T).getD k []))]))), (1, some (bm enc_sl_22 (b ++ [(hiS ((trP T).getD k []))])))] (zM <| zM <| zE (oBs el66 ze22 zo22) <| zA enc_sl_22 a [(loS ((trP T).getD k []))] rfl el66 ze22 by22 (k := 0) <| zM <| zM <| zE (oBs el66 ze22 zo22) <| zA enc_sl_22 b [(hiS ((trP T).getD k []))] rfl el66 ze22 by22 (k := 1) <| zM <| zM <| zF) ?_
    refine kx [(13, (vin (k + 1)))] [] (zE (oAd (k + 1)) <| zM <| zZ) ?_
    exact ⟨(k + 1, a ++ [loS ((trP T).getD k [])], b ++ [hiS ((trP T).getD k [])]), wk, ⟨by omega, map_step loS [] ha (by omega), map_step hiS [] hb (by omega)⟩, (by first | omega | (dsimp only; omega))⟩
  · replace h1 := of_decide_eq_false h1
    refine pwp_exit <| pwp_seq <| pwp_sim (publish (t := 4) (k := 0) (es := List.map enc_sl_22 a) rfl rfl (pub_cells _ _ (fun _ => rfl)) (map_len _ _ rfl) (pub_take _ _ (fun _ => rfl) rfl)) ?_
    refine pwp_sim (publish (t := 5) (k := 1) (es := List.map enc_sl_22 b) rfl rfl (pub_cells _ _ (fun _ => rfl)) (map_len _ _ rfl) (pub_take _ _ (fun _ => rfl) rfl)) ?_
    refine kx [(2, (vl 3 1 enc_i64 ((trP a).flatten))), (3, (vl 3 1 enc_i64 ((trP b).flatten)))] [] (zM <| zE (oCl (p_turnedT hta)) <| zE (oCl (p_con (trP a) (tab_flat (tab_tr hta)) (Nat.le_trans (tab_len (tab_tr hta)) (by decide)))) <| zM <| zE (oCl (p_turnedT htb)) <| zE (oCl (p_con (trP b) (tab_flat (tab_tr htb)) (Nat.le_trans (tab_len (tab_tr htb)) (by decide)))) <| zM <| zM <| zZ) ?_
    refine pwp_ret ⟨_, (.tmp (d := (.sl 3 1 (List.map enc_i64 ((trP a).flatten)))) rfl (.tmp (d := (.sl 3 1 (List.map enc_i64 ((trP b).flatten)))) rfl .nil)), ?_⟩
    rw [map_end loS ha (by omega), map_end hiS hb (by omega)]; rfl
end Go.Proofs.Ytleidgohjckmlaa
namespace Go.Proofs.Ytleidgohjckmlaa
open Go.Fid
set_option maxRecDepth 4000
set_option linter.unusedVariables false
set_option linter.unusedSimpArgs false
theorem cb36 : callB Try.prog 36 = true := by kernel_rfl
theorem cb37 : callB Try.prog 37 = true := by kernel_rfl
theorem cb52 : callB Try.prog 52 = true := by kernel_rfl
theorem fo24_2 : fieldB Try.prog 24 2 = some 2 := by kernel_rfl
theorem p_chkC (n : Int) (w h mx : Int) (px : List Int) : Takes Try.prog 37 [(.val (.int .i64 (n))), (.cptr 1000000 (Dat.cells (encRst (RRst.mk w h mx px))) 0)] (.val (.bool ((badPx mx n)))) := by
  refine fn_intro Try.func37 rfl cb37 rfl ?_
  show PWp _ _ _ _ ⟨[(0, (vi n)), (1, (.d (.cptr 1000000 (Dat.cells (encRst (RRst.mk w h mx px))) 0)))], []⟩
  refine pwp_seq <| kx [] [] (zM <| zZ) ?_
  refine pwp_seq <| kx [(3, (vb (decide (n < 0) || decide (mx < n))))] [] ?_ ?_
  · refine zM <| zE oLt <| zE (oV (vb (decide (n < 0))) (mv_ok (by kernel_rfl))) <| ?_
    rcases hb1 : (decide (n < 0)) with _ | _
    · replace hb1 := of_decide_eq_false hb1
      exact zM <| zE (oFc fo24_2) <| zE (oC1 sh3) <| zE oGt <| zE oPo <| zM <| zZ
    · replace hb1 := of_decide_eq_true hb1
      exact zK <| zK <| zK <| zK <| zE oPt <| zM <| zZ
  refine pwp_ret ⟨_, (.tmp (d := (.val (.bool ((decide (n < 0) || decide (mx < n)))))) rfl .nil), ?_⟩
  rfl
theorem p_chkAI (l : List Int) (w h mx : Int) (px : List Int) (hb : l.length ≤ 1000000) : Takes Try.prog 52 [(.sl 3 1 (List.map enc_i64 l)), (.clo 37 [(.cptr 1000000 (Dat.cells (encRst (RRst.mk w h mx px))) 0)])] (.val (.int .i64 ((firstIx (badPx mx) l 0)))) := by
  refine fn_intro Try.func52 rfl cb52 rfl ?_
  show PWp _ _ _ _ ⟨[(0, (vl 3 1 enc_i64 l)), (1, (.d (.clo 37 [(.cptr 1000000 (Dat.cells (encRst (RRst.mk w h mx px))) 0)])))], []⟩
  refine pwp_seq <| kx [] [] (zM <| zZ) ?_
  refine pwp_seq <| pwp_seq <| kx [(7, (vin l.length)), (8, (vin 0))] [] (zM <| zE (oLm el22) <| zM <| zZ) ?_
  refine pwp_block <| pwp_loop (α := Nat) (fun k => ⟨[(0, (vl 3 1 enc_i64 l)), (1, (.d (.clo 37 [(.cptr 1000000 (Dat.cells (encRst (RRst.mk w h mx px))) 0)]))), (7, (vin l.length)), (8, (vin k))], []⟩) (fun k => k ≤ l.length ∧ firstIx (badPx mx) l 0 = firstIx (badPx mx) (l.drop k) k) (fun k => l.length - k) 0 wk ⟨Nat.zero_le _, rfl⟩ ?_
  rintro k ⟨hk, hv⟩
  refine pwp_seq <| kx [(9, (vb (decide (((k : Nat) : Int) < ((l.length : Nat) : Int)))))] [] (zE oLt <| zZ) ?_
  refine pwp_seq <| pwp_cond rfl (fun h1 => ?_) (fun h1 => ?_)
  · replace h1 := of_decide_eq_true h1
    refine pwp_skip <| pwp_seq <| pwp_block <| pwp_seq <| kx [(5, (vin k))] [] (zM <| zM <| zZ) ?_
    refine pwp_seq <| kx [(16, (vb (badPx mx (l.getD k 0))))] [] (zM <| zM <| zM <| zE (oXl el22 k (0 : Int)) <| zE (oC1 sh3) <| zE (oCd (ds := [(.val (.int .i64 ((l.getD k 0))))]) (caps := [(.cptr 1000000 (Dat.cells (encRst (RRst.mk w h mx px))) 0)]) (p_chkC (l.getD k 0) w h mx px)) <| zZ) ?_
    refine pwp_cond (b := (badPx mx (l.getD k 0))) rfl (fun h2 => ?_) (fun h2 => ?_)
    · have hix := firstIx_at _ l k (by omega) h2
      refine pwp_seq <| kx [(4, (vin k))] [] (zM <| zM <| zZ) ?_
      refine pwp_ret ⟨_, (.tmp (d := (.val (.int .i64 (((k : Nat) : Int))))) rfl .nil), ?_⟩
      rw [hv, hix]; rfl
    · have hix := firstIx_step _ l k (by omega) h2
      refine pwp_skip <| kx [(8, (vin (k + 1)))] [] (zE (oAd (k + 1)) <| zM <| zZ) ?_
      exact ⟨(k + 1), wk, ⟨by omega, hv.trans hix⟩, (by omega)⟩
  · replace h1 := of_decide_eq_false h1
    have hix := firstIx_end (badPx mx) l k (by omega)
    refine pwp_exit <| pwp_seq <| kx [(4, (vi (-1)))] [] (zM <| zZ) ?_
    refine pwp_ret ⟨_, (.tmp (d := (.val (.int .i64 (-1)))) rfl .nil), ?_⟩
    rw [hv, hix]; rfl
theorem p_chkA (l : List Int) (w h mx : Int) (px : List Int) (hb : l.length ≤ 1000000) : Takes Try.prog 36 [(.sl 3 1 (List.map enc_i64 l)), (.clo 37 [(.cptr 1000000 (Dat.cells (encRst (RRst.mk w h mx px))) 0)])] (.val (.bool ((l.any (badPx mx))))) := by
  refine fn_intro Try.func36 rfl cb36 rfl ?_
  show PWp _ _ _ _ ⟨[(0, (vl 3 1 enc_i64 l)), (1, (.d (.clo 37 [(.cptr 1000000 (Dat.cells (encRst (RRst.mk w h mx px))) 0)])))], []⟩
  refine pwp_seq <| kx [] [] (zM <| zZ) ?_
  refine pwp_seq <| kx [(4, (vb (decide (0 ≤ (firstIx (badPx mx) l 0)))))] [] (zM <| zM <| zE (oCl (p_chkAI l w h mx px hb)) <| zE oGe <| zM <| zZ) ?_
  refine pwp_ret ⟨_, (.tmp (d := (.val (.bool (decide (0 ≤ (firstIx (badPx mx) l 0)))))) rfl .nil), ?_⟩
  rw [firstIx_any]; rfl
end Go.Proofs.Ytleidgohjckmlaa
