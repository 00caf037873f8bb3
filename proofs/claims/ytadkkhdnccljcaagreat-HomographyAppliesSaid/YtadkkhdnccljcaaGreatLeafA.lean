/-
  Functions walked: each takes its data to what is said. Printed by a program of ours.
-/
import Derived.Test.YtadkkhdnccljcaaGreatFacts
import Derived.Test.YtadkkhdnccljcaaGreatDig
import Derived.Test.YtadkkhdnccljcaaGreatFid16
namespace Go.Proofs.YtadkkhdnccljcaaGreat
open Go.Fid
set_option maxRecDepth 4000
set_option linter.unusedVariables false
set_option linter.unusedSimpArgs false
theorem by138 : bytesB Tryz.prog 138 = some 4 := by kernel_rfl
theorem cb132 : callB Tryz.prog 132 = true := by kernel_rfl
theorem cb139 : callB Tryz.prog 139 = true := by kernel_rfl
theorem cb140 : callB Tryz.prog 140 = true := by kernel_rfl
theorem cb155 : callB Tryz.prog 155 = true := by kernel_rfl
theorem cb163 : callB Tryz.prog 163 = true := by kernel_rfl
theorem el28 : elemB Tryz.prog 28 = some (138, 1) := by kernel_rfl
theorem in138 : intB Tryz.prog 138 = some .u32 := by kernel_rfl
theorem in140 : intB Tryz.prog 140 = some .u64 := by kernel_rfl
theorem sh138 : shapeB Tryz.prog 138 = some (false, 1) := by kernel_rfl
theorem un138 : (Tryz.prog.underlying 138).isSome = true := by kernel_rfl
theorem un140 : (Tryz.prog.underlying 140).isSome = true := by kernel_rfl
theorem ze138 : zeroB Tryz.prog 138 = some [.int .u32 0] := by kernel_rfl
theorem zo138 : ZOk [.int .u32 0] [.val (.int .u32 0)] := by simp [ZOk, Value.oneCell']
theorem t_at (l : List Nat) (i : Nat) : Takes Tryz.prog 163 [(.sl 138 1 (List.map enc_u32 l)), (.val (.int .i64 (((i : Nat) : Int))))] (.val (.int .u32 ((((l.getD i 0) : Nat) : Int)))) := by
  refine fn_intro Tryz.func163 rfl cb163 rfl ?_
  show PWp _ _ _ _ ⟨[(0, (vl 138 1 enc_u32 l)), (1, (vin i))], []⟩
  refine pwp_seq <| pwp_S (S' := [(0, (vl 138 1 enc_u32 l)), (1, (vin i))]) (B' := []) ?_ ?_
  · exact sM (vwn 0) rfl rfl <| sNil rfl rfl
  refine pwp_seq <| pwp_seq <| pwp_S (S' := [(0, (vl 138 1 enc_u32 l)), (1, (vin i)), (8, (vb (decide (((i : Nat) : Int) < ((l.length : Nat) : Int)))))]) (B' := []) ?_ ?_
  · exact sM (vin i) rfl rfl <| sM (vl 138 1 enc_u32 l) rfl rfl <| sE' (e_ln (r := ((l.length : Nat) : Int)) rfl el28 rfl (by simp)) rfl <| sE' (e_lss rfl rfl rfl) rfl <| sNil rfl rfl
  refine pwp_cond (b := decide (((i : Nat) : Int) < ((l.length : Nat) : Int))) rfl (fun h1 => ?_) (fun h1 => ?_)
  · replace h1 := of_decide_eq_true h1
    refine pwp_seq <| pwp_S (S' := [(4, (vwn (l.getD i 0)))]) (B' := []) ?_ ?_
    · exact sM (vl 138 1 enc_u32 l) rfl rfl <| sM (vin i) rfl rfl <| sE' (e_ixs (j := i) (cs := (Dat.cells (.val (.int .u32 ((((l.getD i 0) : Nat) : Int)))))) rfl el28 rfl rfl (by omega) (ixm _ _ _ _ (by omega))) rfl <| sE' (e_lc1 (cs := (Dat.cells (.val (.int .u32 ((((l.getD i 0) : Nat) : Int)))))) (y := (.val (.int .u32 ((((l.getD i 0) : Nat) : Int))))) rfl rfl sh138 rfl) rfl <| sM (vwn (l.getD i 0)) rfl rfl <| sNil rfl rfl
    refine pwp_ret ⟨_, (.tmp (d := (.val (.int .u32 ((((l.getD i 0) : Nat) : Int))))) rfl .nil), ?_⟩
    rfl
  · replace h1 := of_decide_eq_false h1
    refine pwp_skip <| pwp_seq <| pwp_S (S' := [(4, (vwn 0))]) (B' := []) ?_ ?_
    · exact sM (vwn 0) rfl rfl <| sNil rfl rfl
    refine pwp_ret ⟨_, (.tmp (d := (.val (.int .u32 (0)))) rfl .nil), ?_⟩
    rw [show l.getD i 0 = 0 from getD_out (by omega)]; rfl
theorem t_trim (l0 : List Nat) (hd : Dig l0) (hb : l0.length ≤ 17592186044416) : Takes Tryz.prog 155 [(.sl 138 1 (List.map enc_u32 l0))] (.sl 138 1 (List.map enc_u32 (ofNat (val l0)))) := by
  refine fn_intro Tryz.func155 rfl cb155 rfl ?_
  show PWp _ _ _ _ ⟨[(0, (vl 138 1 enc_u32 l0))], []⟩
  refine pwp_seq <| pwp_S (S' := [(0, (vl 138 1 enc_u32 l0))]) (B' := []) ?_ ?_
  · exact sE' (e_asgnil 138 1 rfl) rfl <| sNil rfl rfl
  refine pwp_seq <| pwp_block <| pwp_loop (α := List Nat) (fun l => ⟨[(0, (vl 138 1 enc_u32 l))], []⟩) (fun l => Dig l ∧ val l = val l0 ∧ l.length ≤ l0.length) (fun l => l.length) l0 (weak rfl rfl) ⟨hd, rfl, Nat.le_refl _⟩ ?_
  rintro l ⟨hl, hv, hle⟩
  refine pwp_seq <| pwp_seq <| pwp_S (S' := [(0, (vl 138 1 enc_u32 l)), (14, (vb (decide (0 < ((l.length : Nat) : Int)) && ((((l.getD (l.length - 1) 0) : Nat) : Int) == 0))))]) (B' := []) ?_ ?_
  · refine sM (vl 138 1 enc_u32 l) rfl rfl <| sE' (e_ln (r := ((l.length : Nat) : Int)) rfl el28 rfl (by simp)) rfl <| sE' (e_gtr rfl rfl rfl) rfl <| sM (vb (decide (0 < ((l.length : Nat) : Int)))) rfl rfl <| ?_
    rcases hb1 : (decide (0 < ((l.length : Nat) : Int))) with _ | _
    · replace hb1 := of_decide_eq_false hb1
      exact sK rfl rfl rfl <| sK rfl rfl rfl <| sK rfl rfl rfl <| sK rfl rfl rfl <| sK rfl rfl rfl <| sK rfl rfl rfl <| sK rfl rfl rfl <| sE' (e_pkf (z := (vb false)) rfl rfl rfl) rfl <| sNil rfl rfl
    · replace hb1 := of_decide_eq_true hb1
      exact sM (vl 138 1 enc_u32 l) rfl rfl <| sM (vl 138 1 enc_u32 l) rfl rfl <| sE' (e_ln (r := ((l.length : Nat) : Int)) rfl el28 rfl (by simp)) rfl <| sE' (e_sub (r := (((l.length - 1) : Nat) : Int)) rfl rfl rfl (wi64 (by omega) (by omega) (by omega))) rfl <| sE' (e_ixs (j := (l.length - 1)) (cs := (Dat.cells (.val (.int .u32 ((((l.getD (l.length - 1) 0) : Nat) : Int)))))) rfl el28 rfl rfl (by omega) (ixm _ _ _ _ (by omega))) rfl <| sE' (e_lc1 (cs := (Dat.cells (.val (.int .u32 ((((l.getD (l.length - 1) 0) : Nat) : Int)))))) (y := (.val (.int .u32 ((((l.getD (l.length - 1) 0) : Nat) : Int))))) rfl rfl sh138 rfl) rfl <| sE' (e_eql rfl rfl rfl) rfl <| sE' (e_pkta rfl rfl rfl) rfl <| sNil rfl rfl
  refine pwp_cond (b := (decide (0 < ((l.length : Nat) : Int)) && ((((l.getD (l.length - 1) 0) : Nat) : Int) == 0))) rfl (fun h2 => ?_) (fun h2 => ?_)
  · obtain ⟨hp, _⟩ := trim_cond h2
    refine pwp_skip <| pwp_block <| pwp_S (S' := [(0, (vl 138 1 enc_u32 (List.take (l.length - 1) l)))]) (B' := []) ?_ ?_
    · exact sM (vl 138 1 enc_u32 l) rfl rfl <| sM (vl 138 1 enc_u32 l) rfl rfl <| sE' (e_ln (r := ((l.length : Nat) : Int)) rfl el28 rfl (by simp)) rfl <| sE' (e_sub (r := (((l.length - 1) : Nat) : Int)) rfl rfl rfl (wi64 (by omega) (by omega) (by omega))) rfl <| sE' (e_slc (l := 0) (h := (l.length - 1)) (kl := .i64) (kh := .i64) (es' := List.map enc_u32 (List.take (l.length - 1) l)) rfl el28 rfl rfl rfl (Nat.zero_le _) (by simp only [List.length_map]; omega) (by rw [List.drop_zero, List.map_take])) rfl <| sM (vl 138 1 enc_u32 (List.take (l.length - 1) l)) rfl rfl <| sNil rfl rfl
    exact ⟨(l.take (l.length - 1)), (weak rfl rfl), (trim_step hl hv hle h2), (trim_less h2)⟩
  · refine pwp_exit <| pwp_seq <| pwp_S (S' := [(2, (vl 138 1 enc_u32 l))]) (B' := []) ?_ ?_
    · exact sM (vl 138 1 enc_u32 l) rfl rfl <| sM (vl 138 1 enc_u32 l) rfl rfl <| sNil rfl rfl
    refine pwp_ret ⟨_, (.tmp (d := (.sl 138 1 (List.map enc_u32 l))) rfl .nil), ?_⟩
    rw [trim_end hl hv h2]; rfl
theorem t_plus (a b : List Nat) (hda : Dig a) (hdb : Dig b) (hla : a.length ≤ 8796093022208) (hlb : b.length ≤ 8796093022208) : Takes Tryz.prog 139 [(.sl 138 1 (List.map enc_u32 a)), (.sl 138 1 (List.map enc_u32 b))] (.sl 138 1 (List.map enc_u32 (ofNat (val a + val b)))) := by
  refine fn_intro Tryz.func139 rfl cb139 rfl ?_
  show PWp _ _ _ _ ⟨[(0, (vl 138 1 enc_u32 a)), (1, (vl 138 1 enc_u32 b))], []⟩
  refine pwp_seq <| pwp_S (S' := [(0, (vl 138 1 enc_u32 a)), (1, (vl 138 1 enc_u32 b))]) (B' := []) ?_ ?_
  · exact sE' (e_asgnil 138 1 rfl) rfl <| sNil rfl rfl
  refine pwp_seq <| pwp_S (S' := [(0, (vl 138 1 enc_u32 a)), (1, (vl 138 1 enc_u32 b)), (5, (.own 0 138 1 ((max a.length b.length) + 1)))]) (B' := [(0, some (bm enc_u32 (List.replicate ((max a.length b.length) + 1) 0)))]) ?_ ?_
  · exact sM (vl 138 1 enc_u32 a) rfl rfl <| sE' (e_ln (r := ((a.length : Nat) : Int)) rfl el28 rfl (by simp)) rfl <| sM (vl 138 1 enc_u32 b) rfl rfl <| sE' (e_ln (r := ((b.length : Nat) : Int)) rfl el28 rfl (by simp)) rfl <| sE' (e_maxn (r := (((max a.length b.length) : Nat) : Int)) rfl rfl rfl (by omega)) rfl <| sE' (e_add (r := ((((max a.length b.length) + 1) : Nat) : Int)) rfl rfl rfl (wi64 (by omega) (by omega) (by omega))) rfl <| sN (n_mks (n := ((max a.length b.length) + 1)) (m := ((max a.length b.length) + 1)) (cs := (bm enc_u32 (List.replicate ((max a.length b.length) + 1) 0))) 0 rfl el28 ze138 zo138 rfl by138 rfl rfl (by omega) (by omega) (by unfold maxLen; omega) (own_zero enc_u32 _ _)) rfl rfl rfl rfl <| sM (.own 0 138 1 ((max a.length b.length) + 1)) rfl rfl <| sNil rfl rfl
  refine pwp_seq <| pwp_S (S' := [(0, (vl 138 1 enc_u32 a)), (1, (vl 138 1 enc_u32 b)), (5, (.own 0 138 1 ((max a.length b.length) + 1))), (6, (vwn 0))]) (B' := [(0, some (bm enc_u32 (List.replicate ((max a.length b.length) + 1) 0)))]) ?_ ?_
  · exact sM (vwn 0) rfl rfl <| sNil rfl rfl
  refine pwp_seq <| pwp_seq <| pwp_S (S' := [(0, (vl 138 1 enc_u32 a)), (1, (vl 138 1 enc_u32 b)), (5, (.own 0 138 1 ((max a.length b.length) + 1))), (6, (vwn 0)), (17, (vin ((max a.length b.length) + 1))), (18, (vin 0))]) (B' := [(0, some (bm enc_u32 (List.replicate ((max a.length b.length) + 1) 0)))]) ?_ ?_
  · exact sM (.own 0 138 1 ((max a.length b.length) + 1)) rfl rfl <| sE' (e_len_own rfl el28 rfl) rfl <| sM (vin 0) rfl rfl <| sNil rfl rfl
  refine pwp_block <| pwp_loop (α := Nat × List Nat × Nat) (fun (i, out, c) => ⟨[(0, (vl 138 1 enc_u32 a)), (1, (vl 138 1 enc_u32 b)), (5, (.own 0 138 1 ((max a.length b.length) + 1))), (6, (vwn c)), (17, (vin ((max a.length b.length) + 1))), (18, (vin i))], [(0, some (bm enc_u32 out))]⟩) (fun (i, out, c) => out.length = max a.length b.length + 1 ∧ Dig out ∧ i ≤ max a.length b.length + 1 ∧ c ≤ 1 ∧ val (out.take i) + pw i * c = val (a.take i) + val (b.take i)) (fun (i, out, c) => max a.length b.length + 1 - i) (0, List.replicate (max a.length b.length + 1) 0, 0) (weak rfl rfl) ⟨by simp, dig_replicate _, Nat.zero_le _, Nat.zero_le _, by simp [val]⟩ ?_
  rintro ⟨i, out, c⟩ ⟨hlen, hdo, hi, hc, hv⟩
  have hai := hda.getD i
  have hbi := hdb.getD i
  refine pwp_seq <| pwp_S (S' := [(0, (vl 138 1 enc_u32 a)), (1, (vl 138 1 enc_u32 b)), (5, (.own 0 138 1 ((max a.length b.length) + 1))), (6, (vwn c)), (17, (vin ((max a.length b.length) + 1))), (18, (vin i)), (19, (vb (decide (((i : Nat) : Int) < ((((max a.length b.length) + 1) : Nat) : Int)))))]) (B' := [(0, some (bm enc_u32 out))]) ?_ ?_
  · exact sE' (e_lss rfl rfl rfl) rfl <| sNil rfl rfl
  refine pwp_seq <| pwp_cond (b := decide (((i : Nat) : Int) < ((((max a.length b.length) + 1) : Nat) : Int))) rfl (fun h1 => ?_) (fun h1 => ?_)
  · replace h1 := of_decide_eq_true h1
    refine pwp_skip <| pwp_seq <| pwp_block <| pwp_seq <| pwp_S (S' := [(0, (vl 138 1 enc_u32 a)), (1, (vl 138 1 enc_u32 b)), (5, (.own 0 138 1 ((max a.length b.length) + 1))), (6, (vwn c)), (7, (vin i)), (17, (vin ((max a.length b.length) + 1))), (18, (vin i))]) (B' := [(0, some (bm enc_u32 out))]) ?_ ?_
    · exact sM (vin i) rfl rfl <| sM (vin i) rfl rfl <| sNil rfl rfl
    refine pwp_seq <| pwp_S (S' := [(0, (vl 138 1 enc_u32 a)), (1, (vl 138 1 enc_u32 b)), (5, (.own 0 138 1 ((max a.length b.length) + 1))), (7, (vin i)), (8, (vwn (((a.getD i 0) + (b.getD i 0)) + c))), (17, (vin ((max a.length b.length) + 1))), (18, (vin i))]) (B' := [(0, some (bm enc_u32 out))]) ?_ ?_
    · exact sM (vl 138 1 enc_u32 a) rfl rfl <| sM (vin i) rfl rfl <| sE' (e_cl (t_at a i) rfl rfl rfl) rfl <| sM (vl 138 1 enc_u32 b) rfl rfl <| sM (vin i) rfl rfl <| sE' (e_cl (t_at b i) rfl rfl rfl) rfl <| sE' (e_add (r := ((((a.getD i 0) + (b.getD i 0)) : Nat) : Int)) rfl rfl rfl (wu32 (by omega) (by omega) (by omega))) rfl <| sM (vwn c) rfl rfl <| sE' (e_add (r := (((((a.getD i 0) + (b.getD i 0)) + c) : Nat) : Int)) rfl rfl rfl (wu32 (by omega) (by omega) (by omega))) rfl <| sM (vwn (((a.getD i 0) + (b.getD i 0)) + c)) rfl rfl <| sNil rfl rfl
    refine pwp_seq <| pwp_S (S' := [(0, (vl 138 1 enc_u32 a)), (1, (vl 138 1 enc_u32 b)), (5, (.own 0 138 1 ((max a.length b.length) + 1))), (6, (vwn 0)), (7, (vin i)), (8, (vwn (((a.getD i 0) + (b.getD i 0)) + c))), (17, (vin ((max a.length b.length) + 1))), (18, (vin i))]) (B' := [(0, some (bm enc_u32 out))]) ?_ ?_
    · exact sM (vwn 0) rfl rfl <| sNil rfl rfl
    refine pwp_seq <| pwp_seq <| pwp_S (S' := [(0, (vl 138 1 enc_u32 a)), (1, (vl 138 1 enc_u32 b)), (5, (.own 0 138 1 ((max a.length b.length) + 1))), (6, (vwn 0)), (7, (vin i)), (8, (vwn (((a.getD i 0) + (b.getD i 0)) + c))), (17, (vin ((max a.length b.length) + 1))), (18, (vin i)), (31, (vb (decide (1000000000 ≤ (((((a.getD i 0) + (b.getD i 0)) + c) : Nat) : Int)))))]) (B' := [(0, some (bm enc_u32 out))]) ?_ ?_
    · exact sM (vwn (((a.getD i 0) + (b.getD i 0)) + c)) rfl rfl <| sE' (e_geq rfl rfl rfl) rfl <| sNil rfl rfl
    refine pwp_cond (b := decide (1000000000 ≤ (((((a.getD i 0) + (b.getD i 0)) + c) : Nat) : Int))) rfl (fun h2 => ?_) (fun h2 => ?_)
    · replace h2 := of_decide_eq_true h2
      refine pwp_S (S' := [(0, (vl 138 1 enc_u32 a)), (1, (vl 138 1 enc_u32 b)), (5, (.own 0 138 1 ((max a.length b.length) + 1))), (6, (vwn 1)), (7, (vin i)), (8, (vwn ((((a.getD i 0) + (b.getD i 0)) + c) - 1000000000))), (17, (vin ((max a.length b.length) + 1))), (18, (vin i))]) (B' := [(0, some (bm enc_u32 out))]) ?_ ?_
      · exact sM (vwn (((a.getD i 0) + (b.getD i 0)) + c)) rfl rfl <| sE' (e_sub (r := ((((((a.getD i 0) + (b.getD i 0)) + c) - 1000000000) : Nat) : Int)) rfl rfl rfl (wu32 (by omega) (by omega) (by omega))) rfl <| sM (vwn ((((a.getD i 0) + (b.getD i 0)) + c) - 1000000000)) rfl rfl <| sM (vwn 1) rfl rfl <| sNil rfl rfl
      refine pwp_S (S' := [(0, (vl 138 1 enc_u32 a)), (1, (vl 138 1 enc_u32 b)), (5, (.own 0 138 1 ((max a.length b.length) + 1))), (6, (vwn 1)), (17, (vin ((max a.length b.length) + 1))), (18, (vin i))]) (B' := [(0, some (bm enc_u32 (out.set i ((((a.getD i 0) + (b.getD i 0)) + c) - 1000000000))))]) ?_ ?_
      · exact sM (.own 0 138 1 ((max a.length b.length) + 1)) rfl rfl <| sM (vin i) rfl rfl <| sM (vwn ((((a.getD i 0) + (b.getD i 0)) + c) - 1000000000)) rfl rfl <| sE' (e_ixo (j := i) (q := i) rfl el28 rfl rfl (by omega) (by omega) (by simp)) rfl <| sT (t_st1 (cs := (bm enc_u32 (out.set i ((((a.getD i 0) + (b.getD i 0)) + c) - 1000000000)))) rfl rfl rfl sh138 rfl rfl (own_len _ _ _ (by omega)) (own_set _ _ _ _)) rfl rfl rfl <| sNil rfl rfl
      refine pwp_S (S' := [(0, (vl 138 1 enc_u32 a)), (1, (vl 138 1 enc_u32 b)), (5, (.own 0 138 1 ((max a.length b.length) + 1))), (6, (vwn 1)), (17, (vin ((max a.length b.length) + 1))), (18, (vin (i + 1)))]) (B' := [(0, some (bm enc_u32 (out.set i ((((a.getD i 0) + (b.getD i 0)) + c) - 1000000000))))]) ?_ ?_
      · exact sE' (e_add (r := (((i + 1) : Nat) : Int)) rfl rfl rfl (wi64 (by omega) (by omega) (by omega))) rfl <| sM (vin (i + 1)) rfl rfl <| sNil rfl rfl
      exact ⟨(i + 1, out.set i (a.getD i 0 + b.getD i 0 + c - 1000000000), 1), (weak rfl rfl), (by obtain ⟨q1, q2, q3⟩ := plus_step (s := a.getD i 0 + b.getD i 0 + c - 1000000000) (c' := 1) hlen hdo (by omega) hv (by omega) (by omega); exact ⟨q1, q2, by omega, by omega, q3⟩), (by first | omega | (dsimp only; omega))⟩
    · replace h2 := of_decide_eq_false h2
      refine pwp_skip <| pwp_S (S' := [(0, (vl 138 1 enc_u32 a)), (1, (vl 138 1 enc_u32 b)), (5, (.own 0 138 1 ((max a.length b.length) + 1))), (6, (vwn 0)), (17, (vin ((max a.length b.length) + 1))), (18, (vin i))]) (B' := [(0, some (bm enc_u32 (out.set i (((a.getD i 0) + (b.getD i 0)) + c))))]) ?_ ?_
      · exact sM (.own 0 138 1 ((max a.length b.length) + 1)) rfl rfl <| sM (vin i) rfl rfl <| sM (vwn (((a.getD i 0) + (b.getD i 0)) + c)) rfl rfl <| sE' (e_ixo (j := i) (q := i) rfl el28 rfl rfl (by omega) (by omega) (by simp)) rfl <| sT (t_st1 (cs := (bm enc_u32 (out.set i (((a.getD i 0) + (b.getD i 0)) + c)))) rfl rfl rfl sh138 rfl rfl (own_len _ _ _ (by omega)) (own_set _ _ _ _)) rfl rfl rfl <| sNil rfl rfl
      refine pwp_S (S' := [(0, (vl 138 1 enc_u32 a)), (1, (vl 138 1 enc_u32 b)), (5, (.own 0 138 1 ((max a.length b.length) + 1))), (6, (vwn 0)), (17, (vin ((max a.length b.length) + 1))), (18, (vin (i + 1)))]) (B' := [(0, some (bm enc_u32 (out.set i (((a.getD i 0) + (b.getD i 0)) + c))))]) ?_ ?_
      · exact sE' (e_add (r := (((i + 1) : Nat) : Int)) rfl rfl rfl (wi64 (by omega) (by omega) (by omega))) rfl <| sM (vin (i + 1)) rfl rfl <| sNil rfl rfl
      exact ⟨(i + 1, out.set i (a.getD i 0 + b.getD i 0 + c), 0), (weak rfl rfl), (by obtain ⟨q1, q2, q3⟩ := plus_step (s := a.getD i 0 + b.getD i 0 + c) (c' := 0) hlen hdo (by omega) hv (by omega) (by omega); exact ⟨q1, q2, by omega, by omega, q3⟩), (by first | omega | (dsimp only; omega))⟩
  · replace h1 := of_decide_eq_false h1
    have hie : i = max a.length b.length + 1 := by omega
    rw [hie] at hv
    refine pwp_exit <| pwp_seq <| pwp_sim (publish (t := 5) (k := 0) (es := List.map enc_u32 out) rfl rfl (pub_cells _ _ (fun _ => rfl)) (map_len _ _ hlen) (pub_take _ _ (fun _ => rfl) hlen)) ?_
    refine pwp_sim (weak (l := [(0, (vl 138 1 enc_u32 a)), (1, (vl 138 1 enc_u32 b)), (5, (vl 138 1 enc_u32 out)), (6, (vwn c)), (17, (vin ((max a.length b.length) + 1))), (18, (vin i)), (19, (vb (decide (((i : Nat) : Int) < ((((max a.length b.length) + 1) : Nat) : Int)))))]) (b := []) rfl rfl) ?_
    refine pwp_S (S' := [(4, (vl 138 1 enc_u32 (ofNat (val out))))]) (B' := []) ?_ ?_
    · exact sM (vl 138 1 enc_u32 out) rfl rfl <| sE' (e_cl (t_trim out (by assumption) (by omega)) rfl rfl rfl) rfl <| sM (vl 138 1 enc_u32 (ofNat (val out))) rfl rfl <| sNil rfl rfl
    refine pwp_ret ⟨_, (.tmp (d := (.sl 138 1 (List.map enc_u32 (ofNat (val out))))) rfl .nil), ?_⟩
    rw [plus_end hda hdb hlen hv]; rfl
theorem t_minus (a b : List Nat) (hda : Dig a) (hdb : Dig b) (hba : val b ≤ val a) (hla : a.length ≤ 8796093022208) : Takes Tryz.prog 140 [(.sl 138 1 (List.map enc_u32 a)), (.sl 138 1 (List.map enc_u32 b))] (.sl 138 1 (List.map enc_u32 (ofNat (val a - val b)))) := by
  refine fn_intro Tryz.func140 rfl cb140 rfl ?_
  show PWp _ _ _ _ ⟨[(0, (vl 138 1 enc_u32 a)), (1, (vl 138 1 enc_u32 b))], []⟩
  refine pwp_seq <| pwp_S (S' := [(0, (vl 138 1 enc_u32 a)), (1, (vl 138 1 enc_u32 b))]) (B' := []) ?_ ?_
  · exact sE' (e_asgnil 138 1 rfl) rfl <| sNil rfl rfl
  refine pwp_seq <| pwp_S (S' := [(0, (vl 138 1 enc_u32 a)), (1, (vl 138 1 enc_u32 b)), (5, (.own 0 138 1 a.length))]) (B' := [(0, some (bm enc_u32 (List.replicate a.length 0)))]) ?_ ?_
  · exact sM (vl 138 1 enc_u32 a) rfl rfl <| sE' (e_ln (r := ((a.length : Nat) : Int)) rfl el28 rfl (by simp)) rfl <| sN (n_mks (n := a.length) (m := a.length) (cs := (bm enc_u32 (List.replicate a.length 0))) 0 rfl el28 ze138 zo138 rfl by138 rfl rfl (by omega) (by omega) (by unfold maxLen; omega) (own_zero enc_u32 _ _)) rfl rfl rfl rfl <| sM (.own 0 138 1 a.length) rfl rfl <| sNil rfl rfl
  refine pwp_seq <| pwp_S (S' := [(0, (vl 138 1 enc_u32 a)), (1, (vl 138 1 enc_u32 b)), (5, (.own 0 138 1 a.length)), (6, (vwn 0))]) (B' := [(0, some (bm enc_u32 (List.replicate a.length 0)))]) ?_ ?_
  · exact sM (vwn 0) rfl rfl <| sNil rfl rfl
  refine pwp_seq <| pwp_seq <| pwp_S (S' := [(0, (vl 138 1 enc_u32 a)), (1, (vl 138 1 enc_u32 b)), (5, (.own 0 138 1 a.length)), (6, (vwn 0)), (13, (vin a.length)), (14, (vin 0))]) (B' := [(0, some (bm enc_u32 (List.replicate a.length 0)))]) ?_ ?_
  · exact sM (.own 0 138 1 a.length) rfl rfl <| sE' (e_len_own rfl el28 rfl) rfl <| sM (vin 0) rfl rfl <| sNil rfl rfl
  refine pwp_block <| pwp_loop (α := Nat × List Nat × Nat) (fun (i, out, c) => ⟨[(0, (vl 138 1 enc_u32 a)), (1, (vl 138 1 enc_u32 b)), (5, (.own 0 138 1 a.length)), (6, (vwn c)), (13, (vin a.length)), (14, (vin i))], [(0, some (bm enc_u32 out))]⟩) (fun (i, out, c) => out.length = a.length ∧ Dig out ∧ i ≤ a.length ∧ c ≤ 1 ∧ val (out.take i) + val (b.take i) = val (a.take i) + pw i * c) (fun (i, out, c) => a.length - i) (0, List.replicate a.length 0, 0) (weak rfl rfl) ⟨by simp, dig_replicate _, Nat.zero_le _, Nat.zero_le _, by simp [val]⟩ ?_
  rintro ⟨i, out, c⟩ ⟨hlen, hdo, hi, hc, hv⟩
  have hai := hda.getD i
  have hbi := hdb.getD i
  refine pwp_seq <| pwp_S (S' := [(0, (vl 138 1 enc_u32 a)), (1, (vl 138 1 enc_u32 b)), (5, (.own 0 138 1 a.length)), (6, (vwn c)), (13, (vin a.length)), (14, (vin i)), (15, (vb (decide (((i : Nat) : Int) < ((a.length : Nat) : Int)))))]) (B' := [(0, some (bm enc_u32 out))]) ?_ ?_
  · exact sE' (e_lss rfl rfl rfl) rfl <| sNil rfl rfl
  refine pwp_seq <| pwp_cond (b := decide (((i : Nat) : Int) < ((a.length : Nat) : Int))) rfl (fun h1 => ?_) (fun h1 => ?_)
  · replace h1 := of_decide_eq_true h1
    refine pwp_skip <| pwp_seq <| pwp_block <| pwp_seq <| pwp_S (S' := [(0, (vl 138 1 enc_u32 a)), (1, (vl 138 1 enc_u32 b)), (5, (.own 0 138 1 a.length)), (6, (vwn c)), (7, (vin i)), (13, (vin a.length)), (14, (vin i))]) (B' := [(0, some (bm enc_u32 out))]) ?_ ?_
    · exact sM (vin i) rfl rfl <| sM (vin i) rfl rfl <| sNil rfl rfl
    refine pwp_seq <| pwp_S (S' := [(0, (vl 138 1 enc_u32 a)), (1, (vl 138 1 enc_u32 b)), (5, (.own 0 138 1 a.length)), (7, (vin i)), (8, (vwn ((b.getD i 0) + c))), (13, (vin a.length)), (14, (vin i))]) (B' := [(0, some (bm enc_u32 out))]) ?_ ?_
    · exact sM (vl 138 1 enc_u32 b) rfl rfl <| sM (vin i) rfl rfl <| sE' (e_cl (t_at b i) rfl rfl rfl) rfl <| sM (vwn c) rfl rfl <| sE' (e_add (r := ((((b.getD i 0) + c) : Nat) : Int)) rfl rfl rfl (wu32 (by omega) (by omega) (by omega))) rfl <| sM (vwn ((b.getD i 0) + c)) rfl rfl <| sNil rfl rfl
    refine pwp_seq <| pwp_S (S' := [(0, (vl 138 1 enc_u32 a)), (1, (vl 138 1 enc_u32 b)), (5, (.own 0 138 1 a.length)), (6, (vwn 0)), (7, (vin i)), (8, (vwn ((b.getD i 0) + c))), (13, (vin a.length)), (14, (vin i))]) (B' := [(0, some (bm enc_u32 out))]) ?_ ?_
    · exact sM (vwn 0) rfl rfl <| sNil rfl rfl
    refine pwp_seq <| pwp_S (S' := [(0, (vl 138 1 enc_u32 a)), (1, (vl 138 1 enc_u32 b)), (5, (.own 0 138 1 a.length)), (6, (vwn 0)), (7, (vin i)), (8, (vwn ((b.getD i 0) + c))), (13, (vin a.length)), (14, (vin i)), (27, (vb (decide ((((a.getD i 0) : Nat) : Int) < ((((b.getD i 0) + c) : Nat) : Int)))))]) (B' := [(0, some (bm enc_u32 out))]) ?_ ?_
    · exact sM (vl 138 1 enc_u32 a) rfl rfl <| sM (vin i) rfl rfl <| sE' (e_ixs (j := i) (cs := (Dat.cells (.val (.int .u32 ((((a.getD i 0) : Nat) : Int)))))) rfl el28 rfl rfl (by omega) (ixm _ _ _ _ (by omega))) rfl <| sE' (e_lc1 (cs := (Dat.cells (.val (.int .u32 ((((a.getD i 0) : Nat) : Int)))))) (y := (.val (.int .u32 ((((a.getD i 0) : Nat) : Int))))) rfl rfl sh138 rfl) rfl <| sM (vwn ((b.getD i 0) + c)) rfl rfl <| sE' (e_lss rfl rfl rfl) rfl <| sNil rfl rfl
    refine pwp_cond (b := decide ((((a.getD i 0) : Nat) : Int) < ((((b.getD i 0) + c) : Nat) : Int))) rfl (fun h2 => ?_) (fun h2 => ?_)
    · replace h2 := of_decide_eq_true h2
      refine pwp_S (S' := [(0, (vl 138 1 enc_u32 a)), (1, (vl 138 1 enc_u32 b)), (5, (.own 0 138 1 a.length)), (6, (vwn 1)), (13, (vin a.length)), (14, (vin i))]) (B' := [(0, some (bm enc_u32 (out.set i (((a.getD i 0) + 1000000000) - ((b.getD i 0) + c)))))]) ?_ ?_
      · exact sM (.own 0 138 1 a.length) rfl rfl <| sM (vin i) rfl rfl <| sM (vl 138 1 enc_u32 a) rfl rfl <| sM (vin i) rfl rfl <| sE' (e_ixs (j := i) (cs := (Dat.cells (.val (.int .u32 ((((a.getD i 0) : Nat) : Int)))))) rfl el28 rfl rfl (by omega) (ixm _ _ _ _ (by omega))) rfl <| sE' (e_lc1 (cs := (Dat.cells (.val (.int .u32 ((((a.getD i 0) : Nat) : Int)))))) (y := (.val (.int .u32 ((((a.getD i 0) : Nat) : Int))))) rfl rfl sh138 rfl) rfl <| sE' (e_add (r := ((((a.getD i 0) + 1000000000) : Nat) : Int)) rfl rfl rfl (wu32 (by omega) (by omega) (by omega))) rfl <| sM (vwn ((b.getD i 0) + c)) rfl rfl <| sE' (e_sub (r := (((((a.getD i 0) + 1000000000) - ((b.getD i 0) + c)) : Nat) : Int)) rfl rfl rfl (wu32 (by omega) (by omega) (by omega))) rfl <| sE' (e_ixo (j := i) (q := i) rfl el28 rfl rfl (by omega) (by omega) (by simp)) rfl <| sT (t_st1 (cs := (bm enc_u32 (out.set i (((a.getD i 0) + 1000000000) - ((b.getD i 0) + c))))) rfl rfl rfl sh138 rfl rfl (own_len _ _ _ (by omega)) (own_set _ _ _ _)) rfl rfl rfl <| sM (vwn 1) rfl rfl <| sNil rfl rfl
      refine pwp_S (S' := [(0, (vl 138 1 enc_u32 a)), (1, (vl 138 1 enc_u32 b)), (5, (.own 0 138 1 a.length)), (6, (vwn 1)), (13, (vin a.length)), (14, (vin (i + 1)))]) (B' := [(0, some (bm enc_u32 (out.set i (((a.getD i 0) + 1000000000) - ((b.getD i 0) + c)))))]) ?_ ?_
      · exact sE' (e_add (r := (((i + 1) : Nat) : Int)) rfl rfl rfl (wi64 (by omega) (by omega) (by omega))) rfl <| sM (vin (i + 1)) rfl rfl <| sNil rfl rfl
      exact ⟨(i + 1, out.set i (a.getD i 0 + 1000000000 - (b.getD i 0 + c)), 1), (weak rfl rfl), (by obtain ⟨q1, q2, q3⟩ := minus_step (s := a.getD i 0 + 1000000000 - (b.getD i 0 + c)) (c' := 1) hlen hdo (by omega) hv (by omega) (by omega); exact ⟨q1, q2, by omega, by omega, q3⟩), (by first | omega | (dsimp only; omega))⟩
    · replace h2 := of_decide_eq_false h2
      refine pwp_S (S' := [(0, (vl 138 1 enc_u32 a)), (1, (vl 138 1 enc_u32 b)), (5, (.own 0 138 1 a.length)), (6, (vwn 0)), (13, (vin a.length)), (14, (vin i))]) (B' := [(0, some (bm enc_u32 (out.set i ((a.getD i 0) - ((b.getD i 0) + c)))))]) ?_ ?_
      · exact sM (.own 0 138 1 a.length) rfl rfl <| sM (vin i) rfl rfl <| sM (vl 138 1 enc_u32 a) rfl rfl <| sM (vin i) rfl rfl <| sE' (e_ixs (j := i) (cs := (Dat.cells (.val (.int .u32 ((((a.getD i 0) : Nat) : Int)))))) rfl el28 rfl rfl (by omega) (ixm _ _ _ _ (by omega))) rfl <| sE' (e_lc1 (cs := (Dat.cells (.val (.int .u32 ((((a.getD i 0) : Nat) : Int)))))) (y := (.val (.int .u32 ((((a.getD i 0) : Nat) : Int))))) rfl rfl sh138 rfl) rfl <| sM (vwn ((b.getD i 0) + c)) rfl rfl <| sE' (e_sub (r := ((((a.getD i 0) - ((b.getD i 0) + c)) : Nat) : Int)) rfl rfl rfl (wu32 (by omega) (by omega) (by omega))) rfl <| sE' (e_ixo (j := i) (q := i) rfl el28 rfl rfl (by omega) (by omega) (by simp)) rfl <| sT (t_st1 (cs := (bm enc_u32 (out.set i ((a.getD i 0) - ((b.getD i 0) + c))))) rfl rfl rfl sh138 rfl rfl (own_len _ _ _ (by omega)) (own_set _ _ _ _)) rfl rfl rfl <| sNil rfl rfl
      refine pwp_S (S' := [(0, (vl 138 1 enc_u32 a)), (1, (vl 138 1 enc_u32 b)), (5, (.own 0 138 1 a.length)), (6, (vwn 0)), (13, (vin a.length)), (14, (vin (i + 1)))]) (B' := [(0, some (bm enc_u32 (out.set i ((a.getD i 0) - ((b.getD i 0) + c)))))]) ?_ ?_
      · exact sE' (e_add (r := (((i + 1) : Nat) : Int)) rfl rfl rfl (wi64 (by omega) (by omega) (by omega))) rfl <| sM (vin (i + 1)) rfl rfl <| sNil rfl rfl
      exact ⟨(i + 1, out.set i (a.getD i 0 - (b.getD i 0 + c)), 0), (weak rfl rfl), (by obtain ⟨q1, q2, q3⟩ := minus_step (s := a.getD i 0 - (b.getD i 0 + c)) (c' := 0) hlen hdo (by omega) hv (by omega) (by omega); exact ⟨q1, q2, by omega, by omega, q3⟩), (by first | omega | (dsimp only; omega))⟩
  · replace h1 := of_decide_eq_false h1
    have hie : i = a.length := by omega
    rw [hie] at hv
    refine pwp_exit <| pwp_seq <| pwp_sim (publish (t := 5) (k := 0) (es := List.map enc_u32 out) rfl rfl (pub_cells _ _ (fun _ => rfl)) (map_len _ _ hlen) (pub_take _ _ (fun _ => rfl) hlen)) ?_
    refine pwp_sim (weak (l := [(0, (vl 138 1 enc_u32 a)), (1, (vl 138 1 enc_u32 b)), (5, (vl 138 1 enc_u32 out)), (6, (vwn c)), (13, (vin a.length)), (14, (vin i)), (15, (vb (decide (((i : Nat) : Int) < ((a.length : Nat) : Int)))))]) (b := []) rfl rfl) ?_
    refine pwp_S (S' := [(4, (vl 138 1 enc_u32 (ofNat (val out))))]) (B' := []) ?_ ?_
    · exact sM (vl 138 1 enc_u32 out) rfl rfl <| sE' (e_cl (t_trim out (by assumption) (by omega)) rfl rfl rfl) rfl <| sM (vl 138 1 enc_u32 (ofNat (val out))) rfl rfl <| sNil rfl rfl
    refine pwp_ret ⟨_, (.tmp (d := (.sl 138 1 (List.map enc_u32 (ofNat (val out))))) rfl .nil), ?_⟩
    rw [minus_end hda hdb hdo hba hlen hv]; rfl
theorem t_times (a b : List Nat) (hda : Dig a) (hdb : Dig b) (hla : a.length ≤ 4398046511104) (hlb : b.length ≤ 4398046511104) : Takes Tryz.prog 132 [(.sl 138 1 (List.map enc_u32 a)), (.sl 138 1 (List.map enc_u32 b))] (.sl 138 1 (List.map enc_u32 (ofNat (val a * val b)))) := by
  refine fn_intro Tryz.func132 rfl cb132 rfl ?_
  show PWp _ _ _ _ ⟨[(0, (vl 138 1 enc_u32 a)), (1, (vl 138 1 enc_u32 b))], []⟩
  refine pwp_seq <| pwp_S (S' := [(0, (vl 138 1 enc_u32 a)), (1, (vl 138 1 enc_u32 b))]) (B' := []) ?_ ?_
  · exact sE' (e_asgnil 138 1 rfl) rfl <| sNil rfl rfl
  refine pwp_seq <| pwp_S (S' := [(0, (vl 138 1 enc_u32 a)), (1, (vl 138 1 enc_u32 b)), (5, (.own 0 138 1 (a.length + b.length)))]) (B' := [(0, some (bm enc_u32 (List.replicate (a.length + b.length) 0)))]) ?_ ?_
  · exact sM (vl 138 1 enc_u32 a) rfl rfl <| sE' (e_ln (r := ((a.length : Nat) : Int)) rfl el28 rfl (by simp)) rfl <| sM (vl 138 1 enc_u32 b) rfl rfl <| sE' (e_ln (r := ((b.length : Nat) : Int)) rfl el28 rfl (by simp)) rfl <| sE' (e_add (r := (((a.length + b.length) : Nat) : Int)) rfl rfl rfl (wi64 (by omega) (by omega) (by omega))) rfl <| sN (n_mks (n := (a.length + b.length)) (m := (a.length + b.length)) (cs := (bm enc_u32 (List.replicate (a.length + b.length) 0))) 0 rfl el28 ze138 zo138 rfl by138 rfl rfl (by omega) (by omega) (by unfold maxLen; omega) (own_zero enc_u32 _ _)) rfl rfl rfl rfl <| sM (.own 0 138 1 (a.length + b.length)) rfl rfl <| sNil rfl rfl
  refine pwp_seq <| pwp_seq <| pwp_S (S' := [(1, (vl 138 1 enc_u32 b)), (5, (.own 0 138 1 (a.length + b.length))), (18, (vl 138 1 enc_u32 a)), (19, (vin a.length)), (20, (vin 0))]) (B' := [(0, some (bm enc_u32 (List.replicate (a.length + b.length) 0)))]) ?_ ?_
  · exact sM (vl 138 1 enc_u32 a) rfl rfl <| sE' (e_ln (r := ((a.length : Nat) : Int)) rfl el28 rfl (by simp)) rfl <| sM (vin 0) rfl rfl <| sNil rfl rfl
  refine pwp_block <| pwp_loop (α := Nat × List Nat) (fun (i, out) => ⟨[(1, (vl 138 1 enc_u32 b)), (5, (.own 0 138 1 (a.length + b.length))), (18, (vl 138 1 enc_u32 a)), (19, (vin a.length)), (20, (vin i))], [(0, some (bm enc_u32 out))]⟩) (fun (i, out) => out.length = a.length + b.length ∧ Dig out ∧ i ≤ a.length ∧ (∀ k, i + b.length ≤ k → out.getD k 0 = 0) ∧ val out = val (a.take i) * val b) (fun (i, out) => a.length - i) (0, List.replicate (a.length + b.length) 0) (weak rfl rfl) ⟨by simp, dig_replicate _, Nat.zero_le _, fun k _ => getD_replicate _ k, by simp [val, val_replicate]⟩ ?_
  rintro ⟨i, out⟩ ⟨hlen, hdo, hi, hz, hv⟩
  have hai := hda.getD i
  refine pwp_seq <| pwp_S (S' := [(1, (vl 138 1 enc_u32 b)), (5, (.own 0 138 1 (a.length + b.length))), (18, (vl 138 1 enc_u32 a)), (19, (vin a.length)), (20, (vin i)), (21, (vb (decide (((i : Nat) : Int) < ((a.length : Nat) : Int)))))]) (B' := [(0, some (bm enc_u32 out))]) ?_ ?_
  · exact sE' (e_lss rfl rfl rfl) rfl <| sNil rfl rfl
  refine pwp_seq <| pwp_cond (b := decide (((i : Nat) : Int) < ((a.length : Nat) : Int))) rfl (fun h1 => ?_) (fun h1 => ?_)
  · replace h1 := of_decide_eq_true h1
    refine pwp_skip <| pwp_seq <| pwp_block <| pwp_seq <| pwp_S (S' := [(1, (vl 138 1 enc_u32 b)), (5, (.own 0 138 1 (a.length + b.length))), (6, (vin i)), (7, (vwn (a.getD i 0))), (18, (vl 138 1 enc_u32 a)), (19, (vin a.length)), (20, (vin i))]) (B' := [(0, some (bm enc_u32 out))]) ?_ ?_
    · exact sM (vin i) rfl rfl <| sE' (e_ixs (j := i) (cs := (Dat.cells (.val (.int .u32 ((((a.getD i 0) : Nat) : Int)))))) rfl el28 rfl rfl (by omega) (ixm _ _ _ _ (by omega))) rfl <| sE' (e_lc1 (cs := (Dat.cells (.val (.int .u32 ((((a.getD i 0) : Nat) : Int)))))) (y := (.val (.int .u32 ((((a.getD i 0) : Nat) : Int))))) rfl rfl sh138 rfl) rfl <| sM (vin i) rfl rfl <| sM (vwn (a.getD i 0)) rfl rfl <| sNil rfl rfl
    refine pwp_seq <| pwp_S (S' := [(1, (vl 138 1 enc_u32 b)), (5, (.own 0 138 1 (a.length + b.length))), (6, (vin i)), (7, (vwn (a.getD i 0))), (8, (vqn 0)), (18, (vl 138 1 enc_u32 a)), (19, (vin a.length)), (20, (vin i))]) (B' := [(0, some (bm enc_u32 out))]) ?_ ?_
    · exact sM (vqn 0) rfl rfl <| sNil rfl rfl
    refine pwp_seq <| pwp_seq <| pwp_S (S' := [(1, (vl 138 1 enc_u32 b)), (5, (.own 0 138 1 (a.length + b.length))), (6, (vin i)), (7, (vwn (a.getD i 0))), (8, (vqn 0)), (18, (vl 138 1 enc_u32 a)), (19, (vin a.length)), (20, (vin i)), (25, (vl 138 1 enc_u32 b)), (26, (vin b.length)), (27, (vin 0))]) (B' := [(0, some (bm enc_u32 out))]) ?_ ?_
    · exact sM (vl 138 1 enc_u32 b) rfl rfl <| sE' (e_ln (r := ((b.length : Nat) : Int)) rfl el28 rfl (by simp)) rfl <| sM (vin 0) rfl rfl <| sNil rfl rfl
    refine pwp_block <| pwp_loop (α := Nat × List Nat × Nat) (fun (j, o2, c) => ⟨[(1, (vl 138 1 enc_u32 b)), (5, (.own 0 138 1 (a.length + b.length))), (6, (vin i)), (7, (vwn (a.getD i 0))), (8, (vqn c)), (18, (vl 138 1 enc_u32 a)), (19, (vin a.length)), (20, (vin i)), (25, (vl 138 1 enc_u32 b)), (26, (vin b.length)), (27, (vin j))], [(0, some (bm enc_u32 o2))]⟩) (fun (j, o2, c) => o2.length = a.length + b.length ∧ Dig o2 ∧ j ≤ b.length ∧ c < 1000000000 ∧ (∀ k, i + b.length ≤ k → o2.getD k 0 = 0) ∧ val o2 + pw (i + j) * c = val (a.take i) * val b + pw i * (a.getD i 0 * val (b.take j))) (fun (j, o2, c) => b.length - j) (0, out, 0) (weak rfl rfl) ⟨hlen, hdo, Nat.zero_le _, by decide, hz, by simp [val, hv]⟩ ?_
    rintro ⟨j, o2, c⟩ ⟨hlen2, hdo2, hj, hc, hz2, hv2⟩
    have hbj := hdb.getD j
    have hoj := hdo2.getD (i + j)
    have hpq : a.getD i 0 * b.getD j 0 ≤ 999999999 * 999999999 := Nat.mul_le_mul (by omega) (by omega)
    refine pwp_seq <| pwp_S (S' := [(1, (vl 138 1 enc_u32 b)), (5, (.own 0 138 1 (a.length + b.length))), (6, (vin i)), (7, (vwn (a.getD i 0))), (8, (vqn c)), (18, (vl 138 1 enc_u32 a)), (19, (vin a.length)), (20, (vin i)), (25, (vl 138 1 enc_u32 b)), (26, (vin b.length)), (27, (vin j)), (28, (vb (decide (((j : Nat) : Int) < ((b.length : Nat) : Int)))))]) (B' := [(0, some (bm enc_u32 o2))]) ?_ ?_
    · exact sE' (e_lss rfl rfl rfl) rfl <| sNil rfl rfl
    refine pwp_seq <| pwp_cond (b := decide (((j : Nat) : Int) < ((b.length : Nat) : Int))) rfl (fun h2 => ?_) (fun h2 => ?_)
    · replace h2 := of_decide_eq_true h2
      refine pwp_skip <| pwp_seq <| pwp_block <| pwp_seq <| pwp_S (S' := [(1, (vl 138 1 enc_u32 b)), (5, (.own 0 138 1 (a.length + b.length))), (6, (vin i)), (7, (vwn (a.getD i 0))), (8, (vqn c)), (9, (vin j)), (10, (vwn (b.getD j 0))), (18, (vl 138 1 enc_u32 a)), (19, (vin a.length)), (20, (vin i)), (25, (vl 138 1 enc_u32 b)), (26, (vin b.length)), (27, (vin j))]) (B' := [(0, some (bm enc_u32 o2))]) ?_ ?_
      · exact sM (vin j) rfl rfl <| sE' (e_ixs (j := j) (cs := (Dat.cells (.val (.int .u32 ((((b.getD j 0) : Nat) : Int)))))) rfl el28 rfl rfl (by omega) (ixm _ _ _ _ (by omega))) rfl <| sE' (e_lc1 (cs := (Dat.cells (.val (.int .u32 ((((b.getD j 0) : Nat) : Int)))))) (y := (.val (.int .u32 ((((b.getD j 0) : Nat) : Int))))) rfl rfl sh138 rfl) rfl <| sM (vin j) rfl rfl <| sM (vwn (b.getD j 0)) rfl rfl <| sNil rfl rfl
      refine pwp_seq <| pwp_S (S' := [(1, (vl 138 1 enc_u32 b)), (5, (.own 0 138 1 (a.length + b.length))), (6, (vin i)), (7, (vwn (a.getD i 0))), (9, (vin j)), (11, (vqn (((o2.getD (i + j) 0) + ((a.getD i 0) * (b.getD j 0))) + c))), (18, (vl 138 1 enc_u32 a)), (19, (vin a.length)), (20, (vin i)), (25, (vl 138 1 enc_u32 b)), (26, (vin b.length)), (27, (vin j))]) (B' := [(0, some (bm enc_u32 o2))]) ?_ ?_
      · exact sM (.own 0 138 1 (a.length + b.length)) rfl rfl <| sM (vin i) rfl rfl <| sM (vin j) rfl rfl <| sE' (e_add (r := (((i + j) : Nat) : Int)) rfl rfl rfl (wi64 (by omega) (by omega) (by omega))) rfl <| sE' (e_ixo (j := (i + j)) (q := (i + j)) rfl el28 rfl rfl (by omega) (by omega) (by simp)) rfl <| sR (e_ld1 (cs := (bm enc_u32 o2)) (y := (vwn (o2.getD (i + j) 0))) rfl rfl sh138 (own_get _ _ _ _ (by omega))) rfl rfl rfl rfl <| sE' (e_conv (r := (((o2.getD (i + j) 0) : Nat) : Int)) rfl un138 in140 rfl (cu64 (by omega))) rfl <| sM (vwn (a.getD i 0)) rfl rfl <| sE' (e_conv (r := (((a.getD i 0) : Nat) : Int)) rfl un138 in140 rfl (cu64 (by omega))) rfl <| sM (vwn (b.getD j 0)) rfl rfl <| sE' (e_conv (r := (((b.getD j 0) : Nat) : Int)) rfl un138 in140 rfl (cu64 (by omega))) rfl <| sE' (e_mul (r := ((((a.getD i 0) * (b.getD j 0)) : Nat) : Int)) rfl rfl rfl (wu64 (by omega) (by omega) (by omega))) rfl <| sE' (e_add (r := ((((o2.getD (i + j) 0) + ((a.getD i 0) * (b.getD j 0))) : Nat) : Int)) rfl rfl rfl (wu64 (by omega) (by omega) (by omega))) rfl <| sM (vqn c) rfl rfl <| sE' (e_add (r := (((((o2.getD (i + j) 0) + ((a.getD i 0) * (b.getD j 0))) + c) : Nat) : Int)) rfl rfl rfl (wu64 (by omega) (by omega) (by omega))) rfl <| sM (vqn (((o2.getD (i + j) 0) + ((a.getD i 0) * (b.getD j 0))) + c)) rfl rfl <| sNil rfl rfl
      refine pwp_S (S' := [(1, (vl 138 1 enc_u32 b)), (5, (.own 0 138 1 (a.length + b.length))), (6, (vin i)), (7, (vwn (a.getD i 0))), (8, (vqn ((((o2.getD (i + j) 0) + ((a.getD i 0) * (b.getD j 0))) + c) / 1000000000))), (18, (vl 138 1 enc_u32 a)), (19, (vin a.length)), (20, (vin i)), (25, (vl 138 1 enc_u32 b)), (26, (vin b.length)), (27, (vin j))]) (B' := [(0, some (bm enc_u32 (o2.set (i + j) ((((o2.getD (i + j) 0) + ((a.getD i 0) * (b.getD j 0))) + c) % 1000000000))))]) ?_ ?_
      · exact sM (.own 0 138 1 (a.length + b.length)) rfl rfl <| sM (vin i) rfl rfl <| sM (vin j) rfl rfl <| sE' (e_add (r := (((i + j) : Nat) : Int)) rfl rfl rfl (wi64 (by omega) (by omega) (by omega))) rfl <| sM (vqn (((o2.getD (i + j) 0) + ((a.getD i 0) * (b.getD j 0))) + c)) rfl rfl <| sE' (e_rem (r := ((((((o2.getD (i + j) 0) + ((a.getD i 0) * (b.getD j 0))) + c) % 1000000000) : Nat) : Int)) rfl rfl rfl (by decide) (tmod_nat _ _)) rfl <| sE' (e_conv (r := ((((((o2.getD (i + j) 0) + ((a.getD i 0) * (b.getD j 0))) + c) % 1000000000) : Nat) : Int)) rfl un140 in138 rfl (cu32 (by omega))) rfl <| sM (vqn (((o2.getD (i + j) 0) + ((a.getD i 0) * (b.getD j 0))) + c)) rfl rfl <| sE' (e_quo (r := ((((((o2.getD (i + j) 0) + ((a.getD i 0) * (b.getD j 0))) + c) / 1000000000) : Nat) : Int)) rfl rfl rfl (by decide) (quo_u64 _ _ (by omega))) rfl <| sE' (e_ixo (j := (i + j)) (q := (i + j)) rfl el28 rfl rfl (by omega) (by omega) (by simp)) rfl <| sT (t_st1 (cs := (bm enc_u32 (o2.set (i + j) ((((o2.getD (i + j) 0) + ((a.getD i 0) * (b.getD j 0))) + c) % 1000000000)))) rfl rfl rfl sh138 rfl rfl (own_len _ _ _ (by omega)) (own_set _ _ _ _)) rfl rfl rfl <| sM (vqn ((((o2.getD (i + j) 0) + ((a.getD i 0) * (b.getD j 0))) + c) / 1000000000)) rfl rfl <| sNil rfl rfl
      refine pwp_S (S' := [(1, (vl 138 1 enc_u32 b)), (5, (.own 0 138 1 (a.length + b.length))), (6, (vin i)), (7, (vwn (a.getD i 0))), (8, (vqn ((((o2.getD (i + j) 0) + ((a.getD i 0) * (b.getD j 0))) + c) / 1000000000))), (18, (vl 138 1 enc_u32 a)), (19, (vin a.length)), (20, (vin i)), (25, (vl 138 1 enc_u32 b)), (26, (vin b.length)), (27, (vin (j + 1)))]) (B' := [(0, some (bm enc_u32 (o2.set (i + j) ((((o2.getD (i + j) 0) + ((a.getD i 0) * (b.getD j 0))) + c) % 1000000000))))]) ?_ ?_
      · exact sE' (e_add (r := (((j + 1) : Nat) : Int)) rfl rfl rfl (wi64 (by omega) (by omega) (by omega))) rfl <| sM (vin (j + 1)) rfl rfl <| sNil rfl rfl
      exact ⟨(j + 1, o2.set (i + j) ((o2.getD (i + j) 0 + a.getD i 0 * b.getD j 0 + c) % 1000000000), (o2.getD (i + j) 0 + a.getD i 0 * b.getD j 0 + c) / 1000000000), (weak rfl rfl), (by obtain ⟨q1, q2⟩ := times_step (by omega) hdo2 hv2 rfl (val_take_succ b j); exact ⟨by simpa using hlen2, q1, by omega, by omega, zero_set (by omega) hz2, q2⟩), (by first | omega | (dsimp only; omega))⟩
    · replace h2 := of_decide_eq_false h2
      have hje : j = b.length := by omega
      rw [hje] at hv2
      refine pwp_exit <| pwp_S (S' := [(1, (vl 138 1 enc_u32 b)), (5, (.own 0 138 1 (a.length + b.length))), (18, (vl 138 1 enc_u32 a)), (19, (vin a.length)), (20, (vin i))]) (B' := [(0, some (bm enc_u32 (o2.set (i + b.length) c)))]) ?_ ?_
      · exact sM (.own 0 138 1 (a.length + b.length)) rfl rfl <| sM (vin i) rfl rfl <| sM (vl 138 1 enc_u32 b) rfl rfl <| sE' (e_ln (r := ((b.length : Nat) : Int)) rfl el28 rfl (by simp)) rfl <| sE' (e_add (r := (((i + b.length) : Nat) : Int)) rfl rfl rfl (wi64 (by omega) (by omega) (by omega))) rfl <| sM (vqn c) rfl rfl <| sE' (e_conv (r := ((c : Nat) : Int)) rfl un140 in138 rfl (cu32 (by omega))) rfl <| sE' (e_ixo (j := (i + b.length)) (q := (i + b.length)) rfl el28 rfl rfl (by omega) (by omega) (by simp)) rfl <| sT (t_st1 (cs := (bm enc_u32 (o2.set (i + b.length) c))) rfl rfl rfl sh138 rfl rfl (own_len _ _ _ (by omega)) (own_set _ _ _ _)) rfl rfl rfl <| sNil rfl rfl
      refine pwp_S (S' := [(1, (vl 138 1 enc_u32 b)), (5, (.own 0 138 1 (a.length + b.length))), (18, (vl 138 1 enc_u32 a)), (19, (vin a.length)), (20, (vin (i + 1)))]) (B' := [(0, some (bm enc_u32 (o2.set (i + b.length) c)))]) ?_ ?_
      · exact sE' (e_add (r := (((i + 1) : Nat) : Int)) rfl rfl rfl (wi64 (by omega) (by omega) (by omega))) rfl <| sM (vin (i + 1)) rfl rfl <| sNil rfl rfl
      exact ⟨(i + 1, o2.set (i + b.length) c), (weak rfl rfl), (by obtain ⟨q1, q2, q3, q4⟩ := times_row hdo2 (by omega) hlen2 hz2 hc hv2; exact ⟨q1, q2, by omega, q3, q4⟩), (by first | omega | (dsimp only; omega))⟩
  · replace h1 := of_decide_eq_false h1
    have hie : i = a.length := by omega
    rw [hie, List.take_length] at hv
    refine pwp_exit <| pwp_seq <| pwp_sim (publish (t := 5) (k := 0) (es := List.map enc_u32 out) rfl rfl (pub_cells _ _ (fun _ => rfl)) (map_len _ _ hlen) (pub_take _ _ (fun _ => rfl) hlen)) ?_
    refine pwp_sim (weak (l := [(1, (vl 138 1 enc_u32 b)), (5, (vl 138 1 enc_u32 out)), (18, (vl 138 1 enc_u32 a)), (19, (vin a.length)), (20, (vin i)), (21, (vb (decide (((i : Nat) : Int) < ((a.length : Nat) : Int)))))]) (b := []) rfl rfl) ?_
    refine pwp_S (S' := [(4, (vl 138 1 enc_u32 (ofNat (val out))))]) (B' := []) ?_ ?_
    · exact sM (vl 138 1 enc_u32 out) rfl rfl <| sE' (e_cl (t_trim out (by assumption) (by omega)) rfl rfl rfl) rfl <| sM (vl 138 1 enc_u32 (ofNat (val out))) rfl rfl <| sNil rfl rfl
    refine pwp_ret ⟨_, (.tmp (d := (.sl 138 1 (List.map enc_u32 (ofNat (val out))))) rfl .nil), ?_⟩
    rw [hv]; rfl
end Go.Proofs.YtadkkhdnccljcaaGreat
