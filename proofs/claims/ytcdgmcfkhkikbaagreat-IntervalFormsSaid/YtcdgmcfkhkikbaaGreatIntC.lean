/-
  Functions walked: each takes its data to what is said. Printed by a program of ours.
-/
import Derived.Test.YtcdgmcfkhkikbaaGreatIntB
import Derived.Test.YtcdgmcfkhkikbaaGreatTrim
namespace Go.Proofs.YtcdgmcfkhkikbaaGreat
open Go.Fid
set_option maxRecDepth 4000
set_option linter.unusedVariables false
set_option linter.unusedSimpArgs false
theorem cb150 : callB Tryz.prog 150 = true := by kernel_rfl
theorem ze22 : zeroB Tryz.prog 22 = some [.slice none 0 0] := by kernel_rfl
theorem zo22 : ZOk [.slice none 0 0] [.sl 83 1 []] := by simp [ZOk, Value.oneCell']
theorem t_short (a : List Nat) (d : Nat) (hda : Dig a) (hd0 : 0 < d) (hd1 : d ≤ 1000000000) (hla : a.length ≤ 17592186044416) : Takes Tryz.prog 150 [(.sl 83 1 (List.map enc_u32 a)), (.val (.int .u32 (((d : Nat) : Int))))] (.tup [(.sl 83 1 (List.map enc_u32 (ofNat (val a / d)))), (.val (.int .u32 ((((val a % d) : Nat) : Int))))]) := by
  refine fn_intro Tryz.func150 rfl cb150 rfl ?_
  show PWp _ _ _ _ ⟨[(0, (vl 83 1 enc_u32 a)), (1, (vwn d))], []⟩
  refine pwp_seq ?_
  refine pwp_S (S' := [(0, (vl 83 1 enc_u32 a)), (3, (.ref 0 0)), (4, (.ref 1 0)), (5, (vwn 0))]) (B' := [(0, some (bx (.val (.int .u32 (((d : Nat) : Int)))))), (1, some (bx (.sl 83 1 (List.map enc_u32 []))))]) ?_ ?_
  · skip
    exact sN (n_bx (d := (.val (.int .u32 (((d : Nat) : Int))))) (cs := (bx (.val (.int .u32 (((d : Nat) : Int)))))) 0 rfl rfl rfl rfl) rfl rfl rfl rfl <| sN (n_al (cs := (bx (.sl 83 1 (List.map enc_u32 [])))) 1 rfl ze22 zo22 rfl) rfl rfl rfl rfl <| sM (vwn 0) rfl rfl <| sNil rfl rfl
  refine pwp_seq ?_
  refine pwp_S (S' := [(0, (vl 83 1 enc_u32 a)), (3, (.ref 0 0)), (4, (.ref 1 0)), (5, (vwn 0))]) (B' := [(0, some (bx (.val (.int .u32 (((d : Nat) : Int)))))), (1, some [(.own 2 83 1 a.length)]), (2, some (bm enc_u32 (List.replicate a.length 0)))]) ?_ ?_
  · skip
    exact sM (vl 83 1 enc_u32 a) rfl rfl <| sE' (e_ln (r := ((a.length : Nat) : Int)) rfl el22 rfl (by simp)) rfl <| sN (n_mks (n := a.length) (m := a.length) (cs := (bm enc_u32 (List.replicate a.length 0))) 2 rfl el22 ze83 zo83 rfl by83 rfl rfl (by omega) (by omega) (by unfold maxLen; omega) (own_zero enc_u32 _ _)) rfl rfl rfl rfl <| sT (t_sto rfl rfl rfl sh22) rfl rfl rfl <| sNil rfl rfl
  refine pwp_seq ?_
  refine pwp_S (S' := [(0, (vl 83 1 enc_u32 a)), (3, (.ref 0 0)), (4, (.ref 1 0)), (5, (vwn 0)), (6, (.ref 3 0))]) (B' := [(0, some (bx (.val (.int .u32 (((d : Nat) : Int)))))), (1, some [(.own 2 83 1 a.length)]), (2, some (bm enc_u32 (List.replicate a.length 0))), (3, some (bx (.val (.int .u64 (0)))))]) ?_ ?_
  · skip
    exact sN (n_al (cs := (bx (.val (.int .u64 (0))))) 3 rfl ze88 zo88 rfl) rfl rfl rfl (freshB_of rfl (by repeat first | exact frb_nil _ | refine frb_map rfl ?_ | refine frb_d rfl ?_ | refine frb_cs rfl rfl ?_ | refine frb_none rfl ?_)) <| sT (t_std (d := (.val (.int .u64 (0)))) (cs := (bx (.val (.int .u64 (0))))) rfl rfl rfl sh88 rfl rfl rfl rfl) rfl rfl rfl <| sNil rfl rfl
  refine pwp_seq ?_
  refine pwp_backL backs cb146 rfl 7 enc_u32 a 0 (fun (q, rest) => ⟨[(3, (.ref 0 0)), (4, (.ref 1 0)), (5, (vwn 0)), (6, (.ref 3 0))], [(0, some (bx (.val (.int .u32 (((d : Nat) : Int)))))), (1, some [(.own 2 83 1 a.length)]), (2, some (bm enc_u32 q)), (3, some (bx (.val (.int .u64 (((rest : Nat) : Int))))))]⟩) (fun (j : Nat) (q, rest) => q.length = a.length ∧ Dig q ∧ rest < d ∧ val (a.drop (a.length - j)) = val (q.drop (a.length - j)) * d + rest) (List.replicate a.length 0, 0) rfl rfl rfl rfl rfl rfl rfl rfl rfl rfl rfl rfl (fun _ => rfl) (fun _ => rfl) (weak rfl rfl) ⟨by simp, dig_replicate _, hd0, by simp [val, val_replicate]⟩ (by omega) ?_ ?_
  · rintro rl j ⟨q, rest⟩ hj ⟨hlen, hdq, hr, hv⟩
    have hg := hda.getD (a.length - 1 - j)
    obtain ⟨hb1, hb2⟩ := short_bound hr hd1 hg
    refine pwp_seq ?_
    refine pwp_S (S' := [(3, (.ref 0 0)), (4, (.ref 1 0)), (5, (vwn 0)), (6, (.ref 3 0)), (7, (vin (a.length - 1 - j))), (15, (vin (a.length - 1 - j))), (16, (vwn (a.getD (a.length - 1 - j) 0)))]) (B' := [(0, some (bx (.val (.int .u32 (((d : Nat) : Int)))))), (1, some [(.own 2 83 1 a.length)]), (2, some (bm enc_u32 q)), (3, some (bx (.val (.int .u64 (((rest : Nat) : Int))))))]) ?_ ?_
    · skip
      exact sM (vin (a.length - 1 - j)) rfl rfl <| sNil rfl rfl
    refine pwp_S (S' := [(3, (.ref 0 0)), (4, (.ref 1 0)), (5, (vwn 0)), (6, (.ref 3 0)), (7, (vin (a.length - 1 - j))), (8, (vwn (a.getD (a.length - 1 - j) 0))), (15, (vin (a.length - 1 - j))), (16, (vwn (a.getD (a.length - 1 - j) 0)))]) (B' := [(0, some (bx (.val (.int .u32 (((d : Nat) : Int)))))), (1, some [(.own 2 83 1 a.length)]), (2, some (bm enc_u32 q)), (3, some (bx (.val (.int .u64 (((rest : Nat) : Int))))))]) ?_ ?_
    · skip
      exact sM (vwn (a.getD (a.length - 1 - j) 0)) rfl rfl <| sNil rfl rfl
    refine pwp_block ?_
    refine pwp_seq ?_
    refine pwp_S (S' := [(3, (.ref 0 0)), (4, (.ref 1 0)), (5, (vwn 0)), (6, (.ref 3 0)), (7, (vin (a.length - 1 - j))), (9, (vqn ((rest * 1000000000) + (a.getD (a.length - 1 - j) 0)))), (15, (vin (a.length - 1 - j))), (16, (vwn (a.getD (a.length - 1 - j) 0)))]) (B' := [(0, some (bx (.val (.int .u32 (((d : Nat) : Int)))))), (1, some [(.own 2 83 1 a.length)]), (2, some (bm enc_u32 q)), (3, some (bx (.val (.int .u64 (((rest : Nat) : Int))))))]) ?_ ?_
    · skip
      exact sR (e_ld1 (cs := (bx (.val (.int .u64 (((rest : Nat) : Int)))))) (y := (vqn rest)) rfl rfl sh88 rfl) rfl rfl rfl rfl <| sE' (e_mul (r := (((rest * 1000000000) : Nat) : Int)) rfl rfl rfl (wu64 (by omega) (by omega) (by omega))) rfl <| sM (vwn (a.getD (a.length - 1 - j) 0)) rfl rfl <| sE' (e_conv (r := (((a.getD (a.length - 1 - j) 0) : Nat) : Int)) rfl un83 in88 rfl (cu64 (by omega))) rfl <| sE' (e_add (r := ((((rest * 1000000000) + (a.getD (a.length - 1 - j) 0)) : Nat) : Int)) rfl rfl rfl (wu64 (by omega) (by omega) (by omega))) rfl <| sM (vqn ((rest * 1000000000) + (a.getD (a.length - 1 - j) 0))) rfl rfl <| sNil rfl rfl
    refine pwp_D (S' := [(3, (.ref 0 0)), (4, (.ref 1 0)), (5, (vwn 0)), (6, (.ref 3 0)), (15, (vin (a.length - 1 - j))), (16, (vwn (a.getD (a.length - 1 - j) 0)))]) (B' := [(0, some (bx (.val (.int .u32 (((d : Nat) : Int)))))), (1, some [(.own 2 83 1 a.length)]), (2, some (bm enc_u32 (q.set (a.length - 1 - j) (((rest * 1000000000) + (a.getD (a.length - 1 - j) 0)) / d)))), (3, some (bx (.val (.int .u64 ((((((rest * 1000000000) + (a.getD (a.length - 1 - j) 0)) % d) : Nat) : Int))))))]) mo (by kernel_rfl) ?_ ?_
    · skip
      exact dR (e_ld1 (cs := [(.own 2 83 1 a.length)]) (y := (.own 2 83 1 a.length)) rfl rfl sh22 rfl) rfl rfl rfl rfl rfl <| dM (vin (a.length - 1 - j)) rfl rfl rfl <| dM (vqn ((rest * 1000000000) + (a.getD (a.length - 1 - j) 0))) rfl rfl rfl <| dR (e_ld1 (cs := (bx (.val (.int .u32 (((d : Nat) : Int)))))) (y := (vwn d)) rfl rfl sh83 rfl) rfl rfl rfl rfl rfl <| dE' (e_conv (r := ((d : Nat) : Int)) rfl un83 in88 rfl (cu64 (by omega))) rfl rfl <| dE' (e_quo (r := (((((rest * 1000000000) + (a.getD (a.length - 1 - j) 0)) / d) : Nat) : Int)) rfl rfl rfl (by omega) (quo_u64 _ _ (by omega))) rfl rfl <| dE' (e_conv (r := (((((rest * 1000000000) + (a.getD (a.length - 1 - j) 0)) / d) : Nat) : Int)) rfl un88 in83 rfl (cu32 (by omega))) rfl rfl <| dM (vqn ((rest * 1000000000) + (a.getD (a.length - 1 - j) 0))) rfl rfl rfl <| dR (e_ld1 (cs := (bx (.val (.int .u32 (((d : Nat) : Int)))))) (y := (vwn d)) rfl rfl sh83 rfl) rfl rfl rfl rfl rfl <| dE' (e_conv (r := ((d : Nat) : Int)) rfl un83 in88 rfl (cu64 (by omega))) rfl rfl <| dE' (e_rem (r := (((((rest * 1000000000) + (a.getD (a.length - 1 - j) 0)) % d) : Nat) : Int)) rfl rfl rfl (by omega) (tmod_nat _ _)) rfl rfl <| dE' (e_ixo (j := (a.length - 1 - j)) (q := (a.length - 1 - j)) rfl el22 rfl rfl (by omega) (by omega) (by simp)) rfl rfl <| dT (t_st1 (cs := (bm enc_u32 (q.set (a.length - 1 - j) (((rest * 1000000000) + (a.getD (a.length - 1 - j) 0)) / d)))) rfl rfl rfl sh83 rfl rfl (own_len _ _ _ (by omega)) (own_set _ _ _ _)) rfl rfl rfl rfl <| dT (t_std (d := (.val (.int .u64 ((((((rest * 1000000000) + (a.getD (a.length - 1 - j) 0)) % d) : Nat) : Int))))) (cs := (bx (.val (.int .u64 ((((((rest * 1000000000) + (a.getD (a.length - 1 - j) 0)) % d) : Nat) : Int)))))) rfl rfl rfl sh88 rfl rfl rfl rfl) rfl rfl rfl rfl <| dNil rfl rfl (by kernel_rfl)
    exact ⟨(q.set (a.length - 1 - j) ((rest * 1000000000 + a.getD (a.length - 1 - j) 0) / d), (rest * 1000000000 + a.getD (a.length - 1 - j) 0) % d), (weak rfl rfl), ⟨by simpa using hlen, hdq.set _ hb2, Nat.mod_lt _ hd0, short_step hj hlen hv rfl⟩⟩
  · rintro ⟨q, rest⟩ ⟨hlen, hdq, hr, hv⟩
    obtain ⟨e1, e2⟩ := short_end hv hr
    refine pwp_seq ?_
    refine pwp_sim (publishB (j := 1) (k := 2) (es := List.map enc_u32 q) rfl rfl rfl (pub_cells _ _ (fun _ => rfl)) (map_len _ _ hlen) (pub_take _ _ (fun _ => rfl) hlen)) ?_
    refine pwp_sim (weak (l := [(3, (.ref 0 0)), (4, (.ref 1 0)), (5, (vwn 0)), (6, (.ref 3 0))]) (b := [(0, some (bx (.val (.int .u32 (((d : Nat) : Int)))))), (1, some (bx (.sl 83 1 (List.map enc_u32 q)))), (3, some (bx (.val (.int .u64 (((rest : Nat) : Int))))))]) rfl rfl) ?_
    refine pwp_D (S' := [(4, (.ref 1 0)), (5, (vwn rest))]) (B' := [(1, some (bx (.sl 83 1 (List.map enc_u32 (ofNat (val q))))))]) mo (by kernel_rfl) ?_ ?_
    · skip
      exact dR (e_ld1 (cs := (bx (.sl 83 1 (List.map enc_u32 q)))) (y := (vl 83 1 enc_u32 q)) rfl rfl sh22 rfl) rfl rfl rfl rfl rfl <| dE' (e_cl (t_trim q (by assumption) (by omega)) rfl rfl rfl) rfl rfl <| dR (e_ld1 (cs := (bx (.val (.int .u64 (((rest : Nat) : Int)))))) (y := (vqn rest)) rfl rfl sh88 rfl) rfl rfl rfl rfl rfl <| dE' (e_conv (r := ((rest : Nat) : Int)) rfl un88 in83 rfl (cu32 (by omega))) rfl rfl <| dT (t_std (d := (.sl 83 1 (List.map enc_u32 (ofNat (val q))))) (cs := (bx (.sl 83 1 (List.map enc_u32 (ofNat (val q)))))) rfl rfl rfl sh22 rfl rfl rfl rfl) rfl rfl rfl rfl <| dM (vwn rest) rfl rfl rfl <| dNil rfl rfl (by kernel_rfl)
    refine pwp_ret ⟨_, (res_1 (cs := (bx (.sl 83 1 (List.map enc_u32 (ofNat (val q)))))) (d := (.sl 83 1 (List.map enc_u32 (ofNat (val q))))) rfl rfl sh22 rfl rfl (.tmp (d := (.val (.int .u32 (((rest : Nat) : Int))))) rfl .nil)), ?_⟩
    rw [← e1, ← e2]; rfl
theorem o_times (a b : List Nat) (hda : Dig a) (hdb : Dig b) (hla : a.length ≤ 4398046511104) (hlb : b.length ≤ 4398046511104) (h0 : 0 < val a * val b) : TakesO Tryz.prog 132 [(.sl 83 1 (List.map enc_u32 a)), (.sl 83 1 (List.map enc_u32 b))] 83 1 (ofNat (val a * val b)).length (List.map enc_u32 (ofNat (val a * val b))) := by
  refine fn_introO Tryz.func132 rfl cb132 rfl (ofNat_len_pos h0) ?_
  show PWp _ _ _ _ ⟨[(0, (vl 83 1 enc_u32 a)), (1, (vl 83 1 enc_u32 b))], []⟩
  refine pwp_seq ?_
  refine pwp_S (S' := [(0, (vl 83 1 enc_u32 a)), (1, (vl 83 1 enc_u32 b))]) (B' := []) ?_ ?_
  · skip
    exact sE' (e_asgnil 83 1 rfl) rfl <| sNil rfl rfl
  refine pwp_seq ?_
  refine pwp_S (S' := [(0, (vl 83 1 enc_u32 a)), (1, (vl 83 1 enc_u32 b)), (5, (.own 0 83 1 (a.length + b.length)))]) (B' := [(0, some (bm enc_u32 (List.replicate (a.length + b.length) 0)))]) ?_ ?_
  · skip
    exact sM (vl 83 1 enc_u32 a) rfl rfl <| sE' (e_ln (r := ((a.length : Nat) : Int)) rfl el22 rfl (by simp)) rfl <| sM (vl 83 1 enc_u32 b) rfl rfl <| sE' (e_ln (r := ((b.length : Nat) : Int)) rfl el22 rfl (by simp)) rfl <| sE' (e_add (r := (((a.length + b.length) : Nat) : Int)) rfl rfl rfl (wi64 (by omega) (by omega) (by omega))) rfl <| sN (n_mks (n := (a.length + b.length)) (m := (a.length + b.length)) (cs := (bm enc_u32 (List.replicate (a.length + b.length) 0))) 0 rfl el22 ze83 zo83 rfl by83 rfl rfl (by omega) (by omega) (by unfold maxLen; omega) (own_zero enc_u32 _ _)) rfl rfl rfl rfl <| sM (.own 0 83 1 (a.length + b.length)) rfl rfl <| sNil rfl rfl
  refine pwp_seq ?_
  refine pwp_seq ?_
  refine pwp_S (S' := [(1, (vl 83 1 enc_u32 b)), (5, (.own 0 83 1 (a.length + b.length))), (18, (vl 83 1 enc_u32 a)), (19, (vin a.length)), (20, (vin 0))]) (B' := [(0, some (bm enc_u32 (List.replicate (a.length + b.length) 0)))]) ?_ ?_
  · skip
    exact sM (vl 83 1 enc_u32 a) rfl rfl <| sE' (e_ln (r := ((a.length : Nat) : Int)) rfl el22 rfl (by simp)) rfl <| sM (vin 0) rfl rfl <| sNil rfl rfl
  refine pwp_block ?_
  refine pwp_loop (α := Nat × List Nat) (fun (i, out) => ⟨[(1, (vl 83 1 enc_u32 b)), (5, (.own 0 83 1 (a.length + b.length))), (18, (vl 83 1 enc_u32 a)), (19, (vin a.length)), (20, (vin i))], [(0, some (bm enc_u32 out))]⟩) (fun (i, out) => out.length = a.length + b.length ∧ Dig out ∧ i ≤ a.length ∧ (∀ k, i + b.length ≤ k → out.getD k 0 = 0) ∧ val out = val (a.take i) * val b) (fun (i, out) => a.length - i) (0, List.replicate (a.length + b.length) 0) (weak rfl rfl) ⟨by simp, dig_replicate _, Nat.zero_le _, fun k _ => getD_replicate _ k, by simp [val, val_replicate]⟩ ?_
  rintro ⟨i, out⟩ ⟨hlen, hdo, hi, hz, hv⟩
  have hai := hda.getD i
  refine pwp_seq ?_
  refine pwp_S (S' := [(1, (vl 83 1 enc_u32 b)), (5, (.own 0 83 1 (a.length + b.length))), (18, (vl 83 1 enc_u32 a)), (19, (vin a.length)), (20, (vin i)), (21, (vb (decide (((i : Nat) : Int) < ((a.length : Nat) : Int)))))]) (B' := [(0, some (bm enc_u32 out))]) ?_ ?_
  · skip
    exact sE' (e_lss rfl rfl rfl) rfl <| sNil rfl rfl
  refine pwp_seq ?_
  refine pwp_cond (b := decide (((i : Nat) : Int) < ((a.length : Nat) : Int))) rfl (fun h1 => ?_) (fun h1 => ?_)
  · skip
    replace h1 := of_decide_eq_true h1
    refine pwp_skip ?_
    refine pwp_seq ?_
    refine pwp_block ?_
    refine pwp_seq ?_
    refine pwp_S (S' := [(1, (vl 83 1 enc_u32 b)), (5, (.own 0 83 1 (a.length + b.length))), (6, (vin i)), (7, (vwn (a.getD i 0))), (18, (vl 83 1 enc_u32 a)), (19, (vin a.length)), (20, (vin i))]) (B' := [(0, some (bm enc_u32 out))]) ?_ ?_
    · skip
      exact sM (vin i) rfl rfl <| sE' (e_ixs (j := i) (cs := (Dat.cells (.val (.int .u32 ((((a.getD i 0) : Nat) : Int)))))) rfl el22 rfl rfl (by omega) (ixm _ _ _ _ (by omega))) rfl <| sE' (e_lc1 (cs := (Dat.cells (.val (.int .u32 ((((a.getD i 0) : Nat) : Int)))))) (y := (.val (.int .u32 ((((a.getD i 0) : Nat) : Int))))) rfl rfl sh83 rfl) rfl <| sM (vin i) rfl rfl <| sM (vwn (a.getD i 0)) rfl rfl <| sNil rfl rfl
    refine pwp_seq ?_
    refine pwp_S (S' := [(1, (vl 83 1 enc_u32 b)), (5, (.own 0 83 1 (a.length + b.length))), (6, (vin i)), (7, (vwn (a.getD i 0))), (8, (vqn 0)), (18, (vl 83 1 enc_u32 a)), (19, (vin a.length)), (20, (vin i))]) (B' := [(0, some (bm enc_u32 out))]) ?_ ?_
    · skip
      exact sM (vqn 0) rfl rfl <| sNil rfl rfl
    refine pwp_seq ?_
    refine pwp_seq ?_
    refine pwp_S (S' := [(1, (vl 83 1 enc_u32 b)), (5, (.own 0 83 1 (a.length + b.length))), (6, (vin i)), (7, (vwn (a.getD i 0))), (8, (vqn 0)), (18, (vl 83 1 enc_u32 a)), (19, (vin a.length)), (20, (vin i)), (25, (vl 83 1 enc_u32 b)), (26, (vin b.length)), (27, (vin 0))]) (B' := [(0, some (bm enc_u32 out))]) ?_ ?_
    · skip
      exact sM (vl 83 1 enc_u32 b) rfl rfl <| sE' (e_ln (r := ((b.length : Nat) : Int)) rfl el22 rfl (by simp)) rfl <| sM (vin 0) rfl rfl <| sNil rfl rfl
    refine pwp_block ?_
    refine pwp_loop (α := Nat × List Nat × Nat) (fun (j, o2, c) => ⟨[(1, (vl 83 1 enc_u32 b)), (5, (.own 0 83 1 (a.length + b.length))), (6, (vin i)), (7, (vwn (a.getD i 0))), (8, (vqn c)), (18, (vl 83 1 enc_u32 a)), (19, (vin a.length)), (20, (vin i)), (25, (vl 83 1 enc_u32 b)), (26, (vin b.length)), (27, (vin j))], [(0, some (bm enc_u32 o2))]⟩) (fun (j, o2, c) => o2.length = a.length + b.length ∧ Dig o2 ∧ j ≤ b.length ∧ c < 1000000000 ∧ (∀ k, i + b.length ≤ k → o2.getD k 0 = 0) ∧ val o2 + pw (i + j) * c = val (a.take i) * val b + pw i * (a.getD i 0 * val (b.take j))) (fun (j, o2, c) => b.length - j) (0, out, 0) (weak rfl rfl) ⟨hlen, hdo, Nat.zero_le _, by decide, hz, by simp [val, hv]⟩ ?_
    rintro ⟨j, o2, c⟩ ⟨hlen2, hdo2, hj, hc, hz2, hv2⟩
    have hbj := hdb.getD j
    have hoj := hdo2.getD (i + j)
    have hpq : a.getD i 0 * b.getD j 0 ≤ 999999999 * 999999999 := Nat.mul_le_mul (by omega) (by omega)
    refine pwp_seq ?_
    refine pwp_S (S' := [(1, (vl 83 1 enc_u32 b)), (5, (.own 0 83 1 (a.length + b.length))), (6, (vin i)), (7, (vwn (a.getD i 0))), (8, (vqn c)), (18, (vl 83 1 enc_u32 a)), (19, (vin a.length)), (20, (vin i)), (25, (vl 83 1 enc_u32 b)), (26, (vin b.length)), (27, (vin j)), (28, (vb (decide (((j : Nat) : Int) < ((b.length : Nat) : Int)))))]) (B' := [(0, some (bm enc_u32 o2))]) ?_ ?_
    · skip
      exact sE' (e_lss rfl rfl rfl) rfl <| sNil rfl rfl
    refine pwp_seq ?_
    refine pwp_cond (b := decide (((j : Nat) : Int) < ((b.length : Nat) : Int))) rfl (fun h2 => ?_) (fun h2 => ?_)
    · skip
      replace h2 := of_decide_eq_true h2
      refine pwp_skip ?_
      refine pwp_seq ?_
      refine pwp_block ?_
      refine pwp_seq ?_
      refine pwp_S (S' := [(1, (vl 83 1 enc_u32 b)), (5, (.own 0 83 1 (a.length + b.length))), (6, (vin i)), (7, (vwn (a.getD i 0))), (8, (vqn c)), (9, (vin j)), (10, (vwn (b.getD j 0))), (18, (vl 83 1 enc_u32 a)), (19, (vin a.length)), (20, (vin i)), (25, (vl 83 1 enc_u32 b)), (26, (vin b.length)), (27, (vin j))]) (B' := [(0, some (bm enc_u32 o2))]) ?_ ?_
      · skip
        exact sM (vin j) rfl rfl <| sE' (e_ixs (j := j) (cs := (Dat.cells (.val (.int .u32 ((((b.getD j 0) : Nat) : Int)))))) rfl el22 rfl rfl (by omega) (ixm _ _ _ _ (by omega))) rfl <| sE' (e_lc1 (cs := (Dat.cells (.val (.int .u32 ((((b.getD j 0) : Nat) : Int)))))) (y := (.val (.int .u32 ((((b.getD j 0) : Nat) : Int))))) rfl rfl sh83 rfl) rfl <| sM (vin j) rfl rfl <| sM (vwn (b.getD j 0)) rfl rfl <| sNil rfl rfl
      refine pwp_seq ?_
      refine pwp_S (S' := [(1, (vl 83 1 enc_u32 b)), (5, (.own 0 83 1 (a.length + b.length))), (6, (vin i)), (7, (vwn (a.getD i 0))), (9, (vin j)), (11, (vqn (((o2.getD (i + j) 0) + ((a.getD i 0) * (b.getD j 0))) + c))), (18, (vl 83 1 enc_u32 a)), (19, (vin a.length)), (20, (vin i)), (25, (vl 83 1 enc_u32 b)), (26, (vin b.length)), (27, (vin j))]) (B' := [(0, some (bm enc_u32 o2))]) ?_ ?_
      · skip
        exact sM (.own 0 83 1 (a.length + b.length)) rfl rfl <| sM (vin i) rfl rfl <| sM (vin j) rfl rfl <| sE' (e_add (r := (((i + j) : Nat) : Int)) rfl rfl rfl (wi64 (by omega) (by omega) (by omega))) rfl <| sE' (e_ixo (j := (i + j)) (q := (i + j)) rfl el22 rfl rfl (by omega) (by omega) (by simp)) rfl <| sR (e_ld1 (cs := (bm enc_u32 o2)) (y := (vwn (o2.getD (i + j) 0))) rfl rfl sh83 (own_get _ _ _ _ (by omega))) rfl rfl rfl rfl <| sE' (e_conv (r := (((o2.getD (i + j) 0) : Nat) : Int)) rfl un83 in88 rfl (cu64 (by omega))) rfl <| sM (vwn (a.getD i 0)) rfl rfl <| sE' (e_conv (r := (((a.getD i 0) : Nat) : Int)) rfl un83 in88 rfl (cu64 (by omega))) rfl <| sM (vwn (b.getD j 0)) rfl rfl <| sE' (e_conv (r := (((b.getD j 0) : Nat) : Int)) rfl un83 in88 rfl (cu64 (by omega))) rfl <| sE' (e_mul (r := ((((a.getD i 0) * (b.getD j 0)) : Nat) : Int)) rfl rfl rfl (wu64 (by omega) (by omega) (by omega))) rfl <| sE' (e_add (r := ((((o2.getD (i + j) 0) + ((a.getD i 0) * (b.getD j 0))) : Nat) : Int)) rfl rfl rfl (wu64 (by omega) (by omega) (by omega))) rfl <| sM (vqn c) rfl rfl <| sE' (e_add (r := (((((o2.getD (i + j) 0) + ((a.getD i 0) * (b.getD j 0))) + c) : Nat) : Int)) rfl rfl rfl (wu64 (by omega) (by omega) (by omega))) rfl <| sM (vqn (((o2.getD (i + j) 0) + ((a.getD i 0) * (b.getD j 0))) + c)) rfl rfl <| sNil rfl rfl
      refine pwp_S (S' := [(1, (vl 83 1 enc_u32 b)), (5, (.own 0 83 1 (a.length + b.length))), (6, (vin i)), (7, (vwn (a.getD i 0))), (8, (vqn ((((o2.getD (i + j) 0) + ((a.getD i 0) * (b.getD j 0))) + c) / 1000000000))), (18, (vl 83 1 enc_u32 a)), (19, (vin a.length)), (20, (vin i)), (25, (vl 83 1 enc_u32 b)), (26, (vin b.length)), (27, (vin j))]) (B' := [(0, some (bm enc_u32 (o2.set (i + j) ((((o2.getD (i + j) 0) + ((a.getD i 0) * (b.getD j 0))) + c) % 1000000000))))]) ?_ ?_
      · skip
        exact sM (.own 0 83 1 (a.length + b.length)) rfl rfl <| sM (vin i) rfl rfl <| sM (vin j) rfl rfl <| sE' (e_add (r := (((i + j) : Nat) : Int)) rfl rfl rfl (wi64 (by omega) (by omega) (by omega))) rfl <| sM (vqn (((o2.getD (i + j) 0) + ((a.getD i 0) * (b.getD j 0))) + c)) rfl rfl <| sE' (e_rem (r := ((((((o2.getD (i + j) 0) + ((a.getD i 0) * (b.getD j 0))) + c) % 1000000000) : Nat) : Int)) rfl rfl rfl (by decide) (tmod_nat _ _)) rfl <| sE' (e_conv (r := ((((((o2.getD (i + j) 0) + ((a.getD i 0) * (b.getD j 0))) + c) % 1000000000) : Nat) : Int)) rfl un88 in83 rfl (cu32 (by omega))) rfl <| sM (vqn (((o2.getD (i + j) 0) + ((a.getD i 0) * (b.getD j 0))) + c)) rfl rfl <| sE' (e_quo (r := ((((((o2.getD (i + j) 0) + ((a.getD i 0) * (b.getD j 0))) + c) / 1000000000) : Nat) : Int)) rfl rfl rfl (by decide) (quo_u64 _ _ (by omega))) rfl <| sE' (e_ixo (j := (i + j)) (q := (i + j)) rfl el22 rfl rfl (by omega) (by omega) (by simp)) rfl <| sT (t_st1 (cs := (bm enc_u32 (o2.set (i + j) ((((o2.getD (i + j) 0) + ((a.getD i 0) * (b.getD j 0))) + c) % 1000000000)))) rfl rfl rfl sh83 rfl rfl (own_len _ _ _ (by omega)) (own_set _ _ _ _)) rfl rfl rfl <| sM (vqn ((((o2.getD (i + j) 0) + ((a.getD i 0) * (b.getD j 0))) + c) / 1000000000)) rfl rfl <| sNil rfl rfl
      refine pwp_S (S' := [(1, (vl 83 1 enc_u32 b)), (5, (.own 0 83 1 (a.length + b.length))), (6, (vin i)), (7, (vwn (a.getD i 0))), (8, (vqn ((((o2.getD (i + j) 0) + ((a.getD i 0) * (b.getD j 0))) + c) / 1000000000))), (18, (vl 83 1 enc_u32 a)), (19, (vin a.length)), (20, (vin i)), (25, (vl 83 1 enc_u32 b)), (26, (vin b.length)), (27, (vin (j + 1)))]) (B' := [(0, some (bm enc_u32 (o2.set (i + j) ((((o2.getD (i + j) 0) + ((a.getD i 0) * (b.getD j 0))) + c) % 1000000000))))]) ?_ ?_
      · skip
        exact sE' (e_add (r := (((j + 1) : Nat) : Int)) rfl rfl rfl (wi64 (by omega) (by omega) (by omega))) rfl <| sM (vin (j + 1)) rfl rfl <| sNil rfl rfl
      exact ⟨(j + 1, o2.set (i + j) ((o2.getD (i + j) 0 + a.getD i 0 * b.getD j 0 + c) % 1000000000), (o2.getD (i + j) 0 + a.getD i 0 * b.getD j 0 + c) / 1000000000), (weak rfl rfl), (by obtain ⟨q1, q2⟩ := times_step (by omega) hdo2 hv2 rfl (val_take_succ b j); exact ⟨by simpa using hlen2, q1, by omega, by omega, zero_set (by omega) hz2, q2⟩), (by first | omega | (dsimp only; omega))⟩
    · skip
      replace h2 := of_decide_eq_false h2
      have hje : j = b.length := by omega
      rw [hje] at hv2
      refine pwp_exit ?_
      refine pwp_S (S' := [(1, (vl 83 1 enc_u32 b)), (5, (.own 0 83 1 (a.length + b.length))), (18, (vl 83 1 enc_u32 a)), (19, (vin a.length)), (20, (vin i))]) (B' := [(0, some (bm enc_u32 (o2.set (i + b.length) c)))]) ?_ ?_
      · skip
        exact sM (.own 0 83 1 (a.length + b.length)) rfl rfl <| sM (vin i) rfl rfl <| sM (vl 83 1 enc_u32 b) rfl rfl <| sE' (e_ln (r := ((b.length : Nat) : Int)) rfl el22 rfl (by simp)) rfl <| sE' (e_add (r := (((i + b.length) : Nat) : Int)) rfl rfl rfl (wi64 (by omega) (by omega) (by omega))) rfl <| sM (vqn c) rfl rfl <| sE' (e_conv (r := ((c : Nat) : Int)) rfl un88 in83 rfl (cu32 (by omega))) rfl <| sE' (e_ixo (j := (i + b.length)) (q := (i + b.length)) rfl el22 rfl rfl (by omega) (by omega) (by simp)) rfl <| sT (t_st1 (cs := (bm enc_u32 (o2.set (i + b.length) c))) rfl rfl rfl sh83 rfl rfl (own_len _ _ _ (by omega)) (own_set _ _ _ _)) rfl rfl rfl <| sNil rfl rfl
      refine pwp_S (S' := [(1, (vl 83 1 enc_u32 b)), (5, (.own 0 83 1 (a.length + b.length))), (18, (vl 83 1 enc_u32 a)), (19, (vin a.length)), (20, (vin (i + 1)))]) (B' := [(0, some (bm enc_u32 (o2.set (i + b.length) c)))]) ?_ ?_
      · skip
        exact sE' (e_add (r := (((i + 1) : Nat) : Int)) rfl rfl rfl (wi64 (by omega) (by omega) (by omega))) rfl <| sM (vin (i + 1)) rfl rfl <| sNil rfl rfl
      exact ⟨(i + 1, o2.set (i + b.length) c), (weak rfl rfl), (by obtain ⟨q1, q2, q3, q4⟩ := times_row hdo2 (by omega) hlen2 hz2 hc hv2; exact ⟨q1, q2, by omega, q3, q4⟩), (by first | omega | (dsimp only; omega))⟩
  · skip
    replace h1 := of_decide_eq_false h1
    have hie : i = a.length := by omega
    rw [hie, List.take_length] at hv
    refine pwp_exit ?_
    refine pwp_seq ?_
    refine pwp_S (S' := [(4, (.own 0 83 1 ((ofNat (val out)).length)))]) (B' := [(0, some (bm enc_u32 out))]) ?_ ?_
    · skip
      exact sM (.own 0 83 1 (a.length + b.length)) rfl rfl <| sR (e_trimO out rfl rfl hlen hdo (by omega)) rfl rfl rfl rfl <| sM (.own 0 83 1 ((ofNat (val out)).length)) rfl rfl <| sNil rfl rfl
    rw [← hv]
    refine pwp_ret ⟨4, 0, rfl, rfl, (bm enc_u32 out), rfl, ?_⟩
    exact own_prefix _ (trim_take hdo)
end Go.Proofs.YtcdgmcfkhkikbaaGreat
