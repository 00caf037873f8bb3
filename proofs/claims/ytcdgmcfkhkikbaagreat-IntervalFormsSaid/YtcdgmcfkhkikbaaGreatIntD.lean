/-
  Functions walked: each takes its data to what is said. Printed by a program of ours.
-/
import Derived.Test.YtcdgmcfkhkikbaaGreatIntC
namespace Go.Proofs.YtcdgmcfkhkikbaaGreat
open Go.Fid
set_option maxRecDepth 4000
set_option linter.unusedVariables false
set_option linter.unusedSimpArgs false
theorem cb151 : callB Tryz.prog 151 = true := by kernel_rfl
theorem in2 : intB Tryz.prog 2 = some .i64 := by kernel_rfl
theorem un2 : (Tryz.prog.underlying 2).isSome = true := by kernel_rfl
set_option maxHeartbeats 4000000 in
theorem t_long (a b : List Nat) (hda : Cano a) (hdb : Cano b) (hb2 : 2 ≤ b.length) (hba : val b ≤ val a) (hla : a.length ≤ 1099511627776) : Takes Tryz.prog 151 [(.sl 83 1 (List.map enc_u32 a)), (.sl 83 1 (List.map enc_u32 b))] (.tup [(.sl 83 1 (List.map enc_u32 (ofNat (val a / val b)))), (.sl 83 1 (List.map enc_u32 (ofNat (val a % val b))))]) := by
  have hab := len_of_le hda hdb hba
  have hsc := scl_bound hdb (by omega)
  have htp := top_pos hdb (by omega)
  have hds : Dig [scl b] := dig_cons.2 ⟨by omega, dig_nil⟩
  have hbp : 0 < val b := by have := val_top hdb.1 (by omega); have h2 := Nat.mul_le_mul_right (pw (b.length - 1)) htp.1; have h3 := pw_pos (b.length - 1); rw [Nat.succ_mul] at h2; omega
  obtain ⟨u0, hue⟩ : ∃ u0, u0 = ofNat (val a * val [scl b]) := ⟨_, rfl⟩
  obtain ⟨v, hve⟩ : ∃ v, v = ofNat (val b * val [scl b]) := ⟨_, rfl⟩
  have hu0 : Dig u0 := by rw [hue]; exact ofNat_dig _
  have hvd : Dig v := by rw [hve]; exact ofNat_dig _
  have hvl : v.length = b.length := by rw [hve, val_one]; exact scl_len hdb (by omega)
  have hvv : val v = val b * scl b := by rw [hve, val_one]; exact ofNat_val _
  have hu0v : val u0 = val a * scl b := by rw [hue, val_one]; exact ofNat_val _
  have hu0l : a.length ≤ u0.length ∧ u0.length ≤ a.length + 1 := by rw [hue, val_one]; exact scl_lenA hda hdb (by omega)
  have hLU : (u0 ++ [0]).length = u0.length + 1 := by simp
  have hcv : Cano v := by rw [hve]; exact ofNat_can _
  have hv1p : 0 < v.getD (b.length - 1) 0 := by rw [← hvl]; exact (top_pos hcv (by omega)).1
  have hpv : pw (b.length - 1) ≤ val v := by have h1 := val_top hvd (by omega); rw [hvl] at h1; have h2 := Nat.mul_le_mul_right (pw (b.length - 1)) hv1p; omega
  refine fn_intro Tryz.func151 rfl cb151 rfl ?_
  show PWp _ _ _ _ ⟨[(0, (vl 83 1 enc_u32 a)), (1, (vl 83 1 enc_u32 b))], []⟩
  refine pwp_seq ?_
  refine pwp_S (S' := [(0, (vl 83 1 enc_u32 a)), (1, (vl 83 1 enc_u32 b))]) (B' := []) ?_ ?_
  · skip
    exact sE' (e_asgnil 83 1 rfl) rfl <| sE' (e_asgnil 83 1 rfl) rfl <| sNil rfl rfl
  refine pwp_seq ?_
  refine pwp_S (S' := [(0, (vl 83 1 enc_u32 a)), (1, (vl 83 1 enc_u32 b)), (6, (vwn (scl b)))]) (B' := []) ?_ ?_
  · skip
    exact sM (vl 83 1 enc_u32 b) rfl rfl <| sM (vl 83 1 enc_u32 b) rfl rfl <| sE' (e_ln (r := ((b.length : Nat) : Int)) rfl el22 rfl (by simp)) rfl <| sE' (e_sub (r := (((b.length - 1) : Nat) : Int)) rfl rfl rfl (wi64 (by omega) (by omega) (by omega))) rfl <| sE' (e_ixs (j := (b.length - 1)) (cs := (Dat.cells (.val (.int .u32 ((((b.getD (b.length - 1) 0) : Nat) : Int)))))) rfl el22 rfl rfl (by omega) (ixm _ _ _ _ (by omega))) rfl <| sE' (e_lc1 (cs := (Dat.cells (.val (.int .u32 ((((b.getD (b.length - 1) 0) : Nat) : Int)))))) (y := (.val (.int .u32 ((((b.getD (b.length - 1) 0) : Nat) : Int))))) rfl rfl sh83 rfl) rfl <| sE' (e_conv (r := (((b.getD (b.length - 1) 0) : Nat) : Int)) rfl un83 in88 rfl (cu64 (by omega))) rfl <| sE' (e_add (r := ((((b.getD (b.length - 1) 0) + 1) : Nat) : Int)) rfl rfl rfl (wu64 (by omega) (by omega) (by omega))) rfl <| sE' (e_quo (r := ((scl b : Nat) : Int)) rfl rfl rfl (by omega) (quo_u64 1000000000 (b.getD (b.length - 1) 0 + 1) (by decide))) rfl <| sE' (e_conv (r := ((scl b : Nat) : Int)) rfl un88 in83 rfl (cu32 (by omega))) rfl <| sM (vwn (scl b)) rfl rfl <| sNil rfl rfl
  refine pwp_seq ?_
  refine pwp_S (S' := [(0, (vl 83 1 enc_u32 a)), (1, (vl 83 1 enc_u32 b)), (6, (vwn (scl b))), (7, (.own 0 83 1 u0.length))]) (B' := [(0, some (bm enc_u32 u0))]) ?_ ?_
  · skip
    exact sM (vl 83 1 enc_u32 a) rfl rfl <| sM (vwn (scl b)) rfl rfl <| sE' (e_bsl (pd := [(0, (.val (.int .u32 (((scl b : Nat) : Int)))))]) (es := List.map enc_u32 [scl b]) rfl el22 ze83 zo83 rfl rfl rfl rfl rfl rfl rfl rfl) rfl <| sN (n_own (cs := (bm enc_u32 u0)) 0 (hue ▸ o_times a [scl b] hda.1 hds (by omega) (by simp) (by rw [val_one]; exact Nat.mul_pos (by omega) hsc.1)) rfl rfl rfl (by simp)) rfl rfl rfl rfl <| sM (.own 0 83 1 u0.length) rfl rfl <| sNil rfl rfl
  refine pwp_seq ?_
  refine pwp_S (S' := [(0, (vl 83 1 enc_u32 a)), (6, (vwn (scl b))), (7, (.own 0 83 1 u0.length)), (8, (vl 83 1 enc_u32 v))]) (B' := [(0, some (bm enc_u32 u0))]) ?_ ?_
  · skip
    exact sM (vl 83 1 enc_u32 b) rfl rfl <| sM (vwn (scl b)) rfl rfl <| sE' (e_bsl (pd := [(0, (.val (.int .u32 (((scl b : Nat) : Int)))))]) (es := List.map enc_u32 [scl b]) rfl el22 ze83 zo83 rfl rfl rfl rfl rfl rfl rfl rfl) rfl <| sE' (e_cl (hve ▸ t_times b [scl b] hdb.1 hds (by omega) (by simp)) rfl rfl rfl) rfl <| sM (vl 83 1 enc_u32 v) rfl rfl <| sNil rfl rfl
  refine pwp_seq ?_
  refine pwp_S (S' := [(0, (vl 83 1 enc_u32 a)), (6, (vwn (scl b))), (7, (.own 0 83 1 u0.length)), (8, (vl 83 1 enc_u32 v)), (9, (vin b.length))]) (B' := [(0, some (bm enc_u32 u0))]) ?_ ?_
  · skip
    exact sM (vl 83 1 enc_u32 v) rfl rfl <| sE' (e_ln (r := ((b.length : Nat) : Int)) rfl el22 rfl (by simp [hvl])) rfl <| sM (vin b.length) rfl rfl <| sNil rfl rfl
  refine pwp_seq ?_
  refine pwp_S (S' := [(0, (vl 83 1 enc_u32 a)), (6, (vwn (scl b))), (7, (.own 0 83 1 ((u0 ++ [0]).length))), (8, (vl 83 1 enc_u32 v)), (9, (vin b.length))]) (B' := [(0, some (bm enc_u32 (u0 ++ [0])))]) ?_ ?_
  · skip
    exact sM (.own 0 83 1 u0.length) rfl rfl <| sE' (e_bsl (pd := [(0, (.val (.int .u32 (0))))]) (es := List.map enc_u32 [0]) rfl el22 ze83 zo83 rfl rfl rfl rfl rfl rfl rfl rfl) rfl <| sApp1 (m2 := (u0 ++ [0]).length) enc_u32 u0 [0] (fun _ => rfl) rfl rfl rfl rfl el22 ze83 rfl by83 rfl rfl rfl rfl (by simp only [List.length_cons, List.length_nil, maxLen]; omega) (by first | omega | (simp only [List.length_cons, List.length_nil]; omega)) (by repeat first | exact clr_nil _ | refine clr_self ?_ | refine clr_map ?_ | refine clr_bx ?_ | refine clr_d ?_) (by simp; try omega) <| sM (.own 0 83 1 ((u0 ++ [0]).length)) rfl rfl <| sNil rfl rfl
  refine pwp_seq ?_
  refine pwp_seq ?_
  refine pwp_S (S' := [(6, (vwn (scl b))), (7, (.own 0 83 1 ((u0 ++ [0]).length))), (8, (vl 83 1 enc_u32 v)), (9, (vin b.length)), (50, (vb (decide ((((u0 ++ [0]).length : Nat) : Int) ≤ ((a.length : Nat) : Int)))))]) (B' := [(0, some (bm enc_u32 (u0 ++ [0])))]) ?_ ?_
  · skip
    exact sM (.own 0 83 1 ((u0 ++ [0]).length)) rfl rfl <| sE' (e_len_own rfl el22 rfl) rfl <| sM (vl 83 1 enc_u32 a) rfl rfl <| sE' (e_ln (r := ((a.length : Nat) : Int)) rfl el22 rfl (by simp)) rfl <| sE' (e_leq rfl rfl rfl) rfl <| sNil rfl rfl
  refine pwp_cond (b := decide ((((u0 ++ [0]).length : Nat) : Int) ≤ ((a.length : Nat) : Int))) rfl (fun h1 => ?_) (fun h1 => ?_)
  · skip
    replace h1 := of_decide_eq_true h1
    exfalso; simp at h1; omega
  · skip
    replace h1 := of_decide_eq_false h1
    refine pwp_skip ?_
    refine pwp_seq ?_
    refine pwp_S (S' := [(4, (.own 1 83 1 ((u0 ++ [0]).length - b.length))), (6, (vwn (scl b))), (7, (.own 0 83 1 ((u0 ++ [0]).length))), (8, (vl 83 1 enc_u32 v)), (9, (vin b.length))]) (B' := [(0, some (bm enc_u32 (u0 ++ [0]))), (1, some (bm enc_u32 (List.replicate ((u0 ++ [0]).length - b.length) 0)))]) ?_ ?_
    · skip
      exact sM (.own 0 83 1 ((u0 ++ [0]).length)) rfl rfl <| sE' (e_len_own rfl el22 rfl) rfl <| sM (vin b.length) rfl rfl <| sE' (e_sub (r := ((((u0 ++ [0]).length - b.length) : Nat) : Int)) rfl rfl rfl (wi64 (by omega) (by omega) (by omega))) rfl <| sN (n_mks (n := ((u0 ++ [0]).length - b.length)) (m := ((u0 ++ [0]).length - b.length)) (cs := (bm enc_u32 (List.replicate ((u0 ++ [0]).length - b.length) 0))) 1 rfl el22 ze83 zo83 rfl by83 rfl rfl (by omega) (by omega) (by unfold maxLen; omega) (own_zero enc_u32 _ _)) rfl rfl rfl (freshB_of rfl (by repeat first | exact frb_nil _ | refine frb_map rfl ?_ | refine frb_d rfl ?_ | refine frb_cs rfl rfl ?_ | refine frb_none rfl ?_)) <| sM (.own 1 83 1 ((u0 ++ [0]).length - b.length)) rfl rfl <| sNil rfl rfl
    refine pwp_seq ?_
    refine pwp_seq ?_
    refine pwp_S (S' := [(4, (.own 1 83 1 ((u0 ++ [0]).length - b.length))), (6, (vwn (scl b))), (7, (.own 0 83 1 ((u0 ++ [0]).length))), (8, (vl 83 1 enc_u32 v)), (9, (vin b.length)), (10, (vi ((((u0 ++ [0]).length - b.length : Nat) : Int) - 1)))]) (B' := [(0, some (bm enc_u32 (u0 ++ [0]))), (1, some (bm enc_u32 (List.replicate ((u0 ++ [0]).length - b.length) 0)))]) ?_ ?_
    · skip
      exact sM (.own 0 83 1 ((u0 ++ [0]).length)) rfl rfl <| sE' (e_len_own rfl el22 rfl) rfl <| sM (vin b.length) rfl rfl <| sE' (e_sub (r := ((((u0 ++ [0]).length - b.length) : Nat) : Int)) rfl rfl rfl (wi64 (by omega) (by omega) (by omega))) rfl <| sE' (e_sub (r := ((((u0 ++ [0]).length - b.length : Nat) : Int) - 1)) rfl rfl rfl (wi64 (by omega) (by omega) (by omega))) rfl <| sM (vi ((((u0 ++ [0]).length - b.length : Nat) : Int) - 1)) rfl rfl <| sNil rfl rfl
    refine pwp_block ?_
    refine pwp_loop (α := Nat × List Nat × List Nat) (fun (k, u, q) => ⟨[(4, (.own 1 83 1 ((u0 ++ [0]).length - b.length))), (6, (vwn (scl b))), (7, (.own 0 83 1 ((u0 ++ [0]).length))), (8, (vl 83 1 enc_u32 v)), (9, (vin b.length)), (10, (vi (((k : Nat) : Int) - 1)))], [(0, some (bm enc_u32 u)), (1, some (bm enc_u32 q))]⟩) (fun (k, u, q) => u.length = (u0 ++ [0]).length ∧ Dig u ∧ q.length = (u0 ++ [0]).length - b.length ∧ Dig q ∧ k ≤ (u0 ++ [0]).length - b.length ∧ val u + val v * (pw k * val (q.drop k)) = val a * scl b ∧ val (u.drop k) < val v) (fun (k, u, q) => k) ((u0 ++ [0]).length - b.length, u0 ++ [0], List.replicate ((u0 ++ [0]).length - b.length) 0) (weak rfl rfl) ⟨rfl, dig_append.2 ⟨hu0, dig_cons.2 ⟨by decide, dig_nil⟩⟩, by simp, dig_replicate _, Nat.le_refl _, by simp [val_append, val, hu0v], by have := long_start hu0 hvl hb2 (by omega) hpv; rw [hLU]; exact this⟩ ?_
    rintro ⟨k, u, q⟩ ⟨hlen, hu, hql, hqd, hk, hU, hW⟩
    refine pwp_seq ?_
    refine pwp_seq ?_
    refine pwp_S (S' := [(4, (.own 1 83 1 ((u0 ++ [0]).length - b.length))), (6, (vwn (scl b))), (7, (.own 0 83 1 ((u0 ++ [0]).length))), (8, (vl 83 1 enc_u32 v)), (9, (vin b.length)), (10, (vi (((k : Nat) : Int) - 1))), (65, (vb (decide (0 ≤ (((k : Nat) : Int) - 1)))))]) (B' := [(0, some (bm enc_u32 u)), (1, some (bm enc_u32 q))]) ?_ ?_
    · skip
      exact sM (vi (((k : Nat) : Int) - 1)) rfl rfl <| sE' (e_geq rfl rfl rfl) rfl <| sNil rfl rfl
    refine pwp_cond (b := decide (0 ≤ (((k : Nat) : Int) - 1))) rfl (fun h2 => ?_) (fun h2 => ?_)
    · skip
      replace h2 := of_decide_eq_true h2
      obtain ⟨j, rfl⟩ : ∃ j, k = j + 1 := ⟨k - 1, by omega⟩
      rw [show (((j + 1 : Nat) : Int) - 1) = ((j : Nat) : Int) from by omega]
      have hg1 := hu.getD (j + b.length)
      have hg2 := hu.getD (j + b.length - 1)
      have hg3 := hu.getD (j + b.length - 2)
      have hg4 := hvd.getD (b.length - 1)
      have hg5 := hvd.getD (b.length - 2)
      obtain ⟨z1, z2, z3, z4, z5, z6⟩ := window_tops hu hvd hvl hb2 hW
      obtain ⟨hwz, hww⟩ := window hvd hvl hW
      refine pwp_skip ?_
      refine pwp_seq ?_
      refine pwp_block ?_
      refine pwp_seq ?_
      refine pwp_D (S' := [(4, (.own 1 83 1 ((u0 ++ [0]).length - b.length))), (6, (vwn (scl b))), (7, (.own 0 83 1 ((u0 ++ [0]).length))), (8, (vl 83 1 enc_u32 v)), (9, (vin b.length)), (10, (vin j)), (11, (vqn (((u.getD (j + b.length) 0) * 1000000000) + (u.getD ((j + b.length) - 1) 0))))]) (B' := [(0, some (bm enc_u32 u)), (1, some (bm enc_u32 q))]) mo (by kernel_rfl) ?_ ?_
      · skip
        exact dM (.own 0 83 1 ((u0 ++ [0]).length)) rfl rfl rfl <| dM (vin j) rfl rfl rfl <| dM (vin b.length) rfl rfl rfl <| dE' (e_add (r := (((j + b.length) : Nat) : Int)) rfl rfl rfl (wi64 (by omega) (by omega) (by omega))) rfl rfl <| dR (e_clo (cs := (bm enc_u32 u)) (t_at u (j + b.length)) rfl rfl rfl (.o (.d .nil)) (pub_cells _ _ (fun _ => rfl)) (map_len _ _ hlen) (pub_take _ _ (fun _ => rfl) hlen)) rfl rfl rfl rfl rfl <| dE' (e_conv (r := (((u.getD (j + b.length) 0) : Nat) : Int)) rfl un83 in88 rfl (cu64 (by omega))) rfl rfl <| dE' (e_mul (r := ((((u.getD (j + b.length) 0) * 1000000000) : Nat) : Int)) rfl rfl rfl (wu64 (by omega) (by omega) (by omega))) rfl rfl <| dM (.own 0 83 1 ((u0 ++ [0]).length)) rfl rfl rfl <| dM (vin j) rfl rfl rfl <| dM (vin b.length) rfl rfl rfl <| dE' (e_add (r := (((j + b.length) : Nat) : Int)) rfl rfl rfl (wi64 (by omega) (by omega) (by omega))) rfl rfl <| dE' (e_sub (r := ((((j + b.length) - 1) : Nat) : Int)) rfl rfl rfl (wi64 (by omega) (by omega) (by omega))) rfl rfl <| dE' (e_ixo (j := ((j + b.length) - 1)) (q := ((j + b.length) - 1)) rfl el22 rfl rfl (by omega) (by omega) (by simp)) rfl rfl <| dR (e_ld1 (cs := (bm enc_u32 u)) (y := (vwn (u.getD ((j + b.length) - 1) 0))) rfl rfl sh83 (own_get _ _ _ _ (by omega))) rfl rfl rfl rfl rfl <| dE' (e_conv (r := (((u.getD ((j + b.length) - 1) 0) : Nat) : Int)) rfl un83 in88 rfl (cu64 (by omega))) rfl rfl <| dE' (e_add (r := (((((u.getD (j + b.length) 0) * 1000000000) + (u.getD ((j + b.length) - 1) 0)) : Nat) : Int)) rfl rfl rfl (wu64 (by omega) (by omega) (by omega))) rfl rfl <| dM (vqn (((u.getD (j + b.length) 0) * 1000000000) + (u.getD ((j + b.length) - 1) 0))) rfl rfl rfl <| dNil rfl rfl (by kernel_rfl)
      refine pwp_seq ?_
      refine pwp_D (S' := [(4, (.own 1 83 1 ((u0 ++ [0]).length - b.length))), (6, (vwn (scl b))), (7, (.own 0 83 1 ((u0 ++ [0]).length))), (8, (vl 83 1 enc_u32 v)), (9, (vin b.length)), (10, (vin j)), (12, (vqn ((((u.getD (j + b.length) 0) * 1000000000) + (u.getD ((j + b.length) - 1) 0)) / (v.getD (b.length - 1) 0)))), (13, (vqn ((((u.getD (j + b.length) 0) * 1000000000) + (u.getD ((j + b.length) - 1) 0)) % (v.getD (b.length - 1) 0))))]) (B' := [(0, some (bm enc_u32 u)), (1, some (bm enc_u32 q))]) mo (by kernel_rfl) ?_ ?_
      · skip
        exact dM (vqn (((u.getD (j + b.length) 0) * 1000000000) + (u.getD ((j + b.length) - 1) 0))) rfl rfl rfl <| dM (vl 83 1 enc_u32 v) rfl rfl rfl <| dM (vin b.length) rfl rfl rfl <| dE' (e_sub (r := (((b.length - 1) : Nat) : Int)) rfl rfl rfl (wi64 (by omega) (by omega) (by omega))) rfl rfl <| dE' (e_ixs (j := (b.length - 1)) (cs := (Dat.cells (.val (.int .u32 ((((v.getD (b.length - 1) 0) : Nat) : Int)))))) rfl el22 rfl rfl (by omega) (ixm _ _ _ _ (by omega))) rfl rfl <| dE' (e_lc1 (cs := (Dat.cells (.val (.int .u32 ((((v.getD (b.length - 1) 0) : Nat) : Int)))))) (y := (.val (.int .u32 ((((v.getD (b.length - 1) 0) : Nat) : Int))))) rfl rfl sh83 rfl) rfl rfl <| dE' (e_conv (r := (((v.getD (b.length - 1) 0) : Nat) : Int)) rfl un83 in88 rfl (cu64 (by omega))) rfl rfl <| dE' (e_quo (r := ((((((u.getD (j + b.length) 0) * 1000000000) + (u.getD ((j + b.length) - 1) 0)) / (v.getD (b.length - 1) 0)) : Nat) : Int)) rfl rfl rfl (by omega) (quo_u64 _ _ (by omega))) rfl rfl <| dM (vqn (((u.getD (j + b.length) 0) * 1000000000) + (u.getD ((j + b.length) - 1) 0))) rfl rfl rfl <| dM (vl 83 1 enc_u32 v) rfl rfl rfl <| dM (vin b.length) rfl rfl rfl <| dE' (e_sub (r := (((b.length - 1) : Nat) : Int)) rfl rfl rfl (wi64 (by omega) (by omega) (by omega))) rfl rfl <| dE' (e_ixs (j := (b.length - 1)) (cs := (Dat.cells (.val (.int .u32 ((((v.getD (b.length - 1) 0) : Nat) : Int)))))) rfl el22 rfl rfl (by omega) (ixm _ _ _ _ (by omega))) rfl rfl <| dE' (e_lc1 (cs := (Dat.cells (.val (.int .u32 ((((v.getD (b.length - 1) 0) : Nat) : Int)))))) (y := (.val (.int .u32 ((((v.getD (b.length - 1) 0) : Nat) : Int))))) rfl rfl sh83 rfl) rfl rfl <| dE' (e_conv (r := (((v.getD (b.length - 1) 0) : Nat) : Int)) rfl un83 in88 rfl (cu64 (by omega))) rfl rfl <| dE' (e_rem (r := ((((((u.getD (j + b.length) 0) * 1000000000) + (u.getD ((j + b.length) - 1) 0)) % (v.getD (b.length - 1) 0)) : Nat) : Int)) rfl rfl rfl (by omega) (tmod_nat _ _)) rfl rfl <| dM (vqn ((((u.getD (j + b.length) 0) * 1000000000) + (u.getD ((j + b.length) - 1) 0)) / (v.getD (b.length - 1) 0))) rfl rfl rfl <| dM (vqn ((((u.getD (j + b.length) 0) * 1000000000) + (u.getD ((j + b.length) - 1) 0)) % (v.getD (b.length - 1) 0))) rfl rfl rfl <| dNil rfl rfl (by kernel_rfl)
      refine pwp_seqjoin (α := Nat × Nat) (fun (G, R) => ⟨[(4, (.own 1 83 1 ((u0 ++ [0]).length - b.length))), (6, (vwn (scl b))), (7, (.own 0 83 1 ((u0 ++ [0]).length))), (8, (vl 83 1 enc_u32 v)), (9, (vin b.length)), (10, (vin j)), (12, (vqn G))], [(0, some (bm enc_u32 u)), (1, some (bm enc_u32 q))]⟩) (fun (G, R) => G < 1000000000 ∧ val (u.drop j) / val v ≤ G ∧ G ≤ val (u.drop j) / val v + 1) ?_ ?_
      · skip
        refine pwp_loop (α := Nat × Nat) (fun (G, R) => ⟨[(4, (.own 1 83 1 ((u0 ++ [0]).length - b.length))), (6, (vwn (scl b))), (7, (.own 0 83 1 ((u0 ++ [0]).length))), (8, (vl 83 1 enc_u32 v)), (9, (vin b.length)), (10, (vin j)), (12, (vqn G)), (13, (vqn R))], [(0, some (bm enc_u32 u)), (1, some (bm enc_u32 q))]⟩) (fun (G, R) => G * (v.getD (b.length - 1) 0) + R = (u.getD (j + b.length) 0 * 1000000000 + u.getD (j + b.length - 1) 0) ∧ val (u.drop j) / val v ≤ G ∧ R < 1000000000 ∧ G ≤ 1999999999) (fun (G, R) => G) ((u.getD (j + b.length) 0 * 1000000000 + u.getD (j + b.length - 1) 0) / v.getD (b.length - 1) 0, (u.getD (j + b.length) 0 * 1000000000 + u.getD (j + b.length - 1) 0) % v.getD (b.length - 1) 0) (weak rfl rfl) ⟨by rw [Nat.mul_comm]; exact Nat.div_add_mod _ _, guess_first0 z5 z4 hv1p hg3, Nat.lt_trans (Nat.mod_lt _ hv1p) hg4, guess_top hv1p z1 hg2⟩ ?_
        rintro ⟨G, R⟩ ⟨hG0, hG1, hR, hGb⟩
        have hpq : G * v.getD (b.length - 2) 0 ≤ 1999999999 * 999999999 := Nat.mul_le_mul hGb (by omega)
        refine pwp_seq ?_
        refine pwp_seq ?_
        refine pwp_D (S' := [(4, (.own 1 83 1 ((u0 ++ [0]).length - b.length))), (6, (vwn (scl b))), (7, (.own 0 83 1 ((u0 ++ [0]).length))), (8, (vl 83 1 enc_u32 v)), (9, (vin b.length)), (10, (vin j)), (12, (vqn G)), (13, (vqn R)), (123, (vb (decide (1000000000 ≤ ((G : Nat) : Int)) || decide (((((R * 1000000000) + (u.getD ((j + b.length) - 2) 0)) : Nat) : Int) < (((G * (v.getD (b.length - 2) 0)) : Nat) : Int)))))]) (B' := [(0, some (bm enc_u32 u)), (1, some (bm enc_u32 q))]) mo (by kernel_rfl) ?_ ?_
        · skip
          refine dM (vqn G) rfl rfl rfl <| dE' (e_geq rfl rfl rfl) rfl rfl <| dM (vb (decide (1000000000 ≤ ((G : Nat) : Int)))) rfl rfl rfl <| ?_
          rcases hb3 : (decide (1000000000 ≤ ((G : Nat) : Int))) with _ | _
          · skip
            replace hb3 := of_decide_eq_false hb3
            exact dM (vqn G) rfl rfl rfl <| dM (vl 83 1 enc_u32 v) rfl rfl rfl <| dM (vin b.length) rfl rfl rfl <| dE' (e_sub (r := (((b.length - 2) : Nat) : Int)) rfl rfl rfl (wi64 (by omega) (by omega) (by omega))) rfl rfl <| dE' (e_ixs (j := (b.length - 2)) (cs := (Dat.cells (.val (.int .u32 ((((v.getD (b.length - 2) 0) : Nat) : Int)))))) rfl el22 rfl rfl (by omega) (ixm _ _ _ _ (by omega))) rfl rfl <| dE' (e_lc1 (cs := (Dat.cells (.val (.int .u32 ((((v.getD (b.length - 2) 0) : Nat) : Int)))))) (y := (.val (.int .u32 ((((v.getD (b.length - 2) 0) : Nat) : Int))))) rfl rfl sh83 rfl) rfl rfl <| dE' (e_conv (r := (((v.getD (b.length - 2) 0) : Nat) : Int)) rfl un83 in88 rfl (cu64 (by omega))) rfl rfl <| dE' (e_mul (r := (((G * (v.getD (b.length - 2) 0)) : Nat) : Int)) rfl rfl rfl (wu64 (by omega) (by omega) (by omega))) rfl rfl <| dM (vqn R) rfl rfl rfl <| dE' (e_mul (r := (((R * 1000000000) : Nat) : Int)) rfl rfl rfl (wu64 (by omega) (by omega) (by omega))) rfl rfl <| dM (.own 0 83 1 ((u0 ++ [0]).length)) rfl rfl rfl <| dM (vin j) rfl rfl rfl <| dM (vin b.length) rfl rfl rfl <| dE' (e_add (r := (((j + b.length) : Nat) : Int)) rfl rfl rfl (wi64 (by omega) (by omega) (by omega))) rfl rfl <| dE' (e_sub (r := ((((j + b.length) - 2) : Nat) : Int)) rfl rfl rfl (wi64 (by omega) (by omega) (by omega))) rfl rfl <| dE' (e_ixo (j := ((j + b.length) - 2)) (q := ((j + b.length) - 2)) rfl el22 rfl rfl (by omega) (by omega) (by simp)) rfl rfl <| dR (e_ld1 (cs := (bm enc_u32 u)) (y := (vwn (u.getD ((j + b.length) - 2) 0))) rfl rfl sh83 (own_get _ _ _ _ (by omega))) rfl rfl rfl rfl rfl <| dE' (e_conv (r := (((u.getD ((j + b.length) - 2) 0) : Nat) : Int)) rfl un83 in88 rfl (cu64 (by omega))) rfl rfl <| dE' (e_add (r := ((((R * 1000000000) + (u.getD ((j + b.length) - 2) 0)) : Nat) : Int)) rfl rfl rfl (wu64 (by omega) (by omega) (by omega))) rfl rfl <| dE' (e_gtr rfl rfl rfl) rfl rfl <| dE' (e_pkfo rfl rfl rfl) rfl rfl <| dNil rfl rfl (by kernel_rfl)
          · skip
            replace hb3 := of_decide_eq_true hb3
            exact dK rfl rfl rfl <| dK rfl rfl rfl <| dK rfl rfl rfl <| dK rfl rfl rfl <| dK rfl rfl rfl <| dK rfl rfl rfl <| dK rfl rfl rfl <| dK rfl rfl rfl <| dK rfl rfl rfl <| dK rfl rfl rfl <| dK rfl rfl rfl <| dK rfl rfl rfl <| dK rfl rfl rfl <| dK rfl rfl rfl <| dK rfl rfl rfl <| dK rfl rfl rfl <| dK rfl rfl rfl <| dK rfl rfl rfl <| dK rfl rfl rfl <| dK rfl rfl rfl <| dE' (e_pkt (z := (vb true)) rfl rfl rfl) rfl rfl <| dNil rfl rfl (by kernel_rfl)
        refine pwp_cond (b := (decide (1000000000 ≤ ((G : Nat) : Int)) || decide (((((R * 1000000000) + (u.getD ((j + b.length) - 2) 0)) : Nat) : Int) < (((G * (v.getD (b.length - 2) 0)) : Nat) : Int)))) rfl (fun h4 => ?_) (fun h4 => ?_)
        · skip
          rw [Bool.or_eq_true, decide_eq_true_eq, decide_eq_true_eq] at h4
          have hgl := guess_less (pw_pos _) z5 z4 hG0 hG1 hv1p z2 (by omega)
          refine pwp_skip ?_
          refine pwp_block ?_
          refine pwp_seq ?_
          refine pwp_S (S' := [(4, (.own 1 83 1 ((u0 ++ [0]).length - b.length))), (6, (vwn (scl b))), (7, (.own 0 83 1 ((u0 ++ [0]).length))), (8, (vl 83 1 enc_u32 v)), (9, (vin b.length)), (10, (vin j)), (12, (vqn (G - 1))), (13, (vqn R))]) (B' := [(0, some (bm enc_u32 u)), (1, some (bm enc_u32 q))]) ?_ ?_
          · skip
            exact sM (vqn G) rfl rfl <| sE' (e_sub (r := (((G - 1) : Nat) : Int)) rfl rfl rfl (wu64 (by omega) (by omega) (by omega))) rfl <| sM (vqn (G - 1)) rfl rfl <| sNil rfl rfl
          refine pwp_seq ?_
          refine pwp_S (S' := [(4, (.own 1 83 1 ((u0 ++ [0]).length - b.length))), (6, (vwn (scl b))), (7, (.own 0 83 1 ((u0 ++ [0]).length))), (8, (vl 83 1 enc_u32 v)), (9, (vin b.length)), (10, (vin j)), (12, (vqn (G - 1))), (13, (vqn (R + (v.getD (b.length - 1) 0))))]) (B' := [(0, some (bm enc_u32 u)), (1, some (bm enc_u32 q))]) ?_ ?_
          · skip
            exact sM (vqn R) rfl rfl <| sM (vl 83 1 enc_u32 v) rfl rfl <| sM (vin b.length) rfl rfl <| sE' (e_sub (r := (((b.length - 1) : Nat) : Int)) rfl rfl rfl (wi64 (by omega) (by omega) (by omega))) rfl <| sE' (e_ixs (j := (b.length - 1)) (cs := (Dat.cells (.val (.int .u32 ((((v.getD (b.length - 1) 0) : Nat) : Int)))))) rfl el22 rfl rfl (by omega) (ixm _ _ _ _ (by omega))) rfl <| sE' (e_lc1 (cs := (Dat.cells (.val (.int .u32 ((((v.getD (b.length - 1) 0) : Nat) : Int)))))) (y := (.val (.int .u32 ((((v.getD (b.length - 1) 0) : Nat) : Int))))) rfl rfl sh83 rfl) rfl <| sE' (e_conv (r := (((v.getD (b.length - 1) 0) : Nat) : Int)) rfl un83 in88 rfl (cu64 (by omega))) rfl <| sE' (e_add (r := (((R + (v.getD (b.length - 1) 0)) : Nat) : Int)) rfl rfl rfl (wu64 (by omega) (by omega) (by omega))) rfl <| sM (vqn (R + (v.getD (b.length - 1) 0))) rfl rfl <| sNil rfl rfl
          refine pwp_seq ?_
          refine pwp_S (S' := [(4, (.own 1 83 1 ((u0 ++ [0]).length - b.length))), (6, (vwn (scl b))), (7, (.own 0 83 1 ((u0 ++ [0]).length))), (8, (vl 83 1 enc_u32 v)), (9, (vin b.length)), (10, (vin j)), (12, (vqn (G - 1))), (13, (vqn (R + (v.getD (b.length - 1) 0)))), (135, (vb (decide (1000000000 ≤ (((R + (v.getD (b.length - 1) 0)) : Nat) : Int)))))]) (B' := [(0, some (bm enc_u32 u)), (1, some (bm enc_u32 q))]) ?_ ?_
          · skip
            exact sM (vqn (R + (v.getD (b.length - 1) 0))) rfl rfl <| sE' (e_geq rfl rfl rfl) rfl <| sNil rfl rfl
          refine pwp_cond (b := decide (1000000000 ≤ (((R + (v.getD (b.length - 1) 0)) : Nat) : Int))) rfl (fun h5 => ?_) (fun h5 => ?_)
          · skip
            replace h5 := of_decide_eq_true h5
            refine pwp_exit ?_
            refine pjoin_exit (id := 2) (α := Nat × Nat) (Q := fun _ _ => True) (St := fun (G, R) => ⟨[(4, (.own 1 83 1 ((u0 ++ [0]).length - b.length))), (6, (vwn (scl b))), (7, (.own 0 83 1 ((u0 ++ [0]).length))), (8, (vl 83 1 enc_u32 v)), (9, (vin b.length)), (10, (vin j)), (12, (vqn G))], [(0, some (bm enc_u32 u)), (1, some (bm enc_u32 q))]⟩) (I := fun (G, R) => G < 1000000000 ∧ val (u.drop j) / val v ≤ G ∧ G ≤ val (u.drop j) / val v + 1) ?_
            exact ⟨(G - 1, R + v.getD (b.length - 1) 0), (weak rfl rfl), (by have hd := guess_dec hgl.2 hG0; have hgb := guess_break hd z1 hg2 (by omega); exact ⟨hgb, hgl.1, guess_near z6 z3 hd hv1p (by omega) hgb (Nat.le_trans (Nat.mul_le_mul (show G - 1 ≤ 999999999 by omega) (show v.getD (b.length - 2) 0 ≤ 999999999 by omega)) (by omega))⟩)⟩
          · skip
            replace h5 := of_decide_eq_false h5
            refine pwp_skip ?_
            exact ⟨(G - 1, R + v.getD (b.length - 1) 0), (weak rfl rfl), (by exact ⟨guess_dec hgl.2 hG0, hgl.1, by omega, by omega⟩), (by first | omega | (dsimp only; omega))⟩
        · skip
          refine pwp_exit ?_
          refine pjoin_exit (id := 2) (α := Nat × Nat) (Q := fun _ _ => True) (St := fun (G, R) => ⟨[(4, (.own 1 83 1 ((u0 ++ [0]).length - b.length))), (6, (vwn (scl b))), (7, (.own 0 83 1 ((u0 ++ [0]).length))), (8, (vl 83 1 enc_u32 v)), (9, (vin b.length)), (10, (vin j)), (12, (vqn G))], [(0, some (bm enc_u32 u)), (1, some (bm enc_u32 q))]⟩) (I := fun (G, R) => G < 1000000000 ∧ val (u.drop j) / val v ≤ G ∧ G ≤ val (u.drop j) / val v + 1) ?_
          exact ⟨(G, R), (weak rfl rfl), (by rw [Bool.or_eq_false_iff, decide_eq_false_iff_not, decide_eq_false_iff_not] at h4; exact ⟨by omega, hG1, guess_near z6 z3 hG0 hv1p (by omega) (by omega) (by omega)⟩)⟩
      · rintro ⟨G, R⟩ ⟨hG, hG1, hG2⟩
        have hjn : j + b.length < (u0 ++ [0]).length := by omega
        refine pwp_seq ?_
        refine pwp_S (S' := [(4, (.own 1 83 1 ((u0 ++ [0]).length - b.length))), (6, (vwn (scl b))), (7, (.own 0 83 1 ((u0 ++ [0]).length))), (8, (vl 83 1 enc_u32 v)), (9, (vin b.length)), (10, (vin j)), (12, (vqn G)), (14, (vin 0)), (15, (vqn 0))]) (B' := [(0, some (bm enc_u32 u)), (1, some (bm enc_u32 q))]) ?_ ?_
        · skip
          exact sM (vin 0) rfl rfl <| sM (vqn 0) rfl rfl <| sNil rfl rfl
        refine pwp_seq ?_
        refine pwp_seq ?_
        refine pwp_S (S' := [(4, (.own 1 83 1 ((u0 ++ [0]).length - b.length))), (6, (vwn (scl b))), (7, (.own 0 83 1 ((u0 ++ [0]).length))), (8, (vl 83 1 enc_u32 v)), (9, (vin b.length)), (10, (vin j)), (12, (vqn G)), (14, (vin 0)), (15, (vqn 0)), (136, (vin b.length)), (137, (vin 0))]) (B' := [(0, some (bm enc_u32 u)), (1, some (bm enc_u32 q))]) ?_ ?_
        · skip
          exact sM (vin b.length) rfl rfl <| sM (vin 0) rfl rfl <| sNil rfl rfl
        refine pwp_block ?_
        refine pwp_loop (α := Nat × List Nat × Nat × Nat) (fun (i, u2, bo, ca) => ⟨[(4, (.own 1 83 1 ((u0 ++ [0]).length - b.length))), (6, (vwn (scl b))), (7, (.own 0 83 1 ((u0 ++ [0]).length))), (8, (vl 83 1 enc_u32 v)), (9, (vin b.length)), (10, (vin j)), (12, (vqn G)), (14, (vi ((bo : Nat) : Int))), (15, (vqn ca)), (136, (vin b.length)), (137, (vin i))], [(0, some (bm enc_u32 u2)), (1, some (bm enc_u32 q))]⟩) (fun (i, u2, bo, ca) => u2.length = (u0 ++ [0]).length ∧ Dig u2 ∧ u2.take j = u.take j ∧ u2.drop (j + i) = u.drop (j + i) ∧ i ≤ b.length ∧ bo ≤ 1 ∧ ca < 1000000000 ∧ val ((u2.drop j).take i) + G * val (v.take i) = val ((u.drop j).take i) + pw i * (ca + bo)) (fun (i, u2, bo, ca) => b.length - i) (0, u, 0, 0) (weak rfl rfl) ⟨hlen, hu, rfl, rfl, Nat.zero_le _, Nat.zero_le _, by decide, by simp [val]⟩ ?_
        rintro ⟨i, u2, bo, ca⟩ ⟨hl2, hd2, ht2, hd2', hin, hbo, hca, hv2⟩
        have hgi := hvd.getD i
        have hgu := hd2.getD (i + j)
        have hpq : G * v.getD i 0 ≤ 999999999 * 999999999 := Nat.mul_le_mul (by omega) (by omega)
        refine pwp_seq ?_
        refine pwp_S (S' := [(4, (.own 1 83 1 ((u0 ++ [0]).length - b.length))), (6, (vwn (scl b))), (7, (.own 0 83 1 ((u0 ++ [0]).length))), (8, (vl 83 1 enc_u32 v)), (9, (vin b.length)), (10, (vin j)), (12, (vqn G)), (14, (vi ((bo : Nat) : Int))), (15, (vqn ca)), (136, (vin b.length)), (137, (vin i)), (138, (vb (decide (((i : Nat) : Int) < ((b.length : Nat) : Int)))))]) (B' := [(0, some (bm enc_u32 u2)), (1, some (bm enc_u32 q))]) ?_ ?_
        · skip
          exact sE' (e_lss rfl rfl rfl) rfl <| sNil rfl rfl
        refine pwp_seq ?_
        refine pwp_cond (b := decide (((i : Nat) : Int) < ((b.length : Nat) : Int))) rfl (fun h6 => ?_) (fun h6 => ?_)
        · skip
          replace h6 := of_decide_eq_true h6
          have hi : i < b.length := by omega
          refine pwp_skip ?_
          refine pwp_seq ?_
          refine pwp_block ?_
          refine pwp_seq ?_
          refine pwp_S (S' := [(4, (.own 1 83 1 ((u0 ++ [0]).length - b.length))), (6, (vwn (scl b))), (7, (.own 0 83 1 ((u0 ++ [0]).length))), (8, (vl 83 1 enc_u32 v)), (9, (vin b.length)), (10, (vin j)), (12, (vqn G)), (14, (vi ((bo : Nat) : Int))), (15, (vqn ca)), (16, (vin i)), (136, (vin b.length)), (137, (vin i))]) (B' := [(0, some (bm enc_u32 u2)), (1, some (bm enc_u32 q))]) ?_ ?_
          · skip
            exact sM (vin i) rfl rfl <| sM (vin i) rfl rfl <| sNil rfl rfl
          refine pwp_seq ?_
          refine pwp_S (S' := [(4, (.own 1 83 1 ((u0 ++ [0]).length - b.length))), (6, (vwn (scl b))), (7, (.own 0 83 1 ((u0 ++ [0]).length))), (8, (vl 83 1 enc_u32 v)), (9, (vin b.length)), (10, (vin j)), (12, (vqn G)), (14, (vi ((bo : Nat) : Int))), (16, (vin i)), (17, (vqn ((G * (v.getD i 0)) + ca))), (136, (vin b.length)), (137, (vin i))]) (B' := [(0, some (bm enc_u32 u2)), (1, some (bm enc_u32 q))]) ?_ ?_
          · skip
            exact sM (vqn G) rfl rfl <| sM (vl 83 1 enc_u32 v) rfl rfl <| sM (vin i) rfl rfl <| sE' (e_ixs (j := i) (cs := (Dat.cells (.val (.int .u32 ((((v.getD i 0) : Nat) : Int)))))) rfl el22 rfl rfl (by omega) (ixm _ _ _ _ (by omega))) rfl <| sE' (e_lc1 (cs := (Dat.cells (.val (.int .u32 ((((v.getD i 0) : Nat) : Int)))))) (y := (.val (.int .u32 ((((v.getD i 0) : Nat) : Int))))) rfl rfl sh83 rfl) rfl <| sE' (e_conv (r := (((v.getD i 0) : Nat) : Int)) rfl un83 in88 rfl (cu64 (by omega))) rfl <| sE' (e_mul (r := (((G * (v.getD i 0)) : Nat) : Int)) rfl rfl rfl (wu64 (by omega) (by omega) (by omega))) rfl <| sM (vqn ca) rfl rfl <| sE' (e_add (r := ((((G * (v.getD i 0)) + ca) : Nat) : Int)) rfl rfl rfl (wu64 (by omega) (by omega) (by omega))) rfl <| sM (vqn ((G * (v.getD i 0)) + ca)) rfl rfl <| sNil rfl rfl
          refine pwp_seq ?_
          refine pwp_S (S' := [(4, (.own 1 83 1 ((u0 ++ [0]).length - b.length))), (6, (vwn (scl b))), (7, (.own 0 83 1 ((u0 ++ [0]).length))), (8, (vl 83 1 enc_u32 v)), (9, (vin b.length)), (10, (vin j)), (12, (vqn G)), (14, (vi ((bo : Nat) : Int))), (15, (vqn (((G * (v.getD i 0)) + ca) / 1000000000))), (16, (vin i)), (17, (vqn ((G * (v.getD i 0)) + ca))), (136, (vin b.length)), (137, (vin i))]) (B' := [(0, some (bm enc_u32 u2)), (1, some (bm enc_u32 q))]) ?_ ?_
          · skip
            exact sM (vqn ((G * (v.getD i 0)) + ca)) rfl rfl <| sE' (e_quo (r := (((((G * (v.getD i 0)) + ca) / 1000000000) : Nat) : Int)) rfl rfl rfl (by decide) (quo_u64 _ _ (by omega))) rfl <| sM (vqn (((G * (v.getD i 0)) + ca) / 1000000000)) rfl rfl <| sNil rfl rfl
          refine pwp_seq ?_
          refine pwp_S (S' := [(4, (.own 1 83 1 ((u0 ++ [0]).length - b.length))), (6, (vwn (scl b))), (7, (.own 0 83 1 ((u0 ++ [0]).length))), (8, (vl 83 1 enc_u32 v)), (9, (vin b.length)), (10, (vin j)), (12, (vqn G)), (15, (vqn (((G * (v.getD i 0)) + ca) / 1000000000))), (16, (vin i)), (18, (vi (((((u2.getD (i + j) 0) : Nat) : Int) - ((bo : Nat) : Int)) - (((((G * (v.getD i 0)) + ca) % 1000000000) : Nat) : Int)))), (136, (vin b.length)), (137, (vin i))]) (B' := [(0, some (bm enc_u32 u2)), (1, some (bm enc_u32 q))]) ?_ ?_
          · skip
            exact sM (.own 0 83 1 ((u0 ++ [0]).length)) rfl rfl <| sM (vin i) rfl rfl <| sM (vin j) rfl rfl <| sE' (e_add (r := (((i + j) : Nat) : Int)) rfl rfl rfl (wi64 (by omega) (by omega) (by omega))) rfl <| sE' (e_ixo (j := (i + j)) (q := (i + j)) rfl el22 rfl rfl (by omega) (by omega) (by simp)) rfl <| sR (e_ld1 (cs := (bm enc_u32 u2)) (y := (vwn (u2.getD (i + j) 0))) rfl rfl sh83 (own_get _ _ _ _ (by omega))) rfl rfl rfl rfl <| sE' (e_conv (r := (((u2.getD (i + j) 0) : Nat) : Int)) rfl un83 in2 rfl (ci64 (by omega))) rfl <| sM (vi ((bo : Nat) : Int)) rfl rfl <| sE' (e_sub (r := ((((u2.getD (i + j) 0) : Nat) : Int) - ((bo : Nat) : Int))) rfl rfl rfl (wi64 (by omega) (by omega) (by omega))) rfl <| sM (vqn ((G * (v.getD i 0)) + ca)) rfl rfl <| sE' (e_rem (r := (((((G * (v.getD i 0)) + ca) % 1000000000) : Nat) : Int)) rfl rfl rfl (by decide) (tmod_nat _ _)) rfl <| sE' (e_conv (r := (((((G * (v.getD i 0)) + ca) % 1000000000) : Nat) : Int)) rfl un88 in2 rfl (ci64 (by omega))) rfl <| sE' (e_sub (r := (((((u2.getD (i + j) 0) : Nat) : Int) - ((bo : Nat) : Int)) - (((((G * (v.getD i 0)) + ca) % 1000000000) : Nat) : Int))) rfl rfl rfl (wi64 (by omega) (by omega) (by omega))) rfl <| sM (vi (((((u2.getD (i + j) 0) : Nat) : Int) - ((bo : Nat) : Int)) - (((((G * (v.getD i 0)) + ca) % 1000000000) : Nat) : Int))) rfl rfl <| sNil rfl rfl
          refine pwp_seq ?_
          refine pwp_S (S' := [(4, (.own 1 83 1 ((u0 ++ [0]).length - b.length))), (6, (vwn (scl b))), (7, (.own 0 83 1 ((u0 ++ [0]).length))), (8, (vl 83 1 enc_u32 v)), (9, (vin b.length)), (10, (vin j)), (12, (vqn G)), (14, (vin 0)), (15, (vqn (((G * (v.getD i 0)) + ca) / 1000000000))), (16, (vin i)), (18, (vi (((((u2.getD (i + j) 0) : Nat) : Int) - ((bo : Nat) : Int)) - (((((G * (v.getD i 0)) + ca) % 1000000000) : Nat) : Int)))), (136, (vin b.length)), (137, (vin i))]) (B' := [(0, some (bm enc_u32 u2)), (1, some (bm enc_u32 q))]) ?_ ?_
          · skip
            exact sM (vin 0) rfl rfl <| sNil rfl rfl
          refine pwp_seq ?_
          refine pwp_seq ?_
          refine pwp_S (S' := [(4, (.own 1 83 1 ((u0 ++ [0]).length - b.length))), (6, (vwn (scl b))), (7, (.own 0 83 1 ((u0 ++ [0]).length))), (8, (vl 83 1 enc_u32 v)), (9, (vin b.length)), (10, (vin j)), (12, (vqn G)), (14, (vin 0)), (15, (vqn (((G * (v.getD i 0)) + ca) / 1000000000))), (16, (vin i)), (18, (vi (((((u2.getD (i + j) 0) : Nat) : Int) - ((bo : Nat) : Int)) - (((((G * (v.getD i 0)) + ca) % 1000000000) : Nat) : Int)))), (136, (vin b.length)), (137, (vin i)), (165, (vb (decide ((((((u2.getD (i + j) 0) : Nat) : Int) - ((bo : Nat) : Int)) - (((((G * (v.getD i 0)) + ca) % 1000000000) : Nat) : Int)) < 0))))]) (B' := [(0, some (bm enc_u32 u2)), (1, some (bm enc_u32 q))]) ?_ ?_
          · skip
            exact sM (vi (((((u2.getD (i + j) 0) : Nat) : Int) - ((bo : Nat) : Int)) - (((((G * (v.getD i 0)) + ca) % 1000000000) : Nat) : Int))) rfl rfl <| sE' (e_lss rfl rfl rfl) rfl <| sNil rfl rfl
          refine pwp_cond (b := decide ((((((u2.getD (i + j) 0) : Nat) : Int) - ((bo : Nat) : Int)) - (((((G * (v.getD i 0)) + ca) % 1000000000) : Nat) : Int)) < 0)) rfl (fun h7 => ?_) (fun h7 => ?_)
          · skip
            replace h7 := of_decide_eq_true h7
            refine pwp_S (S' := [(4, (.own 1 83 1 ((u0 ++ [0]).length - b.length))), (6, (vwn (scl b))), (7, (.own 0 83 1 ((u0 ++ [0]).length))), (8, (vl 83 1 enc_u32 v)), (9, (vin b.length)), (10, (vin j)), (12, (vqn G)), (14, (vin 1)), (15, (vqn (((G * (v.getD i 0)) + ca) / 1000000000))), (16, (vin i)), (18, (vi ((((((u2.getD (i + j) 0) : Nat) : Int) - ((bo : Nat) : Int)) - (((((G * (v.getD i 0)) + ca) % 1000000000) : Nat) : Int)) + 1000000000))), (136, (vin b.length)), (137, (vin i))]) (B' := [(0, some (bm enc_u32 u2)), (1, some (bm enc_u32 q))]) ?_ ?_
            · skip
              exact sM (vi (((((u2.getD (i + j) 0) : Nat) : Int) - ((bo : Nat) : Int)) - (((((G * (v.getD i 0)) + ca) % 1000000000) : Nat) : Int))) rfl rfl <| sE' (e_add (r := ((((((u2.getD (i + j) 0) : Nat) : Int) - ((bo : Nat) : Int)) - (((((G * (v.getD i 0)) + ca) % 1000000000) : Nat) : Int)) + 1000000000)) rfl rfl rfl (wi64 (by omega) (by omega) (by omega))) rfl <| sM (vi ((((((u2.getD (i + j) 0) : Nat) : Int) - ((bo : Nat) : Int)) - (((((G * (v.getD i 0)) + ca) % 1000000000) : Nat) : Int)) + 1000000000)) rfl rfl <| sM (vin 1) rfl rfl <| sNil rfl rfl
            refine pwp_S (S' := [(4, (.own 1 83 1 ((u0 ++ [0]).length - b.length))), (6, (vwn (scl b))), (7, (.own 0 83 1 ((u0 ++ [0]).length))), (8, (vl 83 1 enc_u32 v)), (9, (vin b.length)), (10, (vin j)), (12, (vqn G)), (14, (vin 1)), (15, (vqn (((G * (v.getD i 0)) + ca) / 1000000000))), (136, (vin b.length)), (137, (vin i))]) (B' := [(0, some (bm enc_u32 (u2.set (i + j) ((u2.getD (i + j) 0 + 1000000000) - bo - (G * v.getD i 0 + ca) % 1000000000)))), (1, some (bm enc_u32 q))]) ?_ ?_
            · skip
              exact sM (.own 0 83 1 ((u0 ++ [0]).length)) rfl rfl <| sM (vin i) rfl rfl <| sM (vin j) rfl rfl <| sE' (e_add (r := (((i + j) : Nat) : Int)) rfl rfl rfl (wi64 (by omega) (by omega) (by omega))) rfl <| sM (vi ((((((u2.getD (i + j) 0) : Nat) : Int) - ((bo : Nat) : Int)) - (((((G * (v.getD i 0)) + ca) % 1000000000) : Nat) : Int)) + 1000000000)) rfl rfl <| sE' (e_conv (r := ((((u2.getD (i + j) 0 + 1000000000) - bo - (G * v.getD i 0 + ca) % 1000000000) : Nat) : Int)) rfl un2 in83 rfl (wu32 (by omega) (by omega) (by omega))) rfl <| sE' (e_ixo (j := (i + j)) (q := (i + j)) rfl el22 rfl rfl (by omega) (by omega) (by simp)) rfl <| sT (t_st1 (cs := (bm enc_u32 (u2.set (i + j) ((u2.getD (i + j) 0 + 1000000000) - bo - (G * v.getD i 0 + ca) % 1000000000)))) rfl rfl rfl sh83 rfl rfl (own_len _ _ _ (by omega)) (own_set _ _ _ _)) rfl rfl rfl <| sNil rfl rfl
            refine pwp_S (S' := [(4, (.own 1 83 1 ((u0 ++ [0]).length - b.length))), (6, (vwn (scl b))), (7, (.own 0 83 1 ((u0 ++ [0]).length))), (8, (vl 83 1 enc_u32 v)), (9, (vin b.length)), (10, (vin j)), (12, (vqn G)), (14, (vin 1)), (15, (vqn (((G * (v.getD i 0)) + ca) / 1000000000))), (136, (vin b.length)), (137, (vin (i + 1)))]) (B' := [(0, some (bm enc_u32 (u2.set (i + j) ((u2.getD (i + j) 0 + 1000000000) - bo - (G * v.getD i 0 + ca) % 1000000000)))), (1, some (bm enc_u32 q))]) ?_ ?_
            · skip
              exact sE' (e_add (r := (((i + 1) : Nat) : Int)) rfl rfl rfl (wi64 (by omega) (by omega) (by omega))) rfl <| sM (vin (i + 1)) rfl rfl <| sNil rfl rfl
            exact ⟨(i + 1, u2.set (i + j) ((u2.getD (i + j) 0 + 1000000000) - bo - (G * v.getD i 0 + ca) % 1000000000), 1, (G * v.getD i 0 + ca) / 1000000000), (weak rfl rfl), (by obtain ⟨q1, q2, q3, q4, q5⟩ := msub_step (v := v) (L := (u0 ++ [0]).length) (e := (u2.getD (i + j) 0 + 1000000000) - bo - (G * v.getD i 0 + ca) % 1000000000) (borrow' := 1) hjn hi hl2 hlen hd2 ht2 hd2' hv2 rfl (by omega) (by omega); exact ⟨q1, q2, q3, q4, by omega, by omega, by omega, q5⟩), (by first | omega | (dsimp only; omega))⟩
          · skip
            replace h7 := of_decide_eq_false h7
            refine pwp_skip ?_
            refine pwp_S (S' := [(4, (.own 1 83 1 ((u0 ++ [0]).length - b.length))), (6, (vwn (scl b))), (7, (.own 0 83 1 ((u0 ++ [0]).length))), (8, (vl 83 1 enc_u32 v)), (9, (vin b.length)), (10, (vin j)), (12, (vqn G)), (14, (vin 0)), (15, (vqn (((G * (v.getD i 0)) + ca) / 1000000000))), (136, (vin b.length)), (137, (vin i))]) (B' := [(0, some (bm enc_u32 (u2.set (i + j) (u2.getD (i + j) 0 - bo - (G * v.getD i 0 + ca) % 1000000000)))), (1, some (bm enc_u32 q))]) ?_ ?_
            · skip
              exact sM (.own 0 83 1 ((u0 ++ [0]).length)) rfl rfl <| sM (vin i) rfl rfl <| sM (vin j) rfl rfl <| sE' (e_add (r := (((i + j) : Nat) : Int)) rfl rfl rfl (wi64 (by omega) (by omega) (by omega))) rfl <| sM (vi (((((u2.getD (i + j) 0) : Nat) : Int) - ((bo : Nat) : Int)) - (((((G * (v.getD i 0)) + ca) % 1000000000) : Nat) : Int))) rfl rfl <| sE' (e_conv (r := (((u2.getD (i + j) 0 - bo - (G * v.getD i 0 + ca) % 1000000000) : Nat) : Int)) rfl un2 in83 rfl (wu32 (by omega) (by omega) (by omega))) rfl <| sE' (e_ixo (j := (i + j)) (q := (i + j)) rfl el22 rfl rfl (by omega) (by omega) (by simp)) rfl <| sT (t_st1 (cs := (bm enc_u32 (u2.set (i + j) (u2.getD (i + j) 0 - bo - (G * v.getD i 0 + ca) % 1000000000)))) rfl rfl rfl sh83 rfl rfl (own_len _ _ _ (by omega)) (own_set _ _ _ _)) rfl rfl rfl <| sNil rfl rfl
            refine pwp_S (S' := [(4, (.own 1 83 1 ((u0 ++ [0]).length - b.length))), (6, (vwn (scl b))), (7, (.own 0 83 1 ((u0 ++ [0]).length))), (8, (vl 83 1 enc_u32 v)), (9, (vin b.length)), (10, (vin j)), (12, (vqn G)), (14, (vin 0)), (15, (vqn (((G * (v.getD i 0)) + ca) / 1000000000))), (136, (vin b.length)), (137, (vin (i + 1)))]) (B' := [(0, some (bm enc_u32 (u2.set (i + j) (u2.getD (i + j) 0 - bo - (G * v.getD i 0 + ca) % 1000000000)))), (1, some (bm enc_u32 q))]) ?_ ?_
            · skip
              exact sE' (e_add (r := (((i + 1) : Nat) : Int)) rfl rfl rfl (wi64 (by omega) (by omega) (by omega))) rfl <| sM (vin (i + 1)) rfl rfl <| sNil rfl rfl
            exact ⟨(i + 1, u2.set (i + j) (u2.getD (i + j) 0 - bo - (G * v.getD i 0 + ca) % 1000000000), 0, (G * v.getD i 0 + ca) / 1000000000), (weak rfl rfl), (by obtain ⟨q1, q2, q3, q4, q5⟩ := msub_step (v := v) (L := (u0 ++ [0]).length) (e := u2.getD (i + j) 0 - bo - (G * v.getD i 0 + ca) % 1000000000) (borrow' := 0) hjn hi hl2 hlen hd2 ht2 hd2' hv2 rfl (by omega) (by omega); exact ⟨q1, q2, q3, q4, by omega, by omega, by omega, q5⟩), (by first | omega | (dsimp only; omega))⟩
        · skip
          replace h6 := of_decide_eq_false h6
          have hie : i = b.length := by omega
          rw [hie] at hd2' hv2 hin
          obtain ⟨m1, m2, m3⟩ := msub_end hu hd2 hvd hvl hW hG1 hG2 hd2' hv2
          refine pwp_exit ?_
          refine pwp_seq ?_
          refine pwp_S (S' := [(4, (.own 1 83 1 ((u0 ++ [0]).length - b.length))), (6, (vwn (scl b))), (7, (.own 0 83 1 ((u0 ++ [0]).length))), (8, (vl 83 1 enc_u32 v)), (9, (vin b.length)), (10, (vin j)), (12, (vqn G)), (19, (vi (((((u2.getD (j + b.length) 0) : Nat) : Int) - ((bo : Nat) : Int)) - ((ca : Nat) : Int))))]) (B' := [(0, some (bm enc_u32 u2)), (1, some (bm enc_u32 q))]) ?_ ?_
          · skip
            exact sM (.own 0 83 1 ((u0 ++ [0]).length)) rfl rfl <| sM (vin j) rfl rfl <| sM (vin b.length) rfl rfl <| sE' (e_add (r := (((j + b.length) : Nat) : Int)) rfl rfl rfl (wi64 (by omega) (by omega) (by omega))) rfl <| sE' (e_ixo (j := (j + b.length)) (q := (j + b.length)) rfl el22 rfl rfl (by omega) (by omega) (by simp)) rfl <| sR (e_ld1 (cs := (bm enc_u32 u2)) (y := (vwn (u2.getD (j + b.length) 0))) rfl rfl sh83 (own_get _ _ _ _ (by omega))) rfl rfl rfl rfl <| sE' (e_conv (r := (((u2.getD (j + b.length) 0) : Nat) : Int)) rfl un83 in2 rfl (ci64 (by omega))) rfl <| sM (vi ((bo : Nat) : Int)) rfl rfl <| sE' (e_sub (r := ((((u2.getD (j + b.length) 0) : Nat) : Int) - ((bo : Nat) : Int))) rfl rfl rfl (wi64 (by omega) (by omega) (by omega))) rfl <| sM (vqn ca) rfl rfl <| sE' (e_conv (r := ((ca : Nat) : Int)) rfl un88 in2 rfl (ci64 (by omega))) rfl <| sE' (e_sub (r := (((((u2.getD (j + b.length) 0) : Nat) : Int) - ((bo : Nat) : Int)) - ((ca : Nat) : Int))) rfl rfl rfl (wi64 (by omega) (by omega) (by omega))) rfl <| sM (vi (((((u2.getD (j + b.length) 0) : Nat) : Int) - ((bo : Nat) : Int)) - ((ca : Nat) : Int))) rfl rfl <| sNil rfl rfl
          refine pwp_seq ?_
          refine pwp_seq ?_
          refine pwp_S (S' := [(4, (.own 1 83 1 ((u0 ++ [0]).length - b.length))), (6, (vwn (scl b))), (7, (.own 0 83 1 ((u0 ++ [0]).length))), (8, (vl 83 1 enc_u32 v)), (9, (vin b.length)), (10, (vin j)), (12, (vqn G)), (19, (vi (((((u2.getD (j + b.length) 0) : Nat) : Int) - ((bo : Nat) : Int)) - ((ca : Nat) : Int)))), (189, (vb (decide ((((((u2.getD (j + b.length) 0) : Nat) : Int) - ((bo : Nat) : Int)) - ((ca : Nat) : Int)) < 0))))]) (B' := [(0, some (bm enc_u32 u2)), (1, some (bm enc_u32 q))]) ?_ ?_
          · skip
            exact sM (vi (((((u2.getD (j + b.length) 0) : Nat) : Int) - ((bo : Nat) : Int)) - ((ca : Nat) : Int))) rfl rfl <| sE' (e_lss rfl rfl rfl) rfl <| sNil rfl rfl
          refine pwp_cond (b := decide ((((((u2.getD (j + b.length) 0) : Nat) : Int) - ((bo : Nat) : Int)) - ((ca : Nat) : Int)) < 0)) rfl (fun h8 => ?_) (fun h8 => ?_)
          · skip
            replace h8 := of_decide_eq_true h8
            obtain ⟨n1, n2, r, n3, n4, n5⟩ := m2 (by omega)
            refine pwp_seq ?_
            refine pwp_S (S' := [(4, (.own 1 83 1 ((u0 ++ [0]).length - b.length))), (6, (vwn (scl b))), (7, (.own 0 83 1 ((u0 ++ [0]).length))), (8, (vl 83 1 enc_u32 v)), (9, (vin b.length)), (10, (vin j)), (12, (vqn G))]) (B' := [(0, some (bm enc_u32 (u2.set (j + b.length) 999999999))), (1, some (bm enc_u32 q))]) ?_ ?_
            · skip
              exact sM (.own 0 83 1 ((u0 ++ [0]).length)) rfl rfl <| sM (vin j) rfl rfl <| sM (vin b.length) rfl rfl <| sE' (e_add (r := (((j + b.length) : Nat) : Int)) rfl rfl rfl (wi64 (by omega) (by omega) (by omega))) rfl <| sM (vi (((((u2.getD (j + b.length) 0) : Nat) : Int) - ((bo : Nat) : Int)) - ((ca : Nat) : Int))) rfl rfl <| sE' (e_add (r := ((((((u2.getD (j + b.length) 0) : Nat) : Int) - ((bo : Nat) : Int)) - ((ca : Nat) : Int)) + 1000000000)) rfl rfl rfl (wi64 (by omega) (by omega) (by omega))) rfl <| sE' (e_conv (r := ((999999999 : Nat) : Int)) rfl un2 in83 rfl (wu32 (by omega) (by omega) (by omega))) rfl <| sE' (e_ixo (j := (j + b.length)) (q := (j + b.length)) rfl el22 rfl rfl (by omega) (by omega) (by simp)) rfl <| sT (t_st1 (cs := (bm enc_u32 (u2.set (j + b.length) 999999999))) rfl rfl rfl sh83 rfl rfl (own_len _ _ _ (by omega)) (own_set _ _ _ _)) rfl rfl rfl <| sNil rfl rfl
            refine pwp_seq ?_
            refine pwp_S (S' := [(4, (.own 1 83 1 ((u0 ++ [0]).length - b.length))), (6, (vwn (scl b))), (7, (.own 0 83 1 ((u0 ++ [0]).length))), (8, (vl 83 1 enc_u32 v)), (9, (vin b.length)), (10, (vin j)), (12, (vqn (G - 1)))]) (B' := [(0, some (bm enc_u32 (u2.set (j + b.length) 999999999))), (1, some (bm enc_u32 q))]) ?_ ?_
            · skip
              exact sM (vqn G) rfl rfl <| sE' (e_sub (r := (((G - 1) : Nat) : Int)) rfl rfl rfl (wu64 (by omega) (by omega) (by omega))) rfl <| sM (vqn (G - 1)) rfl rfl <| sNil rfl rfl
            refine pwp_seq ?_
            refine pwp_S (S' := [(4, (.own 1 83 1 ((u0 ++ [0]).length - b.length))), (6, (vwn (scl b))), (7, (.own 0 83 1 ((u0 ++ [0]).length))), (8, (vl 83 1 enc_u32 v)), (9, (vin b.length)), (10, (vin j)), (12, (vqn (G - 1))), (20, (vwn 0))]) (B' := [(0, some (bm enc_u32 (u2.set (j + b.length) 999999999))), (1, some (bm enc_u32 q))]) ?_ ?_
            · skip
              exact sM (vwn 0) rfl rfl <| sNil rfl rfl
            refine pwp_seq ?_
            refine pwp_seq ?_
            refine pwp_S (S' := [(4, (.own 1 83 1 ((u0 ++ [0]).length - b.length))), (6, (vwn (scl b))), (7, (.own 0 83 1 ((u0 ++ [0]).length))), (8, (vl 83 1 enc_u32 v)), (9, (vin b.length)), (10, (vin j)), (12, (vqn (G - 1))), (20, (vwn 0)), (200, (vin b.length)), (201, (vin 0))]) (B' := [(0, some (bm enc_u32 (u2.set (j + b.length) 999999999))), (1, some (bm enc_u32 q))]) ?_ ?_
            · skip
              exact sM (vin b.length) rfl rfl <| sM (vin 0) rfl rfl <| sNil rfl rfl
            refine pwp_block ?_
            refine pwp_loop (α := Nat × List Nat × Nat) (fun (i, u3, c) => ⟨[(4, (.own 1 83 1 ((u0 ++ [0]).length - b.length))), (6, (vwn (scl b))), (7, (.own 0 83 1 ((u0 ++ [0]).length))), (8, (vl 83 1 enc_u32 v)), (9, (vin b.length)), (10, (vin j)), (12, (vqn (G - 1))), (20, (vwn c)), (200, (vin b.length)), (201, (vin i))], [(0, some (bm enc_u32 u3)), (1, some (bm enc_u32 q))]⟩) (fun (i, u3, c) => u3.length = (u0 ++ [0]).length ∧ Dig u3 ∧ u3.take j = (u2.set (j + b.length) 999999999).take j ∧ u3.drop (j + i) = (u2.set (j + b.length) 999999999).drop (j + i) ∧ i ≤ b.length ∧ c ≤ 1 ∧ val ((u3.drop j).take i) + pw i * c = val (((u2.set (j + b.length) 999999999).drop j).take i) + val (v.take i)) (fun (i, u3, c) => b.length - i) (0, u2.set (j + b.length) 999999999, 0) (weak rfl rfl) ⟨by simpa using hl2, hd2.set _ (by decide), rfl, rfl, Nat.zero_le _, Nat.zero_le _, by simp [val]⟩ ?_
            rintro ⟨i, u3, c⟩ ⟨hl3, hd3, ht3, hd3', hin, hc, hv3⟩
            have hgi := hvd.getD i
            have hgu := hd3.getD (i + j)
            have hgt := hd3.getD (j + b.length)
            refine pwp_seq ?_
            refine pwp_S (S' := [(4, (.own 1 83 1 ((u0 ++ [0]).length - b.length))), (6, (vwn (scl b))), (7, (.own 0 83 1 ((u0 ++ [0]).length))), (8, (vl 83 1 enc_u32 v)), (9, (vin b.length)), (10, (vin j)), (12, (vqn (G - 1))), (20, (vwn c)), (200, (vin b.length)), (201, (vin i)), (202, (vb (decide (((i : Nat) : Int) < ((b.length : Nat) : Int)))))]) (B' := [(0, some (bm enc_u32 u3)), (1, some (bm enc_u32 q))]) ?_ ?_
            · skip
              exact sE' (e_lss rfl rfl rfl) rfl <| sNil rfl rfl
            refine pwp_seq ?_
            refine pwp_cond (b := decide (((i : Nat) : Int) < ((b.length : Nat) : Int))) rfl (fun h9 => ?_) (fun h9 => ?_)
            · skip
              replace h9 := of_decide_eq_true h9
              have hi : i < b.length := by omega
              refine pwp_skip ?_
              refine pwp_seq ?_
              refine pwp_block ?_
              refine pwp_seq ?_
              refine pwp_S (S' := [(4, (.own 1 83 1 ((u0 ++ [0]).length - b.length))), (6, (vwn (scl b))), (7, (.own 0 83 1 ((u0 ++ [0]).length))), (8, (vl 83 1 enc_u32 v)), (9, (vin b.length)), (10, (vin j)), (12, (vqn (G - 1))), (20, (vwn c)), (21, (vin i)), (200, (vin b.length)), (201, (vin i))]) (B' := [(0, some (bm enc_u32 u3)), (1, some (bm enc_u32 q))]) ?_ ?_
              · skip
                exact sM (vin i) rfl rfl <| sM (vin i) rfl rfl <| sNil rfl rfl
              refine pwp_seq ?_
              refine pwp_D (S' := [(4, (.own 1 83 1 ((u0 ++ [0]).length - b.length))), (6, (vwn (scl b))), (7, (.own 0 83 1 ((u0 ++ [0]).length))), (8, (vl 83 1 enc_u32 v)), (9, (vin b.length)), (10, (vin j)), (12, (vqn (G - 1))), (21, (vin i)), (22, (vwn (((u3.getD (i + j) 0) + (v.getD i 0)) + c))), (200, (vin b.length)), (201, (vin i))]) (B' := [(0, some (bm enc_u32 u3)), (1, some (bm enc_u32 q))]) mo (by kernel_rfl) ?_ ?_
              · skip
                exact dM (.own 0 83 1 ((u0 ++ [0]).length)) rfl rfl rfl <| dM (vin i) rfl rfl rfl <| dM (vin j) rfl rfl rfl <| dE' (e_add (r := (((i + j) : Nat) : Int)) rfl rfl rfl (wi64 (by omega) (by omega) (by omega))) rfl rfl <| dE' (e_ixo (j := (i + j)) (q := (i + j)) rfl el22 rfl rfl (by omega) (by omega) (by simp)) rfl rfl <| dR (e_ld1 (cs := (bm enc_u32 u3)) (y := (vwn (u3.getD (i + j) 0))) rfl rfl sh83 (own_get _ _ _ _ (by omega))) rfl rfl rfl rfl rfl <| dM (vl 83 1 enc_u32 v) rfl rfl rfl <| dM (vin i) rfl rfl rfl <| dE' (e_ixs (j := i) (cs := (Dat.cells (.val (.int .u32 ((((v.getD i 0) : Nat) : Int)))))) rfl el22 rfl rfl (by omega) (ixm _ _ _ _ (by omega))) rfl rfl <| dE' (e_lc1 (cs := (Dat.cells (.val (.int .u32 ((((v.getD i 0) : Nat) : Int)))))) (y := (.val (.int .u32 ((((v.getD i 0) : Nat) : Int))))) rfl rfl sh83 rfl) rfl rfl <| dE' (e_add (r := ((((u3.getD (i + j) 0) + (v.getD i 0)) : Nat) : Int)) rfl rfl rfl (wu32 (by omega) (by omega) (by omega))) rfl rfl <| dM (vwn c) rfl rfl rfl <| dE' (e_add (r := (((((u3.getD (i + j) 0) + (v.getD i 0)) + c) : Nat) : Int)) rfl rfl rfl (wu32 (by omega) (by omega) (by omega))) rfl rfl <| dM (vwn (((u3.getD (i + j) 0) + (v.getD i 0)) + c)) rfl rfl rfl <| dNil rfl rfl (by kernel_rfl)
              refine pwp_seq ?_
              refine pwp_S (S' := [(4, (.own 1 83 1 ((u0 ++ [0]).length - b.length))), (6, (vwn (scl b))), (7, (.own 0 83 1 ((u0 ++ [0]).length))), (8, (vl 83 1 enc_u32 v)), (9, (vin b.length)), (10, (vin j)), (12, (vqn (G - 1))), (20, (vwn 0)), (21, (vin i)), (22, (vwn (((u3.getD (i + j) 0) + (v.getD i 0)) + c))), (200, (vin b.length)), (201, (vin i))]) (B' := [(0, some (bm enc_u32 u3)), (1, some (bm enc_u32 q))]) ?_ ?_
              · skip
                exact sM (vwn 0) rfl rfl <| sNil rfl rfl
              refine pwp_seq ?_
              refine pwp_seq ?_
              refine pwp_S (S' := [(4, (.own 1 83 1 ((u0 ++ [0]).length - b.length))), (6, (vwn (scl b))), (7, (.own 0 83 1 ((u0 ++ [0]).length))), (8, (vl 83 1 enc_u32 v)), (9, (vin b.length)), (10, (vin j)), (12, (vqn (G - 1))), (20, (vwn 0)), (21, (vin i)), (22, (vwn (((u3.getD (i + j) 0) + (v.getD i 0)) + c))), (200, (vin b.length)), (201, (vin i)), (218, (vb (decide (1000000000 ≤ (((((u3.getD (i + j) 0) + (v.getD i 0)) + c) : Nat) : Int)))))]) (B' := [(0, some (bm enc_u32 u3)), (1, some (bm enc_u32 q))]) ?_ ?_
              · skip
                exact sM (vwn (((u3.getD (i + j) 0) + (v.getD i 0)) + c)) rfl rfl <| sE' (e_geq rfl rfl rfl) rfl <| sNil rfl rfl
              refine pwp_cond (b := decide (1000000000 ≤ (((((u3.getD (i + j) 0) + (v.getD i 0)) + c) : Nat) : Int))) rfl (fun h10 => ?_) (fun h10 => ?_)
              · skip
                replace h10 := of_decide_eq_true h10
                refine pwp_S (S' := [(4, (.own 1 83 1 ((u0 ++ [0]).length - b.length))), (6, (vwn (scl b))), (7, (.own 0 83 1 ((u0 ++ [0]).length))), (8, (vl 83 1 enc_u32 v)), (9, (vin b.length)), (10, (vin j)), (12, (vqn (G - 1))), (20, (vwn 1)), (21, (vin i)), (22, (vwn ((((u3.getD (i + j) 0) + (v.getD i 0)) + c) - 1000000000))), (200, (vin b.length)), (201, (vin i))]) (B' := [(0, some (bm enc_u32 u3)), (1, some (bm enc_u32 q))]) ?_ ?_
                · skip
                  exact sM (vwn (((u3.getD (i + j) 0) + (v.getD i 0)) + c)) rfl rfl <| sE' (e_sub (r := ((((((u3.getD (i + j) 0) + (v.getD i 0)) + c) - 1000000000) : Nat) : Int)) rfl rfl rfl (wu32 (by omega) (by omega) (by omega))) rfl <| sM (vwn ((((u3.getD (i + j) 0) + (v.getD i 0)) + c) - 1000000000)) rfl rfl <| sM (vwn 1) rfl rfl <| sNil rfl rfl
                refine pwp_S (S' := [(4, (.own 1 83 1 ((u0 ++ [0]).length - b.length))), (6, (vwn (scl b))), (7, (.own 0 83 1 ((u0 ++ [0]).length))), (8, (vl 83 1 enc_u32 v)), (9, (vin b.length)), (10, (vin j)), (12, (vqn (G - 1))), (20, (vwn 1)), (200, (vin b.length)), (201, (vin i))]) (B' := [(0, some (bm enc_u32 (u3.set (i + j) ((((u3.getD (i + j) 0) + (v.getD i 0)) + c) - 1000000000)))), (1, some (bm enc_u32 q))]) ?_ ?_
                · skip
                  exact sM (.own 0 83 1 ((u0 ++ [0]).length)) rfl rfl <| sM (vin i) rfl rfl <| sM (vin j) rfl rfl <| sE' (e_add (r := (((i + j) : Nat) : Int)) rfl rfl rfl (wi64 (by omega) (by omega) (by omega))) rfl <| sM (vwn ((((u3.getD (i + j) 0) + (v.getD i 0)) + c) - 1000000000)) rfl rfl <| sE' (e_ixo (j := (i + j)) (q := (i + j)) rfl el22 rfl rfl (by omega) (by omega) (by simp)) rfl <| sT (t_st1 (cs := (bm enc_u32 (u3.set (i + j) ((((u3.getD (i + j) 0) + (v.getD i 0)) + c) - 1000000000)))) rfl rfl rfl sh83 rfl rfl (own_len _ _ _ (by omega)) (own_set _ _ _ _)) rfl rfl rfl <| sNil rfl rfl
                refine pwp_S (S' := [(4, (.own 1 83 1 ((u0 ++ [0]).length - b.length))), (6, (vwn (scl b))), (7, (.own 0 83 1 ((u0 ++ [0]).length))), (8, (vl 83 1 enc_u32 v)), (9, (vin b.length)), (10, (vin j)), (12, (vqn (G - 1))), (20, (vwn 1)), (200, (vin b.length)), (201, (vin (i + 1)))]) (B' := [(0, some (bm enc_u32 (u3.set (i + j) ((((u3.getD (i + j) 0) + (v.getD i 0)) + c) - 1000000000)))), (1, some (bm enc_u32 q))]) ?_ ?_
                · skip
                  exact sE' (e_add (r := (((i + 1) : Nat) : Int)) rfl rfl rfl (wi64 (by omega) (by omega) (by omega))) rfl <| sM (vin (i + 1)) rfl rfl <| sNil rfl rfl
                exact ⟨(i + 1, u3.set (i + j) (u3.getD (i + j) 0 + v.getD i 0 + c - 1000000000), 1), (weak rfl rfl), (by obtain ⟨q1, q2, q3, q4, q5⟩ := addb_step (v := v) (L := (u0 ++ [0]).length) (s := u3.getD (i + j) 0 + v.getD i 0 + c) (e := u3.getD (i + j) 0 + v.getD i 0 + c - 1000000000) (c' := 1) hjn hi hl3 (by simpa using hl2) hd3 ht3 hd3' hv3 rfl (by omega) (by omega); exact ⟨q1, q2, q3, q4, by omega, by omega, q5⟩), (by first | omega | (dsimp only; omega))⟩
              · skip
                replace h10 := of_decide_eq_false h10
                refine pwp_skip ?_
                refine pwp_S (S' := [(4, (.own 1 83 1 ((u0 ++ [0]).length - b.length))), (6, (vwn (scl b))), (7, (.own 0 83 1 ((u0 ++ [0]).length))), (8, (vl 83 1 enc_u32 v)), (9, (vin b.length)), (10, (vin j)), (12, (vqn (G - 1))), (20, (vwn 0)), (200, (vin b.length)), (201, (vin i))]) (B' := [(0, some (bm enc_u32 (u3.set (i + j) (((u3.getD (i + j) 0) + (v.getD i 0)) + c)))), (1, some (bm enc_u32 q))]) ?_ ?_
                · skip
                  exact sM (.own 0 83 1 ((u0 ++ [0]).length)) rfl rfl <| sM (vin i) rfl rfl <| sM (vin j) rfl rfl <| sE' (e_add (r := (((i + j) : Nat) : Int)) rfl rfl rfl (wi64 (by omega) (by omega) (by omega))) rfl <| sM (vwn (((u3.getD (i + j) 0) + (v.getD i 0)) + c)) rfl rfl <| sE' (e_ixo (j := (i + j)) (q := (i + j)) rfl el22 rfl rfl (by omega) (by omega) (by simp)) rfl <| sT (t_st1 (cs := (bm enc_u32 (u3.set (i + j) (((u3.getD (i + j) 0) + (v.getD i 0)) + c)))) rfl rfl rfl sh83 rfl rfl (own_len _ _ _ (by omega)) (own_set _ _ _ _)) rfl rfl rfl <| sNil rfl rfl
                refine pwp_S (S' := [(4, (.own 1 83 1 ((u0 ++ [0]).length - b.length))), (6, (vwn (scl b))), (7, (.own 0 83 1 ((u0 ++ [0]).length))), (8, (vl 83 1 enc_u32 v)), (9, (vin b.length)), (10, (vin j)), (12, (vqn (G - 1))), (20, (vwn 0)), (200, (vin b.length)), (201, (vin (i + 1)))]) (B' := [(0, some (bm enc_u32 (u3.set (i + j) (((u3.getD (i + j) 0) + (v.getD i 0)) + c)))), (1, some (bm enc_u32 q))]) ?_ ?_
                · skip
                  exact sE' (e_add (r := (((i + 1) : Nat) : Int)) rfl rfl rfl (wi64 (by omega) (by omega) (by omega))) rfl <| sM (vin (i + 1)) rfl rfl <| sNil rfl rfl
                exact ⟨(i + 1, u3.set (i + j) (u3.getD (i + j) 0 + v.getD i 0 + c), 0), (weak rfl rfl), (by obtain ⟨q1, q2, q3, q4, q5⟩ := addb_step (v := v) (L := (u0 ++ [0]).length) (s := u3.getD (i + j) 0 + v.getD i 0 + c) (e := u3.getD (i + j) 0 + v.getD i 0 + c) (c' := 0) hjn hi hl3 (by simpa using hl2) hd3 ht3 hd3' hv3 rfl (by omega) (by omega); exact ⟨q1, q2, q3, q4, by omega, by omega, q5⟩), (by first | omega | (dsimp only; omega))⟩
            · skip
              replace h9 := of_decide_eq_false h9
              have hie2 : i = b.length := by omega
              rw [hie2] at hd3' hv3 hin
              refine pwp_exit ?_
              refine pwp_S (S' := [(4, (.own 1 83 1 ((u0 ++ [0]).length - b.length))), (6, (vwn (scl b))), (7, (.own 0 83 1 ((u0 ++ [0]).length))), (8, (vl 83 1 enc_u32 v)), (9, (vin b.length)), (10, (vin j)), (12, (vqn (G - 1)))]) (B' := [(0, some (bm enc_u32 (u3.set (j + b.length) (((u3.getD (j + b.length) 0) + c) % 1000000000)))), (1, some (bm enc_u32 q))]) ?_ ?_
              · skip
                exact sM (.own 0 83 1 ((u0 ++ [0]).length)) rfl rfl <| sM (vin j) rfl rfl <| sM (vin b.length) rfl rfl <| sE' (e_add (r := (((j + b.length) : Nat) : Int)) rfl rfl rfl (wi64 (by omega) (by omega) (by omega))) rfl <| sM (.own 0 83 1 ((u0 ++ [0]).length)) rfl rfl <| sM (vin j) rfl rfl <| sM (vin b.length) rfl rfl <| sE' (e_add (r := (((j + b.length) : Nat) : Int)) rfl rfl rfl (wi64 (by omega) (by omega) (by omega))) rfl <| sE' (e_ixo (j := (j + b.length)) (q := (j + b.length)) rfl el22 rfl rfl (by omega) (by omega) (by simp)) rfl <| sR (e_ld1 (cs := (bm enc_u32 u3)) (y := (vwn (u3.getD (j + b.length) 0))) rfl rfl sh83 (own_get _ _ _ _ (by omega))) rfl rfl rfl rfl <| sM (vwn c) rfl rfl <| sE' (e_add (r := ((((u3.getD (j + b.length) 0) + c) : Nat) : Int)) rfl rfl rfl (wu32 (by omega) (by omega) (by omega))) rfl <| sE' (e_rem (r := (((((u3.getD (j + b.length) 0) + c) % 1000000000) : Nat) : Int)) rfl rfl rfl (by decide) (tmod_nat _ _)) rfl <| sE' (e_ixo (j := (j + b.length)) (q := (j + b.length)) rfl el22 rfl rfl (by omega) (by omega) (by simp)) rfl <| sT (t_st1 (cs := (bm enc_u32 (u3.set (j + b.length) (((u3.getD (j + b.length) 0) + c) % 1000000000)))) rfl rfl rfl sh83 rfl rfl (own_len _ _ _ (by omega)) (own_set _ _ _ _)) rfl rfl rfl <| sNil rfl rfl
              refine pwp_S (S' := [(4, (.own 1 83 1 ((u0 ++ [0]).length - b.length))), (6, (vwn (scl b))), (7, (.own 0 83 1 ((u0 ++ [0]).length))), (8, (vl 83 1 enc_u32 v)), (9, (vin b.length)), (10, (vin j))]) (B' := [(0, some (bm enc_u32 (u3.set (j + b.length) (((u3.getD (j + b.length) 0) + c) % 1000000000)))), (1, some (bm enc_u32 (q.set j (G - 1))))]) ?_ ?_
              · skip
                exact sM (.own 1 83 1 ((u0 ++ [0]).length - b.length)) rfl rfl <| sM (vin j) rfl rfl <| sM (vqn (G - 1)) rfl rfl <| sE' (e_conv (r := (((G - 1) : Nat) : Int)) rfl un88 in83 rfl (cu32 (by omega))) rfl <| sE' (e_ixo (j := j) (q := j) rfl el22 rfl rfl (by omega) (by omega) (by simp)) rfl <| sT (t_st1 (cs := (bm enc_u32 (q.set j (G - 1)))) rfl rfl rfl sh83 rfl rfl (own_len _ _ _ (by omega)) (own_set _ _ _ _)) rfl rfl rfl <| sNil rfl rfl
              refine pwp_S (S' := [(4, (.own 1 83 1 ((u0 ++ [0]).length - b.length))), (6, (vwn (scl b))), (7, (.own 0 83 1 ((u0 ++ [0]).length))), (8, (vl 83 1 enc_u32 v)), (9, (vin b.length)), (10, (vi (((j : Nat) : Int) - 1)))]) (B' := [(0, some (bm enc_u32 (u3.set (j + b.length) (((u3.getD (j + b.length) 0) + c) % 1000000000)))), (1, some (bm enc_u32 (q.set j (G - 1))))]) ?_ ?_
              · skip
                exact sM (vin j) rfl rfl <| sE' (e_sub (r := (((j : Nat) : Int) - 1)) rfl rfl rfl (wi64 (by omega) (by omega) (by omega))) rfl <| sM (vi (((j : Nat) : Int) - 1)) rfl rfl <| sNil rfl rfl
              exact ⟨(j, u3.set (j + b.length) ((u3.getD (j + b.length) 0 + c) % 1000000000), q.set j (G - 1)), (weak rfl rfl), (by obtain ⟨p1, p2⟩ := neg_end hd3 hvd hvl (by omega) (by omega) (hl2.trans hlen.symm) (hl3.trans hlen.symm) ht2 hd2' hW hc ht3 hd3' hv3 n3 n4 n5 hU; exact ⟨by simpa using hl3, hd3.set _ (Nat.mod_lt _ (by decide)), by simpa using hql, hqd.set _ (by omega), by omega, p1, p2⟩), (by first | omega | (dsimp only; omega))⟩
          · skip
            replace h8 := of_decide_eq_false h8
            obtain ⟨n1, n2, n3⟩ := m3 (by omega)
            refine pwp_S (S' := [(4, (.own 1 83 1 ((u0 ++ [0]).length - b.length))), (6, (vwn (scl b))), (7, (.own 0 83 1 ((u0 ++ [0]).length))), (8, (vl 83 1 enc_u32 v)), (9, (vin b.length)), (10, (vin j)), (12, (vqn G))]) (B' := [(0, some (bm enc_u32 (u2.set (j + b.length) 0))), (1, some (bm enc_u32 q))]) ?_ ?_
            · skip
              exact sM (.own 0 83 1 ((u0 ++ [0]).length)) rfl rfl <| sM (vin j) rfl rfl <| sM (vin b.length) rfl rfl <| sE' (e_add (r := (((j + b.length) : Nat) : Int)) rfl rfl rfl (wi64 (by omega) (by omega) (by omega))) rfl <| sM (vi (((((u2.getD (j + b.length) 0) : Nat) : Int) - ((bo : Nat) : Int)) - ((ca : Nat) : Int))) rfl rfl <| sE' (e_conv (r := ((0 : Nat) : Int)) rfl un2 in83 rfl (wu32 (by omega) (by omega) (by omega))) rfl <| sE' (e_ixo (j := (j + b.length)) (q := (j + b.length)) rfl el22 rfl rfl (by omega) (by omega) (by simp)) rfl <| sT (t_st1 (cs := (bm enc_u32 (u2.set (j + b.length) 0))) rfl rfl rfl sh83 rfl rfl (own_len _ _ _ (by omega)) (own_set _ _ _ _)) rfl rfl rfl <| sNil rfl rfl
            refine pwp_S (S' := [(4, (.own 1 83 1 ((u0 ++ [0]).length - b.length))), (6, (vwn (scl b))), (7, (.own 0 83 1 ((u0 ++ [0]).length))), (8, (vl 83 1 enc_u32 v)), (9, (vin b.length)), (10, (vin j))]) (B' := [(0, some (bm enc_u32 (u2.set (j + b.length) 0))), (1, some (bm enc_u32 (q.set j G)))]) ?_ ?_
            · skip
              exact sM (.own 1 83 1 ((u0 ++ [0]).length - b.length)) rfl rfl <| sM (vin j) rfl rfl <| sM (vqn G) rfl rfl <| sE' (e_conv (r := ((G : Nat) : Int)) rfl un88 in83 rfl (cu32 (by omega))) rfl <| sE' (e_ixo (j := j) (q := j) rfl el22 rfl rfl (by omega) (by omega) (by simp)) rfl <| sT (t_st1 (cs := (bm enc_u32 (q.set j G))) rfl rfl rfl sh83 rfl rfl (own_len _ _ _ (by omega)) (own_set _ _ _ _)) rfl rfl rfl <| sNil rfl rfl
            refine pwp_S (S' := [(4, (.own 1 83 1 ((u0 ++ [0]).length - b.length))), (6, (vwn (scl b))), (7, (.own 0 83 1 ((u0 ++ [0]).length))), (8, (vl 83 1 enc_u32 v)), (9, (vin b.length)), (10, (vi (((j : Nat) : Int) - 1)))]) (B' := [(0, some (bm enc_u32 (u2.set (j + b.length) 0))), (1, some (bm enc_u32 (q.set j G)))]) ?_ ?_
            · skip
              exact sM (vin j) rfl rfl <| sE' (e_sub (r := (((j : Nat) : Int) - 1)) rfl rfl rfl (wi64 (by omega) (by omega) (by omega))) rfl <| sM (vi (((j : Nat) : Int) - 1)) rfl rfl <| sNil rfl rfl
            exact ⟨(j, u2.set (j + b.length) 0, q.set j G), (weak rfl rfl), (by obtain ⟨p1, p2⟩ := pos_end hu hvd hvl (by omega) (by omega) (hl2.trans hlen.symm) ht2 hd2' hW n2 n3 hU; exact ⟨by simpa using hl2, hd2.set _ (by decide), by simpa using hql, hqd.set _ (by omega), by omega, p1, p2⟩), (by first | omega | (dsimp only; omega))⟩
    · skip
      replace h2 := of_decide_eq_false h2
      obtain rfl : k = 0 := by omega
      obtain ⟨e1, e2⟩ := scl_div hdb (by omega) (by rw [hvv] at hU; exact hU) (by rw [hvv] at hW; exact hW)
      rw [List.drop_zero] at hW
      refine pwp_exit ?_
      refine pwp_seq ?_
      refine pwp_sim (publish (t := 7) (k := 0) (es := List.map enc_u32 u) rfl rfl (pub_cells _ _ (fun _ => rfl)) (map_len _ _ hlen) (pub_take _ _ (fun _ => rfl) hlen)) ?_
      refine pwp_sim (weak (l := [(4, (.own 1 83 1 ((u0 ++ [0]).length - b.length))), (6, (vwn (scl b))), (7, (vl 83 1 enc_u32 u)), (8, (vl 83 1 enc_u32 v)), (9, (vin b.length))]) (b := [(1, some (bm enc_u32 q))]) rfl rfl) ?_
      refine pwp_S (S' := [(4, (.own 1 83 1 ((u0 ++ [0]).length - b.length))), (5, (vl 83 1 enc_u32 (ofNat (val (ofNat (val (List.take b.length u))) / (scl b)))))]) (B' := [(1, some (bm enc_u32 q))]) ?_ ?_
      · skip
        exact sM (vl 83 1 enc_u32 u) rfl rfl <| sM (vin b.length) rfl rfl <| sE' (e_slc (l := 0) (h := b.length) (kl := .i64) (kh := .i64) (es' := List.map enc_u32 (List.take b.length u)) rfl el22 rfl rfl rfl (Nat.zero_le _) (by simp only [List.length_map]; omega) (by rw [List.drop_zero, List.map_take])) rfl <| sE' (e_cl (t_trim (List.take b.length u) (hu.take _) (by rw [List.length_take]; omega)) rfl rfl rfl) rfl <| sM (vwn (scl b)) rfl rfl <| sE' (e_cl (t_short (ofNat (val (List.take b.length u))) (scl b) (ofNat_dig _) (by omega) (by omega) (Nat.le_trans (ofNat_val_len (hu.take _)) (by rw [List.length_take]; omega))) rfl rfl rfl) rfl <| sM (.d (.tup [(.sl 83 1 (List.map enc_u32 (ofNat (val (ofNat (val (List.take b.length u))) / (scl b))))), (.val (.int .u32 ((((val (ofNat (val (List.take b.length u))) % (scl b)) : Nat) : Int))))])) rfl rfl <| sE' (e_exD (d := (.sl 83 1 (List.map enc_u32 (ofNat (val (ofNat (val (List.take b.length u))) / (scl b)))))) rfl rfl rfl) rfl <| sE' (e_exD (d := (.val (.int .u32 ((((val (ofNat (val (List.take b.length u))) % (scl b)) : Nat) : Int))))) rfl rfl rfl) rfl <| sM (vl 83 1 enc_u32 (ofNat (val (ofNat (val (List.take b.length u))) / (scl b)))) rfl rfl <| sNil rfl rfl
      refine pwp_seq ?_
      refine pwp_sim (publish (t := 4) (k := 1) (es := List.map enc_u32 q) rfl rfl (pub_cells _ _ (fun _ => rfl)) (map_len _ _ hql) (pub_take _ _ (fun _ => rfl) hql)) ?_
      refine pwp_sim (weak (l := [(4, (vl 83 1 enc_u32 q)), (5, (vl 83 1 enc_u32 (ofNat (val (ofNat (val (List.take b.length u))) / (scl b)))))]) (b := []) rfl rfl) ?_
      refine pwp_S (S' := [(4, (vl 83 1 enc_u32 (ofNat (val q)))), (5, (vl 83 1 enc_u32 (ofNat (val (ofNat (val (List.take b.length u))) / (scl b)))))]) (B' := []) ?_ ?_
      · skip
        exact sM (vl 83 1 enc_u32 q) rfl rfl <| sE' (e_cl (t_trim q hqd (by omega)) rfl rfl rfl) rfl <| sM (vl 83 1 enc_u32 (ofNat (val (ofNat (val (List.take b.length u))) / (scl b)))) rfl rfl <| sM (vl 83 1 enc_u32 (ofNat (val q))) rfl rfl <| sM (vl 83 1 enc_u32 (ofNat (val (ofNat (val (List.take b.length u))) / (scl b)))) rfl rfl <| sNil rfl rfl
      refine pwp_ret ⟨_, (.tmp (d := (.sl 83 1 (List.map enc_u32 (ofNat (val q))))) rfl (.tmp (d := (.sl 83 1 (List.map enc_u32 (ofNat (val (ofNat (val (List.take b.length u))) / (scl b)))))) rfl .nil)), ?_⟩
      rw [← e1, ← e2, ofNat_val, val_take_of_lt (Nat.lt_trans hW (by rw [← hvl]; exact val_lt hvd))]; rfl
end Go.Proofs.YtcdgmcfkhkikbaaGreat
