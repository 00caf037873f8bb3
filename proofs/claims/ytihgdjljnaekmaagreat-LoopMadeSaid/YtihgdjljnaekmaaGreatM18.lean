/- Part 18 of a proof: rules, plain facts, and functions walked. -/
import Derived.Test.YtihgdjljnaekmaaGreatM17
namespace Go.Proofs.YtihgdjljnaekmaaGreat
open Go.Fid
set_option maxRecDepth 4000
set_option linter.unusedVariables false
set_option linter.unusedSimpArgs false
theorem cb197 : callB Tryz.prog 197 = true := by kernel_rfl
theorem in2 : intB Tryz.prog 2 = some .i64 := by kernel_rfl
theorem un2 : (Tryz.prog.underlying 2).isSome = true := by kernel_rfl
set_option maxHeartbeats 4000000 in
theorem t_long (a b : List Nat) (hda : Cano a) (hdb : Cano b) (hb2 : 2 ≤ b.length) (hba : val b ≤ val a) (hla : a.length ≤ 1099511627776) : Takes Tryz.prog 197 [(.sl 135 1 (List.map enc_u32 a)), (.sl 135 1 (List.map enc_u32 b))] (.tup [(.sl 135 1 (List.map enc_u32 (ofNat (val a / val b)))), (.sl 135 1 (List.map enc_u32 (ofNat (val a % val b))))]) := by
  have hab := len_of_le hda hdb hba
  have hsc := scl_bound hdb (by omega)
  have htp := top_pos hdb (by omega)
  have hds : Dig [scl b] := dig_cons.2 ⟨by omega, dig_nil⟩
  have hbp : 0 < val b := by have := val_top hdb.1 (by omega); have h2 := Nat.mul_le_mul_right (pw (b.length - 1)) htp.1; have h3 := pw_pos (b.length - 1); rw [Nat.succ_mul] at h2; omega
  obtain ⟨u0, hue⟩ : ∃ u0, u0 = ofNat (val a * val [scl b]) := ⟨_, rfl⟩
  obtain ⟨v, hve⟩ : ∃ v, v = ofNat (val b * val [scl b]) := ⟨_, rfl⟩
  have hu0 : Dig u0 := by rw [hue]; exact ofNat_dig _
  have hvd : Dig v := by rw [hve]; exact ofNat_dig _
  have hvl : v.length = b.length := by rw [hve, val_one]; exact scl_len hdb (by omega)
  have hvv : val v = val b * scl b := by rw [hve, val_one]; exact ofNat_val _
  have hu0v : val u0 = val a * scl b := by rw [hue, val_one]; exact ofNat_val _
  have hu0l : a.length ≤ u0.length ∧ u0.length ≤ a.length + 1 := by rw [hue, val_one]; exact scl_lenA hda hdb (by omega)
  have hLU : (u0 ++ [0]).length = u0.length + 1 := by simp
  have hcv : Cano v := by rw [hve]; exact ofNat_can _
  have hv1p : 0 < v.getD (b.length - 1) 0 := by rw [← hvl]; exact (top_pos hcv (by omega)).1
  have hpv : pw (b.length - 1) ≤ val v := by have h1 := val_top hvd (by omega); rw [hvl] at h1; have h2 := Nat.mul_le_mul_right (pw (b.length - 1)) hv1p; omega
  refine fn_intro Tryz.func197 rfl cb197 rfl ?_
  show PWp _ _ _ _ ⟨[(0, (vl 135 1 enc_u32 a)), (1, (vl 135 1 enc_u32 b))], []⟩
  refine pwp_seq <| kx [] [] (zE (oNl 135 1) <| zE (oNl 135 1) <| zZ) ?_
  refine pwp_seq <| kx [(6, (vwn (scl b)))] [] (zM <| zM <| zE (oLm el47) <| zE (oSb (b.length - 1)) <| zE (oXl el47 (b.length - 1) (0 : Nat)) <| zE (oC1 sh135) <| zE (oCv un135 in180 (b.getD (b.length - 1) 0)) <| zE (oAd ((b.getD (b.length - 1) 0) + 1)) <| zE (oQu (scl b) (hr := by exact (quo_u64 1000000000 (b.getD (b.length - 1) 0 + 1) (by decide)))) <| zE (oCv un180 in135 (scl b)) <| zM <| zZ) ?_
  refine pwp_seq <| kx [(7, (.own 0 135 1 u0.length))] [(0, some (bm enc_u32 u0))] (zM <| zM <| zE (oBs el47 ze135 zo135) <| zN (oCo 0 (hue ▸ o_times a [scl b] hda.1 hds (by omega) (by simp) (by rw [val_one]; exact Nat.mul_pos (by omega) hsc.1))) <| zM <| zZ) ?_
  refine pwp_seq <| kx [(8, (vl 135 1 enc_u32 v))] [] (zM <| zM <| zE (oBs el47 ze135 zo135) <| zE (oCl (hve ▸ t_times b [scl b] hdb.1 hds (by omega) (by simp))) <| zM <| zZ) ?_
  refine pwp_seq <| kx [(9, (vin b.length))] [] (zM <| zE (oLn el47 b.length (hr := by exact (by simp [hvl]))) <| zM <| zZ) ?_
  refine pwp_seq <| kf [(7, (.own 0 135 1 ((u0 ++ [0]).length)))] [(0, some (bm enc_u32 (u0 ++ [0])))] (zM <| zE (oBs el47 ze135 zo135) <| zA enc_u32 u0 [0] rfl el47 ze135 by135 <| zM <| zF) ?_
  refine pwp_seq <| pwp_seq <| kx [(50, (vb (decide ((((u0 ++ [0]).length : Nat) : Int) ≤ ((a.length : Nat) : Int)))))] [] (zM <| zE (oLo el47) <| zM <| zE (oLm el47) <| zE oLe <| zZ) ?_
  refine pwp_cond rfl (fun h1 => ?_) (fun h1 => ?_)
  · replace h1 := of_decide_eq_true h1
    exfalso; simp at h1; omega
  · replace h1 := of_decide_eq_false h1
    refine pwp_skip <| pwp_seq <| kx [(4, (.own 1 135 1 ((u0 ++ [0]).length - b.length)))] [(1, some (bm enc_u32 (List.replicate ((u0 ++ [0]).length - b.length) 0)))] (zM <| zE (oLo el47) <| zM <| zE (oSb ((u0 ++ [0]).length - b.length)) <| zH (oMk 1 enc_u32 (0 : Nat) ((u0 ++ [0]).length - b.length) ((u0 ++ [0]).length - b.length) el47 ze135 zo135 by135) <| zM <| zZ) ?_
    refine pwp_seq <| pwp_seq <| kx [(10, (vi ((((u0 ++ [0]).length - b.length : Nat) : Int) - 1)))] [] (zM <| zE (oLo el47) <| zM <| zE (oSb ((u0 ++ [0]).length - b.length)) <| zE (zSb ((((u0 ++ [0]).length - b.length : Nat) : Int) - 1)) <| zM <| zZ) ?_
    refine pwp_block <| pwp_loop (α := Nat × List Nat × List Nat) (fun (k, u, q) => ⟨[(4, (.own 1 135 1 ((u0 ++ [0]).length - b.length))), (6, (vwn (scl b))), (7, (.own 0 135 1 ((u0 ++ [0]).length))), (8, (vl 135 1 enc_u32 v)), (9, (vin b.length)), (10, (vi (((k : Nat) : Int) - 1)))], [(0, some (bm enc_u32 u)), (1, some (bm enc_u32 q))]⟩) (fun (k, u, q) => u.length = (u0 ++ [0]).length ∧ Dig u ∧ q.length = (u0 ++ [0]).length - b.length ∧ Dig q ∧ k ≤ (u0 ++ [0]).length - b.length ∧ val u + val v * (pw k * val (q.drop k)) = val a * scl b ∧ val (u.drop k) < val v) (fun (k, u, q) => k) ((u0 ++ [0]).length - b.length, u0 ++ [0], List.replicate ((u0 ++ [0]).length - b.length) 0) wk ⟨rfl, dig_append.2 ⟨hu0, dig_cons.2 ⟨by decide, dig_nil⟩⟩, by simp, dig_replicate _, Nat.le_refl _, by simp [val_append, val, hu0v], by have := long_start hu0 hvl hb2 (by omega) hpv; rw [hLU]; exact this⟩ ?_
    rintro ⟨k, u, q⟩ ⟨hlen, hu, hql, hqd, hk, hU, hW⟩
    refine pwp_seq <| pwp_seq <| kx [(65, (vb (decide (0 ≤ (((k : Nat) : Int) - 1)))))] [] (zM <| zE oGe <| zZ) ?_
    refine pwp_cond (b := decide (0 ≤ (((k : Nat) : Int) - 1))) rfl (fun h2 => ?_) (fun h2 => ?_)
    · replace h2 := of_decide_eq_true h2
      obtain ⟨j, rfl⟩ : ∃ j, k = j + 1 := ⟨k - 1, by omega⟩
      rw [show (((j + 1 : Nat) : Int) - 1) = ((j : Nat) : Int) from by omega]
      have hg1 := hu.getD (j + b.length)
      have hg2 := hu.getD (j + b.length - 1)
      have hg3 := hu.getD (j + b.length - 2)
      have hg4 := hvd.getD (b.length - 1)
      have hg5 := hvd.getD (b.length - 2)
      obtain ⟨z1, z2, z3, z4, z5, z6⟩ := window_tops hu hvd hvl hb2 hW
      obtain ⟨hwz, hww⟩ := window hvd hvl hW
      refine pwp_skip <| pwp_seq <| pwp_block <| pwp_seq <| kd [(10, (vin j)), (11, (vqn (((u.getD (j + b.length) 0) * 1000000000) + (u.getD ((j + b.length) - 1) 0))))] [] mo (wM <| wM <| wM <| wE (oAd (j + b.length)) <| wR ⟨(bm enc_u32 u), e_clo (t_at u (j + b.length)) (by exact rfl) (by exact rfl) (by exact rfl) (.o (.d .nil)) (pub_cells enc_u32 u (fun _ => rfl)) (map_len _ _ hlen) (pub_take _ _ (fun _ => rfl) hlen), by kernel_rfl⟩ <| wE (oCv un135 in180 (u.getD (j + b.length) 0)) <| wE (oMl ((u.getD (j + b.length) 0) * 1000000000)) <| wM <| wM <| wM <| wE (oAd (j + b.length)) <| wE (oSb ((j + b.length) - 1)) <| wE (oXo el47 ((j + b.length) - 1)) <| wR (oLp sh135 ((j + b.length) - 1) (0 : Nat)) <| wE (oCv un135 in180 (u.getD ((j + b.length) - 1) 0)) <| wE (oAd (((u.getD (j + b.length) 0) * 1000000000) + (u.getD ((j + b.length) - 1) 0))) <| wM <| wZ) ?_
      refine pwp_seq <| kd [(12, (vqn ((((u.getD (j + b.length) 0) * 1000000000) + (u.getD ((j + b.length) - 1) 0)) / (v.getD (b.length - 1) 0)))), (13, (vqn ((((u.getD (j + b.length) 0) * 1000000000) + (u.getD ((j + b.length) - 1) 0)) % (v.getD (b.length - 1) 0))))] [] mo (wM <| wM <| wM <| wE (oSb (b.length - 1)) <| wE (oXl el47 (b.length - 1) (0 : Nat)) <| wE (oC1 sh135) <| wE (oCv un135 in180 (v.getD (b.length - 1) 0)) <| wE (oQu ((((u.getD (j + b.length) 0) * 1000000000) + (u.getD ((j + b.length) - 1) 0)) / (v.getD (b.length - 1) 0))) <| wM <| wM <| wM <| wE (oSb (b.length - 1)) <| wE (oXl el47 (b.length - 1) (0 : Nat)) <| wE (oC1 sh135) <| wE (oCv un135 in180 (v.getD (b.length - 1) 0)) <| wE (oRe ((((u.getD (j + b.length) 0) * 1000000000) + (u.getD ((j + b.length) - 1) 0)) % (v.getD (b.length - 1) 0))) <| wM <| wM <| wZ) ?_
      refine pwp_seqjoin (α := Nat × Nat) (fun (G, R) => ⟨[(4, (.own 1 135 1 ((u0 ++ [0]).length - b.length))), (6, (vwn (scl b))), (7, (.own 0 135 1 ((u0 ++ [0]).length))), (8, (vl 135 1 enc_u32 v)), (9, (vin b.length)), (10, (vin j)), (12, (vqn G))], [(0, some (bm enc_u32 u)), (1, some (bm enc_u32 q))]⟩) (fun (G, R) => G < 1000000000 ∧ val (u.drop j) / val v ≤ G ∧ G ≤ val (u.drop j) / val v + 1) ?_ ?_
      · refine pwp_loop (α := Nat × Nat) (fun (G, R) => ⟨[(4, (.own 1 135 1 ((u0 ++ [0]).length - b.length))), (6, (vwn (scl b))), (7, (.own 0 135 1 ((u0 ++ [0]).length))), (8, (vl 135 1 enc_u32 v)), (9, (vin b.length)), (10, (vin j)), (12, (vqn G)), (13, (vqn R))], [(0, some (bm enc_u32 u)), (1, some (bm enc_u32 q))]⟩) (fun (G, R) => G * (v.getD (b.length - 1) 0) + R = (u.getD (j + b.length) 0 * 1000000000 + u.getD (j + b.length - 1) 0) ∧ val (u.drop j) / val v ≤ G ∧ R < 1000000000 ∧ G ≤ 1999999999) (fun (G, R) => G) ((u.getD (j + b.length) 0 * 1000000000 + u.getD (j + b.length - 1) 0) / v.getD (b.length - 1) 0, (u.getD (j + b.length) 0 * 1000000000 + u.getD (j + b.length - 1) 0) % v.getD (b.length - 1) 0) wk ⟨by rw [Nat.mul_comm]; exact Nat.div_add_mod _ _, guess_first0 z5 z4 hv1p hg3, Nat.lt_trans (Nat.mod_lt _ hv1p) hg4, guess_top hv1p z1 hg2⟩ ?_
        rintro ⟨G, R⟩ ⟨hG0, hG1, hR, hGb⟩
        have hpq : G * v.getD (b.length - 2) 0 ≤ 1999999999 * 999999999 := Nat.mul_le_mul hGb (by omega)
        refine pwp_seq <| pwp_seq <| kd [(123, (vb (decide (1000000000 ≤ ((G : Nat) : Int)) || decide (((((R * 1000000000) + (u.getD ((j + b.length) - 2) 0)) : Nat) : Int) < (((G * (v.getD (b.length - 2) 0)) : Nat) : Int)))))] [] mo ?_ ?_
        · refine wM <| wE oGe <| wE (oV (vb (decide (1000000000 ≤ ((G : Nat) : Int)))) (mv_ok (by kernel_rfl))) <| ?_
          rcases hb3 : (decide (1000000000 ≤ ((G : Nat) : Int))) with _ | _
          · replace hb3 := of_decide_eq_false hb3
            exact wM <| wM <| wM <| wE (oSb (b.length - 2)) <| wE (oXl el47 (b.length - 2) (0 : Nat)) <| wE (oC1 sh135) <| wE (oCv un135 in180 (v.getD (b.length - 2) 0)) <| wE (oMl (G * (v.getD (b.length - 2) 0))) <| wM <| wE (oMl (R * 1000000000)) <| wM <| wM <| wM <| wE (oAd (j + b.length)) <| wE (oSb ((j + b.length) - 2)) <| wE (oXo el47 ((j + b.length) - 2)) <| wR (oLp sh135 ((j + b.length) - 2) (0 : Nat)) <| wE (oCv un135 in180 (u.getD ((j + b.length) - 2) 0)) <| wE (oAd ((R * 1000000000) + (u.getD ((j + b.length) - 2) 0))) <| wE oGt <| wE oPo <| wZ
          · replace hb3 := of_decide_eq_true hb3
            exact wK <| wK <| wK <| wK <| wK <| wK <| wK <| wK <| wK <| wK <| wK <| wK <| wK <| wK <| wK <| wK <| wK <| wK <| wK <| wK <| wE oPt <| wZ
        refine pwp_cond rfl (fun h4 => ?_) (fun h4 => ?_)
        · rw [Bool.or_eq_true, decide_eq_true_eq, decide_eq_true_eq] at h4
          have hgl := guess_less (pw_pos _) z5 z4 hG0 hG1 hv1p z2 (by omega)
          refine pwp_skip <| pwp_block <| pwp_seq <| kx [(12, (vqn (G - 1)))] [] (zM <| zE (oSb (G - 1)) <| zM <| zZ) ?_
          refine pwp_seq <| kx [(13, (vqn (R + (v.getD (b.length - 1) 0))))] [] (zM <| zM <| zM <| zE (oSb (b.length - 1)) <| zE (oXl el47 (b.length - 1) (0 : Nat)) <| zE (oC1 sh135) <| zE (oCv un135 in180 (v.getD (b.length - 1) 0)) <| zE (oAd (R + (v.getD (b.length - 1) 0))) <| zM <| zZ) ?_
          refine pwp_seq <| kx [(135, (vb (decide (1000000000 ≤ (((R + (v.getD (b.length - 1) 0)) : Nat) : Int)))))] [] (zM <| zE oGe <| zZ) ?_
          refine pwp_cond rfl (fun h5 => ?_) (fun h5 => ?_)
          · replace h5 := of_decide_eq_true h5
            refine pwp_exit ?_
            refine pjoin_exit (id := 2) (α := Nat × Nat) (Q := fun _ _ => True) (St := fun (G, R) => ⟨[(4, (.own 1 135 1 ((u0 ++ [0]).length - b.length))), (6, (vwn (scl b))), (7, (.own 0 135 1 ((u0 ++ [0]).length))), (8, (vl 135 1 enc_u32 v)), (9, (vin b.length)), (10, (vin j)), (12, (vqn G))], [(0, some (bm enc_u32 u)), (1, some (bm enc_u32 q))]⟩) (I := fun (G, R) => G < 1000000000 ∧ val (u.drop j) / val v ≤ G ∧ G ≤ val (u.drop j) / val v + 1) ?_
            exact ⟨(G - 1, R + v.getD (b.length - 1) 0), wk, (by have hd := guess_dec hgl.2 hG0; have hgb := guess_break hd z1 hg2 (by omega); exact ⟨hgb, hgl.1, guess_near z6 z3 hd hv1p (by omega) hgb (Nat.le_trans (Nat.mul_le_mul (show G - 1 ≤ 999999999 by omega) (show v.getD (b.length - 2) 0 ≤ 999999999 by omega)) (by omega))⟩)⟩
          · replace h5 := of_decide_eq_false h5
            refine pwp_skip ?_
            exact ⟨(G - 1, R + v.getD (b.length - 1) 0), wk, (by exact ⟨guess_dec hgl.2 hG0, hgl.1, by omega, by omega⟩), (by first | omega | (dsimp only; omega))⟩
        · refine pwp_exit ?_
          refine pjoin_exit (id := 2) (α := Nat × Nat) (Q := fun _ _ => True) (St := fun (G, R) => ⟨[(4, (.own 1 135 1 ((u0 ++ [0]).length - b.length))), (6, (vwn (scl b))), (7, (.own 0 135 1 ((u0 ++ [0]).length))), (8, (vl 135 1 enc_u32 v)), (9, (vin b.length)), (10, (vin j)), (12, (vqn G))], [(0, some (bm enc_u32 u)), (1, some (bm enc_u32 q))]⟩) (I := fun (G, R) => G < 1000000000 ∧ val (u.drop j) / val v ≤ G ∧ G ≤ val (u.drop j) / val v + 1) ?_
          exact ⟨(G, R), wk, (by rw [Bool.or_eq_false_iff, decide_eq_false_iff_not, decide_eq_false_iff_not] at h4; exact ⟨by omega, hG1, guess_near z6 z3 hG0 hv1p (by omega) (by omega) (by omega)⟩)⟩
      · rintro ⟨G, R⟩ ⟨hG, hG1, hG2⟩
        have hjn : j + b.length < (u0 ++ [0]).length := by omega
        refine pwp_seq <| kx [(14, (vin 0)), (15, (vqn 0))] [] (zM <| zM <| zZ) ?_
        refine pwp_seq <| pwp_seq <| kx [(136, (vin b.length)), (137, (vin 0))] [] (zM <| zM <| zZ) ?_
        refine pwp_block <| pwp_loop (α := Nat × List Nat × Nat × Nat) (fun (i, u2, bo, ca) => ⟨[(4, (.own 1 135 1 ((u0 ++ [0]).length - b.length))), (6, (vwn (scl b))), (7, (.own 0 135 1 ((u0 ++ [0]).length))), (8, (vl 135 1 enc_u32 v)), (9, (vin b.length)), (10, (vin j)), (12, (vqn G)), (14, (vi ((bo : Nat) : Int))), (15, (vqn ca)), (136, (vin b.length)), (137, (vin i))], [(0, some (bm enc_u32 u2)), (1, some (bm enc_u32 q))]⟩) (fun (i, u2, bo, ca) => u2.length = (u0 ++ [0]).length ∧ Dig u2 ∧ u2.take j = u.take j ∧ u2.drop (j + i) = u.drop (j + i) ∧ i ≤ b.length ∧ bo ≤ 1 ∧ ca < 1000000000 ∧ val ((u2.drop j).take i) + G * val (v.take i) = val ((u.drop j).take i) + pw i * (ca + bo)) (fun (i, u2, bo, ca) => b.length - i) (0, u, 0, 0) wk ⟨hlen, hu, rfl, rfl, Nat.zero_le _, Nat.zero_le _, by decide, by simp [val]⟩ ?_
        rintro ⟨i, u2, bo, ca⟩ ⟨hl2, hd2, ht2, hd2', hin, hbo, hca, hv2⟩
        have hgi := hvd.getD i
        have hgu := hd2.getD (i + j)
        have hpq : G * v.getD i 0 ≤ 999999999 * 999999999 := Nat.mul_le_mul (by omega) (by omega)
        refine pwp_seq <| kx [(138, (vb (decide (((i : Nat) : Int) < ((b.length : Nat) : Int)))))] [] (zE oLt <| zZ) ?_
        refine pwp_seq <| pwp_cond rfl (fun h6 => ?_) (fun h6 => ?_)
        · replace h6 := of_decide_eq_true h6
          have hi : i < b.length := by omega
          refine pwp_skip <| pwp_seq <| pwp_block <| pwp_seq <| kx [(16, (vin i))] [] (zM <| zM <| zZ) ?_
          refine pwp_seq <| kx [(17, (vqn ((G * (v.getD i 0)) + ca)))] [] (zM <| zM <| zM <| zE (oXl el47 i (0 : Nat)) <| zE (oC1 sh135) <| zE (oCv un135 in180 (v.getD i 0)) <| zE (oMl (G * (v.getD i 0))) <| zM <| zE (oAd ((G * (v.getD i 0)) + ca)) <| zM <| zZ) ?_
          refine pwp_seq <| kx [(15, (vqn (((G * (v.getD i 0)) + ca) / 1000000000)))] [] (zM <| zE (oQu (((G * (v.getD i 0)) + ca) / 1000000000)) <| zM <| zZ) ?_
          refine pwp_seq <| kx [(18, (vi (((((u2.getD (i + j) 0) : Nat) : Int) - ((bo : Nat) : Int)) - (((((G * (v.getD i 0)) + ca) % 1000000000) : Nat) : Int))))] [] (zM <| zM <| zM <| zE (oAd (i + j)) <| zE (oXo el47 (i + j)) <| zR (oLp sh135 (i + j) (0 : Nat)) <| zE (oCv un135 in2 (u2.getD (i + j) 0)) <| zM <| zE (zSb ((((u2.getD (i + j) 0) : Nat) : Int) - ((bo : Nat) : Int))) <| zM <| zE (oRe (((G * (v.getD i 0)) + ca) % 1000000000)) <| zE (oCv un180 in2 (((G * (v.getD i 0)) + ca) % 1000000000)) <| zE (zSb (((((u2.getD (i + j) 0) : Nat) : Int) - ((bo : Nat) : Int)) - (((((G * (v.getD i 0)) + ca) % 1000000000) : Nat) : Int))) <| zM <| zZ) ?_
          refine pwp_seq <| kx [(14, (vin 0))] [] (zM <| zZ) ?_
          refine pwp_seq <| pwp_seq <| kx [(165, (vb (decide ((((((u2.getD (i + j) 0) : Nat) : Int) - ((bo : Nat) : Int)) - (((((G * (v.getD i 0)) + ca) % 1000000000) : Nat) : Int)) < 0))))] [] (zM <| zE oLt <| zZ) ?_
          refine pwp_cond rfl (fun h7 => ?_) (fun h7 => ?_)
          · replace h7 := of_decide_eq_true h7
            refine kx [(14, (vin 1)), (18, (vi ((((((u2.getD (i + j) 0) : Nat) : Int) - ((bo : Nat) : Int)) - (((((G * (v.getD i 0)) + ca) % 1000000000) : Nat) : Int)) + 1000000000)))] [] (zM <| zE (zAd ((((((u2.getD (i + j) 0) : Nat) : Int) - ((bo : Nat) : Int)) - (((((G * (v.getD i 0)) + ca) % 1000000000) : Nat) : Int)) + 1000000000)) <| zM <| zM <| zZ) ?_
            refine kx [] [(0, some (bm enc_u32 (u2.set (i + j) ((u2.getD (i + j) 0 + 1000000000) - bo - (G * v.getD i 0 + ca) % 1000000000))))] (zM <| zM <| zM <| zE (oAd (i + j)) <| zM <| zE (oCv un2 in135 ((u2.getD (i + j) 0 + 1000000000) - bo - (G * v.getD i 0 + ca) % 1000000000) (hr := by exact (wu32 (by omega) (by omega) (by omega)))) <| zE (oXo el47 (i + j)) <| zT (oSp sh135 (i + j) ((u2.getD (i + j) 0 + 1000000000) - bo - (G * v.getD i 0 + ca) % 1000000000)) <| zZ) ?_
            refine kx [(137, (vin (i + 1)))] [] (zE (oAd (i + 1)) <| zM <| zZ) ?_
            exact ⟨(i + 1, u2.set (i + j) ((u2.getD (i + j) 0 + 1000000000) - bo - (G * v.getD i 0 + ca) % 1000000000), 1, (G * v.getD i 0 + ca) / 1000000000), wk, (by obtain ⟨q1, q2, q3, q4, q5⟩ := msub_step (v := v) (L := (u0 ++ [0]).length) (e := (u2.getD (i + j) 0 + 1000000000) - bo - (G * v.getD i 0 + ca) % 1000000000) (borrow' := 1) hjn hi hl2 hlen hd2 ht2 hd2' hv2 rfl (by omega) (by omega); exact ⟨q1, q2, q3, q4, by omega, by omega, by omega, q5⟩), (by first | omega | (dsimp only; omega))⟩
          · replace h7 := of_decide_eq_false h7
            refine pwp_skip <| kx [] [(0, some (bm enc_u32 (u2.set (i + j) (u2.getD (i + j) 0 - bo - (G * v.getD i 0 + ca) % 1000000000))))] (zM <| zM <| zM <| zE (oAd (i + j)) <| zM <| zE (oCv un2 in135 (u2.getD (i + j) 0 - bo - (G * v.getD i 0 + ca) % 1000000000) (hr := by exact (wu32 (by omega) (by omega) (by omega)))) <| zE (oXo el47 (i + j)) <| zT (oSp sh135 (i + j) (u2.getD (i + j) 0 - bo - (G * v.getD i 0 + ca) % 1000000000)) <| zZ) ?_
            refine kx [(137, (vin (i + 1)))] [] (zE (oAd (i + 1)) <| zM <| zZ) ?_
            exact ⟨(i + 1, u2.set (i + j) (u2.getD (i + j) 0 - bo - (G * v.getD i 0 + ca) % 1000000000), 0, (G * v.getD i 0 + ca) / 1000000000), wk, (by obtain ⟨q1, q2, q3, q4, q5⟩ := msub_step (v := v) (L := (u0 ++ [0]).length) (e := u2.getD (i + j) 0 - bo - (G * v.getD i 0 + ca) % 1000000000) (borrow' := 0) hjn hi hl2 hlen hd2 ht2 hd2' hv2 rfl (by omega) (by omega); exact ⟨q1, q2, q3, q4, by omega, by omega, by omega, q5⟩), (by first | omega | (dsimp only; omega))⟩
        · replace h6 := of_decide_eq_false h6
          have hie : i = b.length := by omega
          rw [hie] at hd2' hv2 hin
          obtain ⟨m1, m2, m3⟩ := msub_end hu hd2 hvd hvl hW hG1 hG2 hd2' hv2
          refine pwp_exit <| pwp_seq <| kx [(19, (vi (((((u2.getD (j + b.length) 0) : Nat) : Int) - ((bo : Nat) : Int)) - ((ca : Nat) : Int))))] [] (zM <| zM <| zM <| zE (oAd (j + b.length)) <| zE (oXo el47 (j + b.length)) <| zR (oLp sh135 (j + b.length) (0 : Nat)) <| zE (oCv un135 in2 (u2.getD (j + b.length) 0)) <| zM <| zE (zSb ((((u2.getD (j + b.length) 0) : Nat) : Int) - ((bo : Nat) : Int))) <| zM <| zE (oCv un180 in2 ca) <| zE (zSb (((((u2.getD (j + b.length) 0) : Nat) : Int) - ((bo : Nat) : Int)) - ((ca : Nat) : Int))) <| zM <| zZ) ?_
          refine pwp_seq <| pwp_seq <| kx [(189, (vb (decide ((((((u2.getD (j + b.length) 0) : Nat) : Int) - ((bo : Nat) : Int)) - ((ca : Nat) : Int)) < 0))))] [] (zM <| zE oLt <| zZ) ?_
          refine pwp_cond rfl (fun h8 => ?_) (fun h8 => ?_)
          · replace h8 := of_decide_eq_true h8
            obtain ⟨n1, n2, r, n3, n4, n5⟩ := m2 (by omega)
            refine pwp_seq <| kx [] [(0, some (bm enc_u32 (u2.set (j + b.length) 999999999)))] (zM <| zM <| zM <| zE (oAd (j + b.length)) <| zM <| zE (zAd ((((((u2.getD (j + b.length) 0) : Nat) : Int) - ((bo : Nat) : Int)) - ((ca : Nat) : Int)) + 1000000000)) <| zE (oCv un2 in135 999999999 (hr := by exact (wu32 (by omega) (by omega) (by omega)))) <| zE (oXo el47 (j + b.length)) <| zT (oSp sh135 (j + b.length) 999999999) <| zZ) ?_
            refine pwp_seq <| kx [(12, (vqn (G - 1)))] [] (zM <| zE (oSb (G - 1)) <| zM <| zZ) ?_
            refine pwp_seq <| kx [(20, (vwn 0))] [] (zM <| zZ) ?_
            refine pwp_seq <| pwp_seq <| kx [(200, (vin b.length)), (201, (vin 0))] [] (zM <| zM <| zZ) ?_
            refine pwp_block <| pwp_loop (α := Nat × List Nat × Nat) (fun (i, u3, c) => ⟨[(4, (.own 1 135 1 ((u0 ++ [0]).length - b.length))), (6, (vwn (scl b))), (7, (.own 0 135 1 ((u0 ++ [0]).length))), (8, (vl 135 1 enc_u32 v)), (9, (vin b.length)), (10, (vin j)), (12, (vqn (G - 1))), (20, (vwn c)), (200, (vin b.length)), (201, (vin i))], [(0, some (bm enc_u32 u3)), (1, some (bm enc_u32 q))]⟩) (fun (i, u3, c) => u3.length = (u0 ++ [0]).length ∧ Dig u3 ∧ u3.take j = (u2.set (j + b.length) 999999999).take j ∧ u3.drop (j + i) = (u2.set (j + b.length) 999999999).drop (j + i) ∧ i ≤ b.length ∧ c ≤ 1 ∧ val ((u3.drop j).take i) + pw i * c = val (((u2.set (j + b.length) 999999999).drop j).take i) + val (v.take i)) (fun (i, u3, c) => b.length - i) (0, u2.set (j + b.length) 999999999, 0) wk ⟨by simpa using hl2, hd2.set _ (by decide), rfl, rfl, Nat.zero_le _, Nat.zero_le _, by simp [val]⟩ ?_
            rintro ⟨i, u3, c⟩ ⟨hl3, hd3, ht3, hd3', hin, hc, hv3⟩
            have hgi := hvd.getD i
            have hgu := hd3.getD (i + j)
            have hgt := hd3.getD (j + b.length)
            refine pwp_seq <| kx [(202, (vb (decide (((i : Nat) : Int) < ((b.length : Nat) : Int)))))] [] (zE oLt <| zZ) ?_
            refine pwp_seq <| pwp_cond rfl (fun h9 => ?_) (fun h9 => ?_)
            · replace h9 := of_decide_eq_true h9
              have hi : i < b.length := by omega
              refine pwp_skip <| pwp_seq <| pwp_block <| pwp_seq <| kx [(21, (vin i))] [] (zM <| zM <| zZ) ?_
              refine pwp_seq <| kd [(22, (vwn (((u3.getD (i + j) 0) + (v.getD i 0)) + c)))] [] mo (wM <| wM <| wM <| wE (oAd (i + j)) <| wE (oXo el47 (i + j)) <| wR (oLp sh135 (i + j) (0 : Nat)) <| wM <| wM <| wE (oXl el47 i (0 : Nat)) <| wE (oC1 sh135) <| wE (oAd ((u3.getD (i + j) 0) + (v.getD i 0))) <| wM <| wE (oAd (((u3.getD (i + j) 0) + (v.getD i 0)) + c)) <| wM <| wZ) ?_
              refine pwp_seq <| kx [(20, (vwn 0))] [] (zM <| zZ) ?_
              refine pwp_seq <| pwp_seq <| kx [(218, (vb (decide (1000000000 ≤ (((((u3.getD (i + j) 0) + (v.getD i 0)) + c) : Nat) : Int)))))] [] (zM <| zE oGe <| zZ) ?_
              refine pwp_cond rfl (fun h10 => ?_) (fun h10 => ?_)
              · replace h10 := of_decide_eq_true h10
                refine kx [(20, (vwn 1)), (22, (vwn ((((u3.getD (i + j) 0) + (v.getD i 0)) + c) - 1000000000)))] [] (zM <| zE (oSb ((((u3.getD (i + j) 0) + (v.getD i 0)) + c) - 1000000000)) <| zM <| zM <| zZ) ?_
                refine kx [] [(0, some (bm enc_u32 (u3.set (i + j) ((((u3.getD (i + j) 0) + (v.getD i 0)) + c) - 1000000000))))] (zM <| zM <| zM <| zE (oAd (i + j)) <| zM <| zE (oXo el47 (i + j)) <| zT (oSp sh135 (i + j) ((((u3.getD (i + j) 0) + (v.getD i 0)) + c) - 1000000000)) <| zZ) ?_
                refine kx [(201, (vin (i + 1)))] [] (zE (oAd (i + 1)) <| zM <| zZ) ?_
                exact ⟨(i + 1, u3.set (i + j) (u3.getD (i + j) 0 + v.getD i 0 + c - 1000000000), 1), wk, (by obtain ⟨q1, q2, q3, q4, q5⟩ := addb_step (v := v) (L := (u0 ++ [0]).length) (s := u3.getD (i + j) 0 + v.getD i 0 + c) (e := u3.getD (i + j) 0 + v.getD i 0 + c - 1000000000) (c' := 1) hjn hi hl3 (by simpa using hl2) hd3 ht3 hd3' hv3 rfl (by omega) (by omega); exact ⟨q1, q2, q3, q4, by omega, by omega, q5⟩), (by first | omega | (dsimp only; omega))⟩
              · replace h10 := of_decide_eq_false h10
                refine pwp_skip <| kx [] [(0, some (bm enc_u32 (u3.set (i + j) (((u3.getD (i + j) 0) + (v.getD i 0)) + c))))] (zM <| zM <| zM <| zE (oAd (i + j)) <| zM <| zE (oXo el47 (i + j)) <| zT (oSp sh135 (i + j) (((u3.getD (i + j) 0) + (v.getD i 0)) + c)) <| zZ) ?_
                refine kx [(201, (vin (i + 1)))] [] (zE (oAd (i + 1)) <| zM <| zZ) ?_
                exact ⟨(i + 1, u3.set (i + j) (u3.getD (i + j) 0 + v.getD i 0 + c), 0), wk, (by obtain ⟨q1, q2, q3, q4, q5⟩ := addb_step (v := v) (L := (u0 ++ [0]).length) (s := u3.getD (i + j) 0 + v.getD i 0 + c) (e := u3.getD (i + j) 0 + v.getD i 0 + c) (c' := 0) hjn hi hl3 (by simpa using hl2) hd3 ht3 hd3' hv3 rfl (by omega) (by omega); exact ⟨q1, q2, q3, q4, by omega, by omega, q5⟩), (by first | omega | (dsimp only; omega))⟩
            · replace h9 := of_decide_eq_false h9
              have hie2 : i = b.length := by omega
              rw [hie2] at hd3' hv3 hin
              refine pwp_exit <| kx [] [(0, some (bm enc_u32 (u3.set (j + b.length) (((u3.getD (j + b.length) 0) + c) % 1000000000))))] (zM <| zM <| zM <| zE (oAd (j + b.length)) <| zM <| zM <| zM <| zE (oAd (j + b.length)) <| zE (oXo el47 (j + b.length)) <| zR (oLp sh135 (j + b.length) (0 : Nat)) <| zM <| zE (oAd ((u3.getD (j + b.length) 0) + c)) <| zE (oRe (((u3.getD (j + b.length) 0) + c) % 1000000000)) <| zE (oXo el47 (j + b.length)) <| zT (oSp sh135 (j + b.length) (((u3.getD (j + b.length) 0) + c) % 1000000000)) <| zZ) ?_
              refine kx [] [(1, some (bm enc_u32 (q.set j (G - 1))))] (zM <| zM <| zM <| zE (oCv un180 in135 (G - 1)) <| zE (oXo el47 j) <| zT (oSp sh135 j (G - 1)) <| zZ) ?_
              refine kx [(10, (vi (((j : Nat) : Int) - 1)))] [] (zM <| zE (zSb (((j : Nat) : Int) - 1)) <| zM <| zZ) ?_
              exact ⟨(j, u3.set (j + b.length) ((u3.getD (j + b.length) 0 + c) % 1000000000), q.set j (G - 1)), wk, (by obtain ⟨p1, p2⟩ := neg_end hd3 hvd hvl (by omega) (by omega) (hl2.trans hlen.symm) (hl3.trans hlen.symm) ht2 hd2' hW hc ht3 hd3' hv3 n3 n4 n5 hU; exact ⟨by simpa using hl3, hd3.set _ (Nat.mod_lt _ (by decide)), by simpa using hql, hqd.set _ (by omega), by omega, p1, p2⟩), (by first | omega | (dsimp only; omega))⟩
          · replace h8 := of_decide_eq_false h8
            obtain ⟨n1, n2, n3⟩ := m3 (by omega)
            refine kx [] [(0, some (bm enc_u32 (u2.set (j + b.length) 0)))] (zM <| zM <| zM <| zE (oAd (j + b.length)) <| zM <| zE (oCv un2 in135 0 (hr := by exact (wu32 (by omega) (by omega) (by omega)))) <| zE (oXo el47 (j + b.length)) <| zT (oSp sh135 (j + b.length) 0) <| zZ) ?_
            refine kx [] [(1, some (bm enc_u32 (q.set j G)))] (zM <| zM <| zM <| zE (oCv un180 in135 G) <| zE (oXo el47 j) <| zT (oSp sh135 j G) <| zZ) ?_
            refine kx [(10, (vi (((j : Nat) : Int) - 1)))] [] (zM <| zE (zSb (((j : Nat) : Int) - 1)) <| zM <| zZ) ?_
            exact ⟨(j, u2.set (j + b.length) 0, q.set j G), wk, (by obtain ⟨p1, p2⟩ := pos_end hu hvd hvl (by omega) (by omega) (hl2.trans hlen.symm) ht2 hd2' hW n2 n3 hU; exact ⟨by simpa using hl2, hd2.set _ (by decide), by simpa using hql, hqd.set _ (by omega), by omega, p1, p2⟩), (by first | omega | (dsimp only; omega))⟩
    · replace h2 := of_decide_eq_false h2
      obtain rfl : k = 0 := by omega
      obtain ⟨e1, e2⟩ := scl_div hdb (by omega) (by rw [hvv] at hU; exact hU) (by rw [hvv] at hW; exact hW)
      rw [List.drop_zero] at hW
      refine pwp_exit <| pwp_seq <| pwp_sim (publish (t := 7) (k := 0) (es := List.map enc_u32 u) rfl rfl (pub_cells _ _ (fun _ => rfl)) (map_len _ _ hlen) (pub_take _ _ (fun _ => rfl) hlen)) ?_
      refine kx [(5, (vl 135 1 enc_u32 (ofNat (val (ofNat (val (List.take b.length u))) / (scl b)))))] [] (zM <| zM <| zE (e_slc (l := 0) (h := b.length) (kl := .i64) (kh := .i64) (es' := List.map enc_u32 (List.take b.length u)) (by exact rfl) el47 (by exact rfl) (by exact rfl) (by exact rfl) (Nat.zero_le _) (by simp only [List.length_map]; omega) (by rw [List.drop_zero, List.map_take])) <| zE (oCl (t_trim (List.take b.length u) (hu.take _) (by rw [List.length_take]; omega))) <| zM <| zE (oCl (t_short (ofNat (val (List.take b.length u))) (scl b) (ofNat_dig _) (by omega) (by omega) (Nat.le_trans (ofNat_val_len (hu.take _)) (by rw [List.length_take]; omega)))) <| zM <| zE oEx <| zE oEx <| zM <| zZ) ?_
      refine pwp_seq <| pwp_sim (publish (t := 4) (k := 1) (es := List.map enc_u32 q) rfl rfl (pub_cells _ _ (fun _ => rfl)) (map_len _ _ hql) (pub_take _ _ (fun _ => rfl) hql)) ?_
      refine kx [(4, (vl 135 1 enc_u32 (ofNat (val q)))), (5, (vl 135 1 enc_u32 (ofNat (val (ofNat (val (List.take b.length u))) / (scl b)))))] [] (zM <| zE (oCl (t_trim q hqd (by omega))) <| zM <| zM <| zM <| zZ) ?_
      refine pwp_ret ⟨_, (.tmp (d := (.sl 135 1 (List.map enc_u32 (ofNat (val q))))) rfl (.tmp (d := (.sl 135 1 (List.map enc_u32 (ofNat (val (ofNat (val (List.take b.length u))) / (scl b)))))) rfl .nil)), ?_⟩
      rw [← e1, ← e2, ofNat_val, val_take_of_lt (Nat.lt_trans hW (by rw [← hvl]; exact val_lt hvd))]; rfl
end Go.Proofs.YtihgdjljnaekmaaGreat
namespace Go.Proofs.YtihgdjljnaekmaaGreat
open Go.Fid
set_option maxRecDepth 4000
set_option linter.unusedVariables false
set_option linter.unusedSimpArgs false
theorem cb141 : callB Tryz.prog 141 = true := by kernel_rfl
theorem cb174 : callB Tryz.prog 174 = true := by kernel_rfl
theorem cb178 : callB Tryz.prog 178 = true := by kernel_rfl
theorem t_over (a b : List Nat) (ha : Cano a) (hb : Cano b) (hb0 : 0 < val b) (hla : a.length ≤ 1099511627776) (hlb : b.length ≤ 1099511627776) : Takes Tryz.prog 174 [(.sl 135 1 (List.map enc_u32 a)), (.sl 135 1 (List.map enc_u32 b))] (.tup [(.sl 135 1 (List.map enc_u32 (ofNat (val a / val b)))), (.sl 135 1 (List.map enc_u32 (ofNat (val a % val b))))]) := by
  refine fn_intro Tryz.func174 rfl cb174 rfl ?_
  show PWp _ _ _ _ ⟨[(0, (vl 135 1 enc_u32 a)), (1, (vl 135 1 enc_u32 b))], []⟩
  refine pwp_seq <| kx [] [] (zE (oNl 135 1) <| zE (oNl 135 1) <| zZ) ?_
  refine pwp_seq <| pwp_seq <| kx [(15, (vb (decide ((cmpI ((val a : Nat) : Int) ((val b : Nat) : Int)) < 0))))] [] (zM <| zM <| zE (oCl (t_compare a b ha hb (by omega))) <| zE oLt <| zZ) ?_
  refine pwp_cond rfl (fun h1 => ?_) (fun h1 => ?_)
  · replace h1 := of_decide_eq_true h1
    refine pwp_seq <| kx [(4, (vl 135 1 enc_u32 [])), (5, (vl 135 1 enc_u32 a))] [] (zM <| zE (oNl 135 1) <| zM <| zZ) ?_
    refine pwp_ret ⟨_, (.tmp (d := (.sl 135 1 (List.map enc_u32 []))) rfl (.tmp (d := (.sl 135 1 (List.map enc_u32 a))) rfl .nil)), ?_⟩
    have hlt := cmpI_neg h1
    rw [Nat.div_eq_of_lt hlt, Nat.mod_eq_of_lt hlt, ofNat_zero, ← can_eq ha]; rfl
  · replace h1 := of_decide_eq_false h1
    refine pwp_skip <| pwp_seq <| kx [(6, (vqn (wordV a))), (7, (vb (wordB a)))] [] (zM <| zE (oCl (t_word a ha.1)) <| zM <| zE oEx <| zE oEx <| zM <| zM <| zZ) ?_
    refine pwp_seq <| kx [(8, (vqn (wordV b))), (9, (vb (wordB b)))] [] (zM <| zE (oCl (t_word b hb.1)) <| zM <| zE oEx <| zE oEx <| zM <| zM <| zZ) ?_
    refine pwp_seq <| pwp_seq <| kx [(30, (vb ((wordB a) && (wordB b))))] [] ?_ ?_
    · refine zM <| zE (oV (vb (wordB a)) (mv_ok (by kernel_rfl))) <| ?_
      rcases hb2 : (wordB a) with _ | _
      · exact zK <| zE oPf <| zZ
      · exact zM <| zE oPa <| zZ
    refine pwp_cond (b := ((wordB a) && (wordB b))) rfl (fun h3 => ?_) (fun h3 => ?_)
    · obtain ⟨w1, w2, w3⟩ := word_both ha.1 h3
      have w4 : wordV a / wordV b < 18446744073709551616 := Nat.lt_of_le_of_lt (Nat.div_le_self _ _) (by omega)
      have w5 : wordV a % wordV b < 18446744073709551616 := Nat.lt_of_le_of_lt (Nat.mod_le _ _) (by omega)
      refine pwp_seq <| kd [(4, (vl 135 1 enc_u32 (ofNat ((wordV a) / (wordV b))))), (5, (vl 135 1 enc_u32 (ofNat ((wordV a) % (wordV b)))))] [] mo (wM <| wM <| wE (oQu ((wordV a) / (wordV b))) <| wE (oCl (t_split ((wordV a) / (wordV b)) (by omega))) <| wM <| wM <| wE (oRe ((wordV a) % (wordV b))) <| wE (oCl (t_split ((wordV a) % (wordV b)) (by omega))) <| wM <| wM <| wZ) ?_
      refine pwp_ret ⟨_, (.tmp (d := (.sl 135 1 (List.map enc_u32 (ofNat ((wordV a) / (wordV b)))))) rfl (.tmp (d := (.sl 135 1 (List.map enc_u32 (ofNat ((wordV a) % (wordV b)))))) rfl .nil)), ?_⟩
      rw [w1, w2]; rfl
    · refine pwp_skip <| pwp_seq <| pwp_seq <| kx [(41, (vb (((b.length : Nat) : Int) == 1)))] [] (zM <| zE (oLm el47) <| zE oEq <| zZ) ?_
      refine pwp_cond (b := (((b.length : Nat) : Int) == 1)) rfl (fun h4 => ?_) (fun h4 => ?_)
      · replace h4 := eq_of_beq h4
        have hv1 := val_len1 (b := b) (by omega)
        have hg := hb.1.getD 0
        have w5 : val a % b.getD 0 0 < 4294967296 := Nat.lt_trans (Nat.mod_lt _ (by omega)) (by omega)
        refine pwp_seq <| kx [(10, (vl 135 1 enc_u32 (ofNat (val a / (b.getD 0 0))))), (11, (vwn (val a % (b.getD 0 0))))] [] (zM <| zM <| zE (oXl el47 0 (0 : Nat)) <| zE (oC1 sh135) <| zE (oCl (t_short a (b.getD 0 0) ha.1 (by omega) (by omega) (by omega))) <| zM <| zE oEx <| zE oEx <| zM <| zM <| zZ) ?_
        refine pwp_seq <| kx [(4, (vl 135 1 enc_u32 (ofNat (val a / (b.getD 0 0))))), (5, (vl 135 1 enc_u32 (ofNat (val a % (b.getD 0 0)))))] [] (zM <| zM <| zE (oCv un135 in180 (val a % (b.getD 0 0))) <| zE (oCl (t_split (val a % (b.getD 0 0)) (by omega))) <| zM <| zM <| zZ) ?_
        refine pwp_ret ⟨_, (.tmp (d := (.sl 135 1 (List.map enc_u32 (ofNat (val a / (b.getD 0 0)))))) rfl (.tmp (d := (.sl 135 1 (List.map enc_u32 (ofNat (val a % (b.getD 0 0)))))) rfl .nil)), ?_⟩
        rw [hv1]; rfl
      · replace h4 := ne_of_beq_false h4
        have hbl := val_pos_len hb0
        refine pwp_skip <| pwp_seq <| kx [(4, (vl 135 1 enc_u32 (ofNat (val a / val b)))), (5, (vl 135 1 enc_u32 (ofNat (val a % val b))))] [] (zM <| zM <| zE (oCl (t_long a b ha hb (by omega) (cmpI_nn h1) (by omega))) <| zE oEx <| zE oEx <| zM <| zM <| zZ) ?_
        refine pwp_ret ⟨_, (.tmp (d := (.sl 135 1 (List.map enc_u32 (ofNat (val a / val b))))) rfl (.tmp (d := (.sl 135 1 (List.map enc_u32 (ofNat (val a % val b))))) rfl .nil)), ?_⟩
        rfl
theorem t_divideI (x y : RInt) (hx : x.gs.length ≤ 1099511627776) (hy : y.gs.length ≤ 1099511627776) (hy0 : toZ y ≠ 0) : Takes Tryz.prog 178 [(encI x), (encI y)] (.tup [(encI (ofZ ((toZ x).fdiv (toZ y)))), (encI (ofZ ((toZ x).fmod (toZ y)))), (.val (.int .i64 (0)))]) := by
  have hgx := grpI_can x
  have hlx := grpI_len x
  have hgy := grpI_can y
  have hly := grpI_len y
  have hn : 0 < val (grpI y) := by have := toZ_natAbs y; omega
  have hq := len_quo (grpI x) hgx (val (grpI y))
  have hr := len_rem (grpI x) hgx (val (grpI y))
  have hrn := Nat.mod_lt (val (grpI x)) hn
  refine fn_intro Tryz.func178 rfl cb178 rfl ?_
  show PWp _ _ _ _ ⟨[(0, (.d (encI x))), (1, (.d (encI y)))], []⟩
  refine pwp_seq <| kx [(2, (.ref 0 0)), (3, (.ref 1 0)), (4, (.ref 2 0)), (5, (.ref 3 0))] [(0, some (bx (encI x))), (1, some (bx (encI y))), (2, some (bx (encI (RInt.mk false [])))), (3, some (bx (encI (RInt.mk false []))))] (zN (oBx 0) <| zN (oBx 1) <| zN (oAl 2 ze49 zo49) <| zN (oAl 3 ze49 zo49) <| zM <| zZ) ?_
  refine pwp_seq <| kd [(7, (vl 135 1 enc_u32 (grpI x))), (8, (vl 135 1 enc_u32 (grpI y)))] [] mo (wR (oLa sh49) <| wE (oCl (t_groups x (by omega))) <| wR (oLa sh49) <| wE (oCl (t_groups y (by omega))) <| wM <| wM <| wZ) ?_
  refine pwp_seq <| pwp_seq <| kx [(17, (vb ((((grpI y).length : Nat) : Int) == 0)))] [] (zM <| zE (oLm el47 (L := (grpI y))) <| zE oEq <| zZ) ?_
  refine pwp_cond (b := ((((grpI y).length : Nat) : Int) == 0)) rfl (fun h1 => ?_) (fun h1 => ?_)
  · replace h1 := eq_of_beq h1
    exact absurd (toZ_nil h1) hy0
  · replace h1 := ne_of_beq_false h1
    refine pwp_skip <| pwp_seq <| kx [(9, (vl 135 1 enc_u32 (ofNat (val (grpI x) / val (grpI y))))), (10, (vl 135 1 enc_u32 (ofNat (val (grpI x) % val (grpI y)))))] [] (zM <| zM <| zE (oCl (t_over (grpI x) (grpI y) hgx hgy (by omega) (by omega) (by omega))) <| zM <| zE oEx <| zE oEx <| zM <| zM <| zZ) ?_
    refine pwp_seq <| kx [(10, (vl 135 1 enc_u32 (ofNat (val (grpI x) % val (grpI y)))))] [] (zM <| zE (oCl (t_clone (ofNat (val (grpI x) % val (grpI y))) (by omega))) <| zM <| zZ) ?_
    refine pwp_seq <| pwp_seq <| kx [(37, (vb (decide (0 < (((ofNat (val (grpI x) % val (grpI y))).length : Nat) : Int)) && !(x.neg == y.neg))))] [] ?_ ?_
    · refine zM <| zE (oLm el47 (L := (ofNat (val (grpI x) % val (grpI y))))) <| zE oGt <| zE (oV (vb (decide (0 < (((ofNat (val (grpI x) % val (grpI y))).length : Nat) : Int)))) (mv_ok (by kernel_rfl))) <| ?_
      rcases hb2 : (decide (0 < (((ofNat (val (grpI x) % val (grpI y))).length : Nat) : Int))) with _ | _
      · replace hb2 := of_decide_eq_false hb2
        exact zK <| zK <| zK <| zK <| zK <| zE oPf <| zZ
      · replace hb2 := of_decide_eq_true hb2
        exact zE (oFr fo49_0) <| zR (oL1 sh4) <| zE (oFr fo49_0) <| zR (oL1 sh4) <| zE (oNb bo4) <| zE oPa <| zZ
    refine pwp_cond rfl (fun h3 => ?_) (fun h3 => ?_)
    · have e1 : (ofNat (val (ofNat (val (grpI x) / val (grpI y))) + val [1])).length ≤ 1099511627777 := ofNat_length_le (by rw [ofNat_val, val_one]; have := ofNat_lt_pw (val (grpI x) / val (grpI y)); have h3 : pw (ofNat (val (grpI x) / val (grpI y))).length ≤ pw 1099511627776 := pw_mono (by omega); have h4 := pw_lt (show 1099511627776 < 1099511627777 by decide); omega)
      have e2 := sub_len (b := ofNat (val (grpI x) % val (grpI y))) hgy.1
      rw [Bool.and_eq_true, decide_eq_true_eq, Bool.not_eq_true', beq_eq_false_iff_ne] at h3
      obtain ⟨k1, k2⟩ := h3
      have k3 : 0 < val (grpI x) % val (grpI y) := by have := len_pos_val (ofNat_can (val (grpI x) % val (grpI y))) (by omega); rwa [ofNat_val] at this
      obtain ⟨d1, d2⟩ := div_other hn k2 k3
      refine kx [(9, (vl 135 1 enc_u32 (ofNat (val (ofNat (val (grpI x) / val (grpI y))) + val [1])))), (10, (vl 135 1 enc_u32 (ofNat (val (grpI y) - val (ofNat (val (grpI x) % val (grpI y)))))))] [] (zM <| zE (oBs el47 ze135 zo135) <| zE (oCl (t_plus (ofNat (val (grpI x) / val (grpI y))) [1] (ofNat_dig _) (dig_cons.2 ⟨by decide, dig_nil⟩) (by omega) (by decide))) <| zM <| zM <| zE (oCl (t_minus (grpI y) (ofNat (val (grpI x) % val (grpI y))) hgy.1 (ofNat_dig _) (by rw [ofNat_val]; omega) (by omega))) <| zM <| zM <| zZ) ?_
      refine pwp_seq <| kd [(6, (vin 0))] [(2, some (bx (encI (mkI (!(x.neg == y.neg)) (val (ofNat (val (ofNat (val (grpI x) / val (grpI y))) + val [1]))))))), (3, some (bx (encI (mkI y.neg (val (ofNat (val (grpI y) - val (ofNat (val (grpI x) % val (grpI y))))))))))] mo (wE (oFr fo49_0) <| wR (oL1 sh4) <| wE (oFr fo49_0) <| wR (oL1 sh4) <| wE (oNb bo4) <| wM <| wE (oCl (t_made (!(x.neg == y.neg)) (ofNat (val (ofNat (val (grpI x) / val (grpI y))) + val [1])) (ofNat_dig _) (by omega))) <| wE (oFr fo49_0) <| wR (oL1 sh4) <| wM <| wE (oCl (t_made y.neg (ofNat (val (grpI y) - val (ofNat (val (grpI x) % val (grpI y))))) (ofNat_dig _) (by omega))) <| wT (oSt sh49) <| wT (oSt sh49) <| wM <| wZ) ?_
      refine pwp_ret ⟨_, (res_a (cs := (bx (encI (mkI (!(x.neg == y.neg)) (val (ofNat (val (ofNat (val (grpI x) / val (grpI y))) + val [1]))))))) (d := (encI (mkI (!(x.neg == y.neg)) (val (ofNat (val (ofNat (val (grpI x) / val (grpI y))) + val [1])))))) rfl rfl sh49 rfl rfl (res_a (cs := (bx (encI (mkI y.neg (val (ofNat (val (grpI y) - val (ofNat (val (grpI x) % val (grpI y)))))))))) (d := (encI (mkI y.neg (val (ofNat (val (grpI y) - val (ofNat (val (grpI x) % val (grpI y))))))))) rfl rfl sh49 rfl rfl (.tmp (d := (.val (.int .i64 (0)))) rfl .nil))), ?_⟩
      unfold toZ
      rw [d1, d2]
      simp only [ofNat_val, val_one]
      rfl
    · obtain ⟨d1, d2⟩ := div_same (b := x.neg) (c := y.neg) (m := val (grpI x)) hn (by rw [Bool.and_eq_false_iff, decide_eq_false_iff_not, Bool.not_eq_false', beq_iff_eq] at h3; rcases h3 with k | k; right; have := ofNat_len_pos (n := val (grpI x) % val (grpI y)); omega; exact .inl k)
      refine pwp_skip <| pwp_seq <| kd [(6, (vin 0))] [(2, some (bx (encI (mkI (!(x.neg == y.neg)) (val (ofNat (val (grpI x) / val (grpI y)))))))), (3, some (bx (encI (mkI y.neg (val (ofNat (val (grpI x) % val (grpI y))))))))] mo (wE (oFr fo49_0) <| wR (oL1 sh4) <| wE (oFr fo49_0) <| wR (oL1 sh4) <| wE (oNb bo4) <| wM <| wE (oCl (t_made (!(x.neg == y.neg)) (ofNat (val (grpI x) / val (grpI y))) (ofNat_dig _) (by omega))) <| wE (oFr fo49_0) <| wR (oL1 sh4) <| wM <| wE (oCl (t_made y.neg (ofNat (val (grpI x) % val (grpI y))) (ofNat_dig _) (by omega))) <| wT (oSt sh49) <| wT (oSt sh49) <| wM <| wZ) ?_
      refine pwp_ret ⟨_, (res_a (cs := (bx (encI (mkI (!(x.neg == y.neg)) (val (ofNat (val (grpI x) / val (grpI y)))))))) (d := (encI (mkI (!(x.neg == y.neg)) (val (ofNat (val (grpI x) / val (grpI y))))))) rfl rfl sh49 rfl rfl (res_a (cs := (bx (encI (mkI y.neg (val (ofNat (val (grpI x) % val (grpI y)))))))) (d := (encI (mkI y.neg (val (ofNat (val (grpI x) % val (grpI y))))))) rfl rfl sh49 rfl rfl (.tmp (d := (.val (.int .i64 (0)))) rfl .nil))), ?_⟩
      unfold toZ
      rw [d1, d2]
      simp only [ofNat_val]
      rfl
theorem t_gcdI (x y : RInt) (hx : x.gs.length ≤ 1099511627776) (hy : y.gs.length ≤ 1099511627776) : Takes Tryz.prog 141 [(encI x), (encI y)] (encI (ofZ ((Int.gcd (toZ x) (toZ y) : Nat) : Int))) := by
  have hgx := grpI_can x
  have hlx := grpI_len x
  have hgy := grpI_can y
  have hly := grpI_len y
  refine fn_intro Tryz.func141 rfl cb141 rfl ?_
  show PWp _ _ _ _ ⟨[(0, (.d (encI x))), (1, (.d (encI y)))], []⟩
  refine pwp_seq <| kx [(2, (.ref 0 0)), (3, (.ref 1 0)), (4, (.ref 2 0))] [(0, some (bx (encI x))), (1, some (bx (encI y))), (2, some (bx (encI (RInt.mk false []))))] (zN (oBx 0) <| zN (oBx 1) <| zN (oAl 2 ze49 zo49) <| zZ) ?_
  refine pwp_seq <| kd [(5, (vl 135 1 enc_u32 (grpI x))), (6, (vl 135 1 enc_u32 (grpI y)))] [] mo (wR (oLa sh49) <| wE (oCl (t_groups x (by omega))) <| wR (oLa sh49) <| wE (oCl (t_groups y (by omega))) <| wM <| wM <| wZ) ?_
  refine pwp_seq <| pwp_block <| pwp_loop (α := List Nat × List Nat) (fun (a, b) => ⟨[(4, (.ref 2 0)), (5, (vl 135 1 enc_u32 a)), (6, (vl 135 1 enc_u32 b))], [(2, some (bx (encI (RInt.mk false []))))]⟩) (fun (a, b) => Cano a ∧ Cano b ∧ a.length ≤ 1099511627776 ∧ b.length ≤ 1099511627776 ∧ Nat.gcd (val a) (val b) = Int.gcd (toZ x) (toZ y)) (fun (a, b) => val b) (grpI x, grpI y) wk ⟨hgx, hgy, by omega, by omega, gcd_toZ x y⟩ ?_
  rintro ⟨a, b⟩ ⟨ha, hb, hla, hlb, hg⟩
  refine pwp_seq <| pwp_seq <| kx [(19, (vb (decide (0 < ((b.length : Nat) : Int)))))] [] (zM <| zE (oLm el47) <| zE oGt <| zZ) ?_
  refine pwp_cond (b := decide (0 < ((b.length : Nat) : Int))) rfl (fun h1 => ?_) (fun h1 => ?_)
  · replace h1 := of_decide_eq_true h1
    have hb0 := len_pos_val hb (by omega)
    refine pwp_skip <| pwp_block <| pwp_seq <| kx [(7, (vqn (wordV a))), (8, (vb (wordB a)))] [] (zM <| zE (oCl (t_word a ha.1)) <| zM <| zE oEx <| zE oEx <| zM <| zM <| zZ) ?_
    refine pwp_seq <| kx [(9, (vqn (wordV b))), (10, (vb (wordB b)))] [] (zM <| zE (oCl (t_word b hb.1)) <| zM <| zE oEx <| zE oEx <| zM <| zM <| zZ) ?_
    refine pwp_seq <| pwp_seq <| kx [(33, (vb ((wordB a) && (wordB b))))] [] ?_ ?_
    · refine zM <| zE (oV (vb (wordB a)) (mv_ok (by kernel_rfl))) <| ?_
      rcases hb2 : (wordB a) with _ | _
      · exact zK <| zE oPf <| zZ
      · exact zM <| zE oPa <| zZ
    refine pwp_cond (b := ((wordB a) && (wordB b))) rfl (fun h3 => ?_) (fun h3 => ?_)
    · obtain ⟨w1, w2, w3⟩ := word_both ha.1 h3
      have w4 : val b < 1000000000000000000 := by rw [Bool.and_eq_true] at h3; exact val_len2 hb.1 (of_decide_eq_true h3.2)
      refine pwp_seq <| pwp_block <| pwp_loop (α := Nat × Nat) (fun (m, n) => ⟨[(4, (.ref 2 0)), (7, (vqn m)), (9, (vqn n))], [(2, some (bx (encI (RInt.mk false []))))]⟩) (fun (m, n) => m < 1000000000000000000 ∧ n < 1000000000000000000 ∧ Nat.gcd m n = Int.gcd (toZ x) (toZ y)) (fun (m, n) => n) (wordV a, wordV b) wk ⟨by omega, by omega, by rw [w1, w2]; exact hg⟩ ?_
      rintro ⟨m, n⟩ ⟨hm, hn, hg2⟩
      refine pwp_seq <| pwp_seq <| kx [(35, (vb (decide (0 < ((n : Nat) : Int)))))] [] (zM <| zE oGt <| zZ) ?_
      refine pwp_cond (b := decide (0 < ((n : Nat) : Int))) rfl (fun h4 => ?_) (fun h4 => ?_)
      · replace h4 := of_decide_eq_true h4
        refine pwp_skip <| pwp_block <| kd [(7, (vqn n)), (9, (vqn (m % n)))] [] mo (wM <| wM <| wM <| wE (oRe (m % n)) <| wM <| wM <| wZ) ?_
        exact ⟨(n, m % n), wk, ⟨hn, Nat.lt_of_le_of_lt (Nat.mod_le _ _) hm, by rw [← hg2, Nat.gcd_comm, ← Nat.gcd_rec, Nat.gcd_comm]⟩, (by dsimp only; exact Nat.mod_lt _ (by omega))⟩
      · replace h4 := of_decide_eq_false h4
        obtain rfl : n = 0 := by omega
        rw [Nat.gcd_zero_right] at hg2
        refine pwp_exit <| pwp_seq <| kx [] [(2, some (bx (encI (mkI false (val (ofNat m))))))] (zM <| zE (oCl (t_split m (by omega))) <| zE (oCl (t_made false (ofNat m) (ofNat_dig _) (Nat.le_trans (ofNat_len3 (by omega)) (by decide)))) <| zT (oSt sh49) <| zZ) ?_
        refine pwp_ret ⟨_, (res_a (cs := (bx (encI (mkI false (val (ofNat m)))))) (d := (encI (mkI false (val (ofNat m))))) rfl rfl sh49 rfl rfl .nil), ?_⟩
        rw [← hg2, ofNat_val, mkI_false]; rfl
    · refine pwp_skip <| pwp_seq <| kx [(12, (vl 135 1 enc_u32 (ofNat (val a % val b))))] [] (zM <| zM <| zE (oCl (t_over a b ha hb hb0 (by omega) (by omega))) <| zM <| zE oEx <| zE oEx <| zM <| zM <| zZ) ?_
      refine kx [(5, (vl 135 1 enc_u32 b)), (6, (vl 135 1 enc_u32 (ofNat (val a % val b))))] [] (zM <| zM <| zM <| zM <| zZ) ?_
      exact ⟨(b, ofNat (val a % val b)), wk, ⟨hb, ofNat_can _, hlb, Nat.le_trans (len_rem a ha _) hla, by rw [ofNat_val, ← hg, Nat.gcd_comm, ← Nat.gcd_rec, Nat.gcd_comm]⟩, (by dsimp only; rw [ofNat_val]; exact Nat.mod_lt _ hb0)⟩
  · replace h1 := of_decide_eq_false h1
    have hb1 : b = [] := List.eq_nil_of_length_eq_zero (by omega)
    rw [hb1, val_nil, Nat.gcd_zero_right] at hg
    refine pwp_exit <| pwp_seq <| kx [] [(2, some (bx (encI (mkI false (val a)))))] (zM <| zE (oCl (t_clone a (by omega))) <| zE (oCl (t_made false a ha.1 (by omega))) <| zT (oSt sh49) <| zZ) ?_
    refine pwp_ret ⟨_, (res_a (cs := (bx (encI (mkI false (val a))))) (d := (encI (mkI false (val a)))) rfl rfl sh49 rfl rfl .nil), ?_⟩
    rw [← hg, mkI_false]; rfl
end Go.Proofs.YtihgdjljnaekmaaGreat
