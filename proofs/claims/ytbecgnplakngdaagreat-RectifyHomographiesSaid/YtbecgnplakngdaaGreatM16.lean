/- Part 16 of a proof: rules, plain facts, and functions walked. -/
import Derived.Test.YtbecgnplakngdaaGreatM15
namespace Go.Proofs.YtbecgnplakngdaaGreat
open Go.Fid
set_option maxRecDepth 4000
set_option linter.unusedVariables false
set_option linter.unusedSimpArgs false
theorem cb211 : callB Tryz.prog 211 = true := by kernel_rfl
theorem in2 : intB Tryz.prog 2 = some .i64 := by kernel_rfl
theorem un2 : (Tryz.prog.underlying 2).isSome = true := by kernel_rfl
set_option maxHeartbeats 4000000 in
theorem t_long (a b : List Nat) (hda : gS a) (hdb : gS b) (hb2 : 2 ≤ b.length) (hba : val b ≤ val a) (hla : a.length ≤ 1099511627776) : kF Tryz.prog 211 [(.sl 152 1 (List.map jB a)), (.sl 152 1 (List.map jB b))] (.tup [(.sl 152 1 (List.map jB (ofNat (val a / val b)))), (.sl 152 1 (List.map jB (ofNat (val a % val b))))]) := by
 have hab := len_of_le hda hdb hba
 have hsc := bT hdb (by omega)
 have htp := lB hdb (by omega)
 have hds : Dig [cZ b] := gI.2 ⟨by omega, hO⟩
 have hbp : 0 < val b := by have := val_top hdb.1 (by omega); have h2 := Nat.mul_le_mul_right (pw (b.length - 1)) htp.1; have h3 := iO (b.length - 1); rw [Nat.succ_mul] at h2; omega
 obtain ⟨u0, hue⟩ : ∃ u0, u0 = ofNat (val a * val [cZ b]) := ⟨_, rfl⟩
 obtain ⟨v, hve⟩ : ∃ v, v = ofNat (val b * val [cZ b]) := ⟨_, rfl⟩
 have hu0 : Dig u0 := by rw [hue]; exact qA _
 have hvd : Dig v := by rw [hve]; exact qA _
 have hvl : v.length = b.length := by rw [hve, cY]; exact scl_len hdb (by omega)
 have hvv : val v = val b * cZ b := by rw [hve, cY]; exact kW _
 have hu0v : val u0 = val a * cZ b := by rw [hue, cY]; exact kW _
 have hu0l : a.length ≤ u0.length ∧ u0.length ≤ a.length + 1 := by rw [hue, cY]; exact scl_lenA hda hdb (by omega)
 have hLU : (u0 ++ [0]).length = u0.length + 1 := by simp
 have hcv : gS v := by rw [hve]; exact uC _
 have hv1p : 0 < v.getD (b.length - 1) 0 := by rw [← hvl]; exact (lB hcv (by omega)).1
 have hpv : pw (b.length - 1) ≤ val v := by have h1 := val_top hvd (by omega); rw [hvl] at h1; have h2 := Nat.mul_le_mul_right (pw (b.length - 1)) hv1p; omega
 refine jL Tryz.func211 rfl cb211 rfl ?_
 show uK _ _ _ _ ⟨[(0, (vl 152 1 jB a)), (1, (vl 152 1 jB b))], []⟩
 refine jA <| kx [] [] (zE (oNl 152 1) <| zE (oNl 152 1) <| zZ) ?_
 refine jA <| kx [(6, (aG (cZ b)))] [] (zM <| zM <| zE (nC kV) <| zE (oSb (b.length - 1)) <| zE (eP kV (b.length - 1) (0 : Nat)) <| zE (yN uR) <| zE (mU gG gA (b.getD (b.length - 1) 0)) <| zE (qQ ((b.getD (b.length - 1) 0) + 1)) <| zE (oQu (cZ b) (hr := by exact (quo_u64 1000000000 (b.getD (b.length - 1) 0 + 1) (by decide)))) <| zE (mU nD hH (cZ b)) <| zM <| zZ) ?_
 refine jA <| kx [(7, (.own 0 152 1 u0.length))] [(0, some (bm jB u0))] (zM <| zM <| zE (cP kV xP gH) <| zN (oCo 0 (hue ▸ o_times a [cZ b] hda.1 hds (by omega) (by simp) (by rw [cY]; exact Nat.mul_pos (by omega) hsc.1))) <| zM <| zZ) ?_
 refine jA <| kx [(8, (vl 152 1 jB v))] [] (zM <| zM <| zE (cP kV xP gH) <| zE (kC (hve ▸ t_times b [cZ b] hdb.1 hds (by omega) (by simp))) <| zM <| zZ) ?_
 refine jA <| kx [(9, (kE b.length))] [] (zM <| zE (fT kV b.length (hr := by exact (by simp [hvl]))) <| zM <| zZ) ?_
 refine jA <| kf [(7, (.own 0 152 1 ((u0 ++ [0]).length)))] [(0, some (bm jB (u0 ++ [0])))] (zM <| zE (cP kV xP gH) <| zA jB u0 [0] rfl kV xP nT <| zM <| zF) ?_
 refine jA <| jA <| kx [(50, (vb (decide ((((u0 ++ [0]).length : Nat) : Int) ≤ ((a.length : Nat) : Int)))))] [] (zM <| zE (oLo kV) <| zM <| zE (nC kV) <| zE oLe <| zZ) ?_
 refine jQ rfl (fun h1 => ?_) (fun h1 => ?_)
 ·replace h1 := of_decide_eq_true h1
  exfalso; simp at h1; omega
 ·replace h1 := of_decide_eq_false h1
  refine jD <| jA <| kx [(4, (.own 1 152 1 ((u0 ++ [0]).length - b.length)))] [(1, some (bm jB (List.replicate ((u0 ++ [0]).length - b.length) 0)))] (zM <| zE (oLo kV) <| zM <| zE (oSb ((u0 ++ [0]).length - b.length)) <| zH (oMk 1 jB (0 : Nat) ((u0 ++ [0]).length - b.length) ((u0 ++ [0]).length - b.length) kV xP gH nT) <| zM <| zZ) ?_
  refine jA <| jA <| kx [(10, (vi ((((u0 ++ [0]).length - b.length : Nat) : Int) - 1)))] [] (zM <| zE (oLo kV) <| zM <| zE (oSb ((u0 ++ [0]).length - b.length)) <| zE (aF ((((u0 ++ [0]).length - b.length : Nat) : Int) - 1)) <| zM <| zZ) ?_
  refine jE <| uA (α := Nat × List Nat × List Nat) (fun (k, u, q) => ⟨[(4, (.own 1 152 1 ((u0 ++ [0]).length - b.length))), (6, (aG (cZ b))), (7, (.own 0 152 1 ((u0 ++ [0]).length))), (8, (vl 152 1 jB v)), (9, (kE b.length)), (10, (vi (((k : Nat) : Int) - 1)))], [(0, some (bm jB u)), (1, some (bm jB q))]⟩) (fun (k, u, q) => u.length = (u0 ++ [0]).length ∧ Dig u ∧ q.length = (u0 ++ [0]).length - b.length ∧ Dig q ∧ k ≤ (u0 ++ [0]).length - b.length ∧ val u + val v * (pw k * val (q.drop k)) = val a * cZ b ∧ val (u.drop k) < val v) (fun (k, u, q) => k) ((u0 ++ [0]).length - b.length, u0 ++ [0], List.replicate ((u0 ++ [0]).length - b.length) 0) wk ⟨rfl, iG.2 ⟨hu0, gI.2 ⟨by decide, hO⟩⟩, by simp, yJ _, Nat.le_refl _, by simp [dD, val, hu0v], by have := long_start hu0 hvl hb2 (by omega) hpv; rw [hLU]; exact this⟩ ?_
  rintro ⟨k, u, q⟩ ⟨vD, hu, hql, hqd, hk, hU, hW⟩
  refine jA <| jA <| kx [(65, (vb (decide (0 ≤ (((k : Nat) : Int) - 1)))))] [] (zM <| zE oGe <| zZ) ?_
  refine jQ (b := decide (0 ≤ (((k : Nat) : Int) - 1))) rfl (fun h2 => ?_) (fun h2 => ?_)
  ·replace h2 := of_decide_eq_true h2
   obtain ⟨j, rfl⟩ : ∃ j, k = j + 1 := ⟨k - 1, by omega⟩
   rw [show (((j + 1 : Nat) : Int) - 1) = ((j : Nat) : Int) from by omega]
   have hg1 := hu.getD (j + b.length)
   have hg2 := hu.getD (j + b.length - 1)
   have hg3 := hu.getD (j + b.length - 2)
   have hg4 := hvd.getD (b.length - 1)
   have hg5 := hvd.getD (b.length - 2)
   obtain ⟨z1, z2, z3, z4, z5, z6⟩ := window_tops hu hvd hvl hb2 hW
   obtain ⟨hwz, hww⟩ := window hvd hvl hW
   refine jD <| jA <| jE <| jA <| kd [(10, (kE j)), (11, (gQ (((u.getD (j + b.length) 0) * 1000000000) + (u.getD ((j + b.length) - 1) 0))))] [] mo (wM <| wM <| wM <| wE (qQ (j + b.length)) <| wR ⟨(bm jB u), e_clo (t_at u (j + b.length)) (by exact rfl) (by exact rfl) (by exact rfl) (.o (.d .nil)) (xV jB u (fun _ => rfl)) (xU _ _ vD) (yF _ _ (fun _ => rfl) vD), by kernel_rfl⟩ <| wE (mU gG gA (u.getD (j + b.length) 0)) <| wE (oMl ((u.getD (j + b.length) 0) * 1000000000)) <| wM <| wM <| wM <| wE (qQ (j + b.length)) <| wE (oSb ((j + b.length) - 1)) <| wE (oXo kV ((j + b.length) - 1)) <| wR (oLp uR ((j + b.length) - 1) (0 : Nat)) <| wE (mU gG gA (u.getD ((j + b.length) - 1) 0)) <| wE (qQ (((u.getD (j + b.length) 0) * 1000000000) + (u.getD ((j + b.length) - 1) 0))) <| wM <| wZ) ?_
   refine jA <| kd [(12, (gQ ((((u.getD (j + b.length) 0) * 1000000000) + (u.getD ((j + b.length) - 1) 0)) / (v.getD (b.length - 1) 0)))), (13, (gQ ((((u.getD (j + b.length) 0) * 1000000000) + (u.getD ((j + b.length) - 1) 0)) % (v.getD (b.length - 1) 0))))] [] mo (wM <| wM <| wM <| wE (oSb (b.length - 1)) <| wE (eP kV (b.length - 1) (0 : Nat)) <| wE (yN uR) <| wE (mU gG gA (v.getD (b.length - 1) 0)) <| wE (oQu ((((u.getD (j + b.length) 0) * 1000000000) + (u.getD ((j + b.length) - 1) 0)) / (v.getD (b.length - 1) 0))) <| wM <| wM <| wM <| wE (oSb (b.length - 1)) <| wE (eP kV (b.length - 1) (0 : Nat)) <| wE (yN uR) <| wE (mU gG gA (v.getD (b.length - 1) 0)) <| wE (aI ((((u.getD (j + b.length) 0) * 1000000000) + (u.getD ((j + b.length) - 1) 0)) % (v.getD (b.length - 1) 0))) <| wM <| wM <| wZ) ?_
   refine pwp_seqjoin (α := Nat × Nat) (fun (G, R) => ⟨[(4, (.own 1 152 1 ((u0 ++ [0]).length - b.length))), (6, (aG (cZ b))), (7, (.own 0 152 1 ((u0 ++ [0]).length))), (8, (vl 152 1 jB v)), (9, (kE b.length)), (10, (kE j)), (12, (gQ G))], [(0, some (bm jB u)), (1, some (bm jB q))]⟩) (fun (G, R) => G < 1000000000 ∧ val (u.drop j) / val v ≤ G ∧ G ≤ val (u.drop j) / val v + 1) ?_ ?_
   ·refine uA (α := Nat × Nat) (fun (G, R) => ⟨[(4, (.own 1 152 1 ((u0 ++ [0]).length - b.length))), (6, (aG (cZ b))), (7, (.own 0 152 1 ((u0 ++ [0]).length))), (8, (vl 152 1 jB v)), (9, (kE b.length)), (10, (kE j)), (12, (gQ G)), (13, (gQ R))], [(0, some (bm jB u)), (1, some (bm jB q))]⟩) (fun (G, R) => G * (v.getD (b.length - 1) 0) + R = (u.getD (j + b.length) 0 * 1000000000 + u.getD (j + b.length - 1) 0) ∧ val (u.drop j) / val v ≤ G ∧ R < 1000000000 ∧ G ≤ 1999999999) (fun (G, R) => G) ((u.getD (j + b.length) 0 * 1000000000 + u.getD (j + b.length - 1) 0) / v.getD (b.length - 1) 0, (u.getD (j + b.length) 0 * 1000000000 + u.getD (j + b.length - 1) 0) % v.getD (b.length - 1) 0) wk ⟨by rw [Nat.mul_comm]; exact Nat.div_add_mod _ _, guess_first0 z5 z4 hv1p hg3, Nat.lt_trans (Nat.mod_lt _ hv1p) hg4, guess_top hv1p z1 hg2⟩ ?_
    rintro ⟨G, R⟩ ⟨hG0, hG1, hR, hGb⟩
    have hpq : G * v.getD (b.length - 2) 0 ≤ 1999999999 * 999999999 := Nat.mul_le_mul hGb (by omega)
    refine jA <| jA <| kd [(123, (vb (decide (1000000000 ≤ ((G : Nat) : Int)) || decide (((((R * 1000000000) + (u.getD ((j + b.length) - 2) 0)) : Nat) : Int) < (((G * (v.getD (b.length - 2) 0)) : Nat) : Int)))))] [] mo ?_ ?_
    ·refine wM <| wE oGe <| wE (oV (vb (decide (1000000000 ≤ ((G : Nat) : Int)))) (xD (by kernel_rfl))) <| ?_
     rcases hb3 : (decide (1000000000 ≤ ((G : Nat) : Int))) with _ | _
     ·replace hb3 := of_decide_eq_false hb3
      exact wM <| wM <| wM <| wE (oSb (b.length - 2)) <| wE (eP kV (b.length - 2) (0 : Nat)) <| wE (yN uR) <| wE (mU gG gA (v.getD (b.length - 2) 0)) <| wE (oMl (G * (v.getD (b.length - 2) 0))) <| wM <| wE (oMl (R * 1000000000)) <| wM <| wM <| wM <| wE (qQ (j + b.length)) <| wE (oSb ((j + b.length) - 2)) <| wE (oXo kV ((j + b.length) - 2)) <| wR (oLp uR ((j + b.length) - 2) (0 : Nat)) <| wE (mU gG gA (u.getD ((j + b.length) - 2) 0)) <| wE (qQ ((R * 1000000000) + (u.getD ((j + b.length) - 2) 0))) <| wE bO <| wE oPo <| wZ
     ·replace hb3 := of_decide_eq_true hb3
      exact wK <| wK <| wK <| wK <| wK <| wK <| wK <| wK <| wK <| wK <| wK <| wK <| wK <| wK <| wK <| wK <| wK <| wK <| wK <| wK <| wE bG <| wZ
    refine jQ rfl (fun h4 => ?_) (fun h4 => ?_)
    ·rw [Bool.or_eq_true, decide_eq_true_eq, decide_eq_true_eq] at h4
     have hgl := guess_less (iO _) z5 z4 hG0 hG1 hv1p z2 (by omega)
     refine jD <| jE <| jA <| kx [(12, (gQ (G - 1)))] [] (zM <| zE (oSb (G - 1)) <| zM <| zZ) ?_
     refine jA <| kx [(13, (gQ (R + (v.getD (b.length - 1) 0))))] [] (zM <| zM <| zM <| zE (oSb (b.length - 1)) <| zE (eP kV (b.length - 1) (0 : Nat)) <| zE (yN uR) <| zE (mU gG gA (v.getD (b.length - 1) 0)) <| zE (qQ (R + (v.getD (b.length - 1) 0))) <| zM <| zZ) ?_
     refine jA <| kx [(135, (vb (decide (1000000000 ≤ (((R + (v.getD (b.length - 1) 0)) : Nat) : Int)))))] [] (zM <| zE oGe <| zZ) ?_
     refine jQ rfl (fun h5 => ?_) (fun h5 => ?_)
     ·replace h5 := of_decide_eq_true h5
      refine kQ ?_
      refine pjoin_exit (id := 2) (α := Nat × Nat) (Q := fun _ _ => True) (St := fun (G, R) => ⟨[(4, (.own 1 152 1 ((u0 ++ [0]).length - b.length))), (6, (aG (cZ b))), (7, (.own 0 152 1 ((u0 ++ [0]).length))), (8, (vl 152 1 jB v)), (9, (kE b.length)), (10, (kE j)), (12, (gQ G))], [(0, some (bm jB u)), (1, some (bm jB q))]⟩) (I := fun (G, R) => G < 1000000000 ∧ val (u.drop j) / val v ≤ G ∧ G ≤ val (u.drop j) / val v + 1) ?_
      exact ⟨(G - 1, R + v.getD (b.length - 1) 0), wk, (by have hd := guess_dec hgl.2 hG0; have hgb := guess_break hd z1 hg2 (by omega); exact ⟨hgb, hgl.1, guess_near z6 z3 hd hv1p (by omega) hgb (Nat.le_trans (Nat.mul_le_mul (show G - 1 ≤ 999999999 by omega) (show v.getD (b.length - 2) 0 ≤ 999999999 by omega)) (by omega))⟩)⟩
     ·replace h5 := of_decide_eq_false h5
      refine jD ?_
      exact ⟨(G - 1, R + v.getD (b.length - 1) 0), wk, (by exact ⟨guess_dec hgl.2 hG0, hgl.1, by omega, by omega⟩), (by first | omega | (dsimp only; omega))⟩
    ·refine kQ ?_
     refine pjoin_exit (id := 2) (α := Nat × Nat) (Q := fun _ _ => True) (St := fun (G, R) => ⟨[(4, (.own 1 152 1 ((u0 ++ [0]).length - b.length))), (6, (aG (cZ b))), (7, (.own 0 152 1 ((u0 ++ [0]).length))), (8, (vl 152 1 jB v)), (9, (kE b.length)), (10, (kE j)), (12, (gQ G))], [(0, some (bm jB u)), (1, some (bm jB q))]⟩) (I := fun (G, R) => G < 1000000000 ∧ val (u.drop j) / val v ≤ G ∧ G ≤ val (u.drop j) / val v + 1) ?_
     exact ⟨(G, R), wk, (by rw [Bool.or_eq_false_iff, decide_eq_false_iff_not, decide_eq_false_iff_not] at h4; exact ⟨by omega, hG1, guess_near z6 z3 hG0 hv1p (by omega) (by omega) (by omega)⟩)⟩
   ·rintro ⟨G, R⟩ ⟨hG, hG1, hG2⟩
    have hjn : j + b.length < (u0 ++ [0]).length := by omega
    refine jA <| kx [(14, (kE 0)), (15, (gQ 0))] [] (zM <| zM <| zZ) ?_
    refine jA <| jA <| kx [(136, (kE b.length)), (137, (kE 0))] [] (zM <| zM <| zZ) ?_
    refine jE <| uA (α := Nat × List Nat × Nat × Nat) (fun (i, u2, bo, ca) => ⟨[(4, (.own 1 152 1 ((u0 ++ [0]).length - b.length))), (6, (aG (cZ b))), (7, (.own 0 152 1 ((u0 ++ [0]).length))), (8, (vl 152 1 jB v)), (9, (kE b.length)), (10, (kE j)), (12, (gQ G)), (14, (vi ((bo : Nat) : Int))), (15, (gQ ca)), (136, (kE b.length)), (137, (kE i))], [(0, some (bm jB u2)), (1, some (bm jB q))]⟩) (fun (i, u2, bo, ca) => u2.length = (u0 ++ [0]).length ∧ Dig u2 ∧ u2.take j = u.take j ∧ u2.drop (j + i) = u.drop (j + i) ∧ i ≤ b.length ∧ bo ≤ 1 ∧ ca < 1000000000 ∧ val ((u2.drop j).take i) + G * val (v.take i) = val ((u.drop j).take i) + pw i * (ca + bo)) (fun (i, u2, bo, ca) => b.length - i) (0, u, 0, 0) wk ⟨vD, hu, rfl, rfl, Nat.zero_le _, Nat.zero_le _, by decide, by simp [val]⟩ ?_
    rintro ⟨i, u2, bo, ca⟩ ⟨hl2, hd2, ht2, hd2', hin, hbo, hca, hv2⟩
    have hgi := hvd.getD i
    have hgu := hd2.getD (i + j)
    have hpq : G * v.getD i 0 ≤ 999999999 * 999999999 := Nat.mul_le_mul (by omega) (by omega)
    refine jA <| kx [(138, (vb (decide (((i : Nat) : Int) < ((b.length : Nat) : Int)))))] [] (zE qS <| zZ) ?_
    refine jA <| jQ rfl (fun h6 => ?_) (fun h6 => ?_)
    ·replace h6 := of_decide_eq_true h6
     have hi : i < b.length := by omega
     refine jD <| jA <| jE <| jA <| kx [(16, (kE i))] [] (zM <| zM <| zZ) ?_
     refine jA <| kx [(17, (gQ ((G * (v.getD i 0)) + ca)))] [] (zM <| zM <| zM <| zE (eP kV i (0 : Nat)) <| zE (yN uR) <| zE (mU gG gA (v.getD i 0)) <| zE (oMl (G * (v.getD i 0))) <| zM <| zE (qQ ((G * (v.getD i 0)) + ca)) <| zM <| zZ) ?_
     refine jA <| kx [(15, (gQ (((G * (v.getD i 0)) + ca) / 1000000000)))] [] (zM <| zE (oQu (((G * (v.getD i 0)) + ca) / 1000000000)) <| zM <| zZ) ?_
     refine jA <| kx [(18, (vi (((((u2.getD (i + j) 0) : Nat) : Int) - ((bo : Nat) : Int)) - (((((G * (v.getD i 0)) + ca) % 1000000000) : Nat) : Int))))] [] (zM <| zM <| zM <| zE (qQ (i + j)) <| zE (oXo kV (i + j)) <| zR (oLp uR (i + j) (0 : Nat)) <| zE (mU gG in2 (u2.getD (i + j) 0)) <| zM <| zE (aF ((((u2.getD (i + j) 0) : Nat) : Int) - ((bo : Nat) : Int))) <| zM <| zE (aI (((G * (v.getD i 0)) + ca) % 1000000000)) <| zE (mU nD in2 (((G * (v.getD i 0)) + ca) % 1000000000)) <| zE (aF (((((u2.getD (i + j) 0) : Nat) : Int) - ((bo : Nat) : Int)) - (((((G * (v.getD i 0)) + ca) % 1000000000) : Nat) : Int))) <| zM <| zZ) ?_
     refine jA <| kx [(14, (kE 0))] [] (zM <| zZ) ?_
     refine jA <| jA <| kx [(165, (vb (decide ((((((u2.getD (i + j) 0) : Nat) : Int) - ((bo : Nat) : Int)) - (((((G * (v.getD i 0)) + ca) % 1000000000) : Nat) : Int)) < 0))))] [] (zM <| zE qS <| zZ) ?_
     refine jQ rfl (fun h7 => ?_) (fun h7 => ?_)
     ·replace h7 := of_decide_eq_true h7
      refine kx [(14, (kE 1)), (18, (vi ((((((u2.getD (i + j) 0) : Nat) : Int) - ((bo : Nat) : Int)) - (((((G * (v.getD i 0)) + ca) % 1000000000) : Nat) : Int)) + 1000000000)))] [] (zM <| zE (zAd ((((((u2.getD (i + j) 0) : Nat) : Int) - ((bo : Nat) : Int)) - (((((G * (v.getD i 0)) + ca) % 1000000000) : Nat) : Int)) + 1000000000)) <| zM <| zM <| zZ) ?_
      refine kx [] [(0, some (bm jB (u2.set (i + j) ((u2.getD (i + j) 0 + 1000000000) - bo - (G * v.getD i 0 + ca) % 1000000000))))] (zM <| zM <| zM <| zE (qQ (i + j)) <| zM <| zE (mU un2 hH ((u2.getD (i + j) 0 + 1000000000) - bo - (G * v.getD i 0 + ca) % 1000000000) (hr := by exact (wu32 (by omega) (by omega) (by omega)))) <| zE (oXo kV (i + j)) <| zT (oSp uR (i + j) ((u2.getD (i + j) 0 + 1000000000) - bo - (G * v.getD i 0 + ca) % 1000000000)) <| zZ) ?_
      refine kx [(137, (kE (i + 1)))] [] (zE (qQ (i + 1)) <| zM <| zZ) ?_
      exact ⟨(i + 1, u2.set (i + j) ((u2.getD (i + j) 0 + 1000000000) - bo - (G * v.getD i 0 + ca) % 1000000000), 1, (G * v.getD i 0 + ca) / 1000000000), wk, (by obtain ⟨q1, q2, q3, q4, q5⟩ := msub_step (v := v) (L := (u0 ++ [0]).length) (e := (u2.getD (i + j) 0 + 1000000000) - bo - (G * v.getD i 0 + ca) % 1000000000) (borrow' := 1) hjn hi hl2 vD hd2 ht2 hd2' hv2 rfl (by omega) (by omega); exact ⟨q1, q2, q3, q4, by omega, by omega, by omega, q5⟩), (by first | omega | (dsimp only; omega))⟩
     ·replace h7 := of_decide_eq_false h7
      refine jD <| kx [] [(0, some (bm jB (u2.set (i + j) (u2.getD (i + j) 0 - bo - (G * v.getD i 0 + ca) % 1000000000))))] (zM <| zM <| zM <| zE (qQ (i + j)) <| zM <| zE (mU un2 hH (u2.getD (i + j) 0 - bo - (G * v.getD i 0 + ca) % 1000000000) (hr := by exact (wu32 (by omega) (by omega) (by omega)))) <| zE (oXo kV (i + j)) <| zT (oSp uR (i + j) (u2.getD (i + j) 0 - bo - (G * v.getD i 0 + ca) % 1000000000)) <| zZ) ?_
      refine kx [(137, (kE (i + 1)))] [] (zE (qQ (i + 1)) <| zM <| zZ) ?_
      exact ⟨(i + 1, u2.set (i + j) (u2.getD (i + j) 0 - bo - (G * v.getD i 0 + ca) % 1000000000), 0, (G * v.getD i 0 + ca) / 1000000000), wk, (by obtain ⟨q1, q2, q3, q4, q5⟩ := msub_step (v := v) (L := (u0 ++ [0]).length) (e := u2.getD (i + j) 0 - bo - (G * v.getD i 0 + ca) % 1000000000) (borrow' := 0) hjn hi hl2 vD hd2 ht2 hd2' hv2 rfl (by omega) (by omega); exact ⟨q1, q2, q3, q4, by omega, by omega, by omega, q5⟩), (by first | omega | (dsimp only; omega))⟩
    ·replace h6 := of_decide_eq_false h6
     have hie : i = b.length := by omega
     rw [hie] at hd2' hv2 hin
     obtain ⟨m1, m2, m3⟩ := msub_end hu hd2 hvd hvl hW hG1 hG2 hd2' hv2
     refine kQ <| jA <| kx [(19, (vi (((((u2.getD (j + b.length) 0) : Nat) : Int) - ((bo : Nat) : Int)) - ((ca : Nat) : Int))))] [] (zM <| zM <| zM <| zE (qQ (j + b.length)) <| zE (oXo kV (j + b.length)) <| zR (oLp uR (j + b.length) (0 : Nat)) <| zE (mU gG in2 (u2.getD (j + b.length) 0)) <| zM <| zE (aF ((((u2.getD (j + b.length) 0) : Nat) : Int) - ((bo : Nat) : Int))) <| zM <| zE (mU nD in2 ca) <| zE (aF (((((u2.getD (j + b.length) 0) : Nat) : Int) - ((bo : Nat) : Int)) - ((ca : Nat) : Int))) <| zM <| zZ) ?_
     refine jA <| jA <| kx [(189, (vb (decide ((((((u2.getD (j + b.length) 0) : Nat) : Int) - ((bo : Nat) : Int)) - ((ca : Nat) : Int)) < 0))))] [] (zM <| zE qS <| zZ) ?_
     refine jQ rfl (fun h8 => ?_) (fun h8 => ?_)
     ·replace h8 := of_decide_eq_true h8
      obtain ⟨n1, n2, r, n3, n4, n5⟩ := m2 (by omega)
      refine jA <| kx [] [(0, some (bm jB (u2.set (j + b.length) 999999999)))] (zM <| zM <| zM <| zE (qQ (j + b.length)) <| zM <| zE (zAd ((((((u2.getD (j + b.length) 0) : Nat) : Int) - ((bo : Nat) : Int)) - ((ca : Nat) : Int)) + 1000000000)) <| zE (mU un2 hH 999999999 (hr := by exact (wu32 (by omega) (by omega) (by omega)))) <| zE (oXo kV (j + b.length)) <| zT (oSp uR (j + b.length) 999999999) <| zZ) ?_
      refine jA <| kx [(12, (gQ (G - 1)))] [] (zM <| zE (oSb (G - 1)) <| zM <| zZ) ?_
      refine jA <| kx [(20, (aG 0))] [] (zM <| zZ) ?_
      refine jA <| jA <| kx [(200, (kE b.length)), (201, (kE 0))] [] (zM <| zM <| zZ) ?_
      refine jE <| uA (α := Nat × List Nat × Nat) (fun (i, u3, c) => ⟨[(4, (.own 1 152 1 ((u0 ++ [0]).length - b.length))), (6, (aG (cZ b))), (7, (.own 0 152 1 ((u0 ++ [0]).length))), (8, (vl 152 1 jB v)), (9, (kE b.length)), (10, (kE j)), (12, (gQ (G - 1))), (20, (aG c)), (200, (kE b.length)), (201, (kE i))], [(0, some (bm jB u3)), (1, some (bm jB q))]⟩) (fun (i, u3, c) => u3.length = (u0 ++ [0]).length ∧ Dig u3 ∧ u3.take j = (u2.set (j + b.length) 999999999).take j ∧ u3.drop (j + i) = (u2.set (j + b.length) 999999999).drop (j + i) ∧ i ≤ b.length ∧ c ≤ 1 ∧ val ((u3.drop j).take i) + pw i * c = val (((u2.set (j + b.length) 999999999).drop j).take i) + val (v.take i)) (fun (i, u3, c) => b.length - i) (0, u2.set (j + b.length) 999999999, 0) wk ⟨by simpa using hl2, hd2.set _ (by decide), rfl, rfl, Nat.zero_le _, Nat.zero_le _, by simp [val]⟩ ?_
      rintro ⟨i, u3, c⟩ ⟨hl3, hd3, ht3, hd3', hin, hc, hv3⟩
      have hgi := hvd.getD i
      have hgu := hd3.getD (i + j)
      have hgt := hd3.getD (j + b.length)
      refine jA <| kx [(202, (vb (decide (((i : Nat) : Int) < ((b.length : Nat) : Int)))))] [] (zE qS <| zZ) ?_
      refine jA <| jQ rfl (fun h9 => ?_) (fun h9 => ?_)
      ·replace h9 := of_decide_eq_true h9
       have hi : i < b.length := by omega
       refine jD <| jA <| jE <| jA <| kx [(21, (kE i))] [] (zM <| zM <| zZ) ?_
       refine jA <| kd [(22, (aG (((u3.getD (i + j) 0) + (v.getD i 0)) + c)))] [] mo (wM <| wM <| wM <| wE (qQ (i + j)) <| wE (oXo kV (i + j)) <| wR (oLp uR (i + j) (0 : Nat)) <| wM <| wM <| wE (eP kV i (0 : Nat)) <| wE (yN uR) <| wE (qQ ((u3.getD (i + j) 0) + (v.getD i 0))) <| wM <| wE (qQ (((u3.getD (i + j) 0) + (v.getD i 0)) + c)) <| wM <| wZ) ?_
       refine jA <| kx [(20, (aG 0))] [] (zM <| zZ) ?_
       refine jA <| jA <| kx [(218, (vb (decide (1000000000 ≤ (((((u3.getD (i + j) 0) + (v.getD i 0)) + c) : Nat) : Int)))))] [] (zM <| zE oGe <| zZ) ?_
       refine jQ rfl (fun h10 => ?_) (fun h10 => ?_)
       ·replace h10 := of_decide_eq_true h10
        refine kx [(20, (aG 1)), (22, (aG ((((u3.getD (i + j) 0) + (v.getD i 0)) + c) - 1000000000)))] [] (zM <| zE (oSb ((((u3.getD (i + j) 0) + (v.getD i 0)) + c) - 1000000000)) <| zM <| zM <| zZ) ?_
        refine kx [] [(0, some (bm jB (u3.set (i + j) ((((u3.getD (i + j) 0) + (v.getD i 0)) + c) - 1000000000))))] (zM <| zM <| zM <| zE (qQ (i + j)) <| zM <| zE (oXo kV (i + j)) <| zT (oSp uR (i + j) ((((u3.getD (i + j) 0) + (v.getD i 0)) + c) - 1000000000)) <| zZ) ?_
        refine kx [(201, (kE (i + 1)))] [] (zE (qQ (i + 1)) <| zM <| zZ) ?_
        exact ⟨(i + 1, u3.set (i + j) (u3.getD (i + j) 0 + v.getD i 0 + c - 1000000000), 1), wk, (by obtain ⟨q1, q2, q3, q4, q5⟩ := addb_step (v := v) (L := (u0 ++ [0]).length) (s := u3.getD (i + j) 0 + v.getD i 0 + c) (e := u3.getD (i + j) 0 + v.getD i 0 + c - 1000000000) (c' := 1) hjn hi hl3 (by simpa using hl2) hd3 ht3 hd3' hv3 rfl (by omega) (by omega); exact ⟨q1, q2, q3, q4, by omega, by omega, q5⟩), (by first | omega | (dsimp only; omega))⟩
       ·replace h10 := of_decide_eq_false h10
        refine jD <| kx [] [(0, some (bm jB (u3.set (i + j) (((u3.getD (i + j) 0) + (v.getD i 0)) + c))))] (zM <| zM <| zM <| zE (qQ (i + j)) <| zM <| zE (oXo kV (i + j)) <| zT (oSp uR (i + j) (((u3.getD (i + j) 0) + (v.getD i 0)) + c)) <| zZ) ?_
        refine kx [(201, (kE (i + 1)))] [] (zE (qQ (i + 1)) <| zM <| zZ) ?_
        exact ⟨(i + 1, u3.set (i + j) (u3.getD (i + j) 0 + v.getD i 0 + c), 0), wk, (by obtain ⟨q1, q2, q3, q4, q5⟩ := addb_step (v := v) (L := (u0 ++ [0]).length) (s := u3.getD (i + j) 0 + v.getD i 0 + c) (e := u3.getD (i + j) 0 + v.getD i 0 + c) (c' := 0) hjn hi hl3 (by simpa using hl2) hd3 ht3 hd3' hv3 rfl (by omega) (by omega); exact ⟨q1, q2, q3, q4, by omega, by omega, q5⟩), (by first | omega | (dsimp only; omega))⟩
      ·replace h9 := of_decide_eq_false h9
       have hie2 : i = b.length := by omega
       rw [hie2] at hd3' hv3 hin
       refine kQ <| kx [] [(0, some (bm jB (u3.set (j + b.length) (((u3.getD (j + b.length) 0) + c) % 1000000000))))] (zM <| zM <| zM <| zE (qQ (j + b.length)) <| zM <| zM <| zM <| zE (qQ (j + b.length)) <| zE (oXo kV (j + b.length)) <| zR (oLp uR (j + b.length) (0 : Nat)) <| zM <| zE (qQ ((u3.getD (j + b.length) 0) + c)) <| zE (aI (((u3.getD (j + b.length) 0) + c) % 1000000000)) <| zE (oXo kV (j + b.length)) <| zT (oSp uR (j + b.length) (((u3.getD (j + b.length) 0) + c) % 1000000000)) <| zZ) ?_
       refine kx [] [(1, some (bm jB (q.set j (G - 1))))] (zM <| zM <| zM <| zE (mU nD hH (G - 1)) <| zE (oXo kV j) <| zT (oSp uR j (G - 1)) <| zZ) ?_
       refine kx [(10, (vi (((j : Nat) : Int) - 1)))] [] (zM <| zE (aF (((j : Nat) : Int) - 1)) <| zM <| zZ) ?_
       exact ⟨(j, u3.set (j + b.length) ((u3.getD (j + b.length) 0 + c) % 1000000000), q.set j (G - 1)), wk, (by obtain ⟨p1, p2⟩ := neg_end hd3 hvd hvl (by omega) (by omega) (hl2.trans vD.symm) (hl3.trans vD.symm) ht2 hd2' hW hc ht3 hd3' hv3 n3 n4 n5 hU; exact ⟨by simpa using hl3, hd3.set _ (Nat.mod_lt _ (by decide)), by simpa using hql, hqd.set _ (by omega), by omega, p1, p2⟩), (by first | omega | (dsimp only; omega))⟩
     ·replace h8 := of_decide_eq_false h8
      obtain ⟨n1, n2, n3⟩ := m3 (by omega)
      refine kx [] [(0, some (bm jB (u2.set (j + b.length) 0)))] (zM <| zM <| zM <| zE (qQ (j + b.length)) <| zM <| zE (mU un2 hH 0 (hr := by exact (wu32 (by omega) (by omega) (by omega)))) <| zE (oXo kV (j + b.length)) <| zT (oSp uR (j + b.length) 0) <| zZ) ?_
      refine kx [] [(1, some (bm jB (q.set j G)))] (zM <| zM <| zM <| zE (mU nD hH G) <| zE (oXo kV j) <| zT (oSp uR j G) <| zZ) ?_
      refine kx [(10, (vi (((j : Nat) : Int) - 1)))] [] (zM <| zE (aF (((j : Nat) : Int) - 1)) <| zM <| zZ) ?_
      exact ⟨(j, u2.set (j + b.length) 0, q.set j G), wk, (by obtain ⟨p1, p2⟩ := pos_end hu hvd hvl (by omega) (by omega) (hl2.trans vD.symm) ht2 hd2' hW n2 n3 hU; exact ⟨by simpa using hl2, hd2.set _ (by decide), by simpa using hql, hqd.set _ (by omega), by omega, p1, p2⟩), (by first | omega | (dsimp only; omega))⟩
  ·replace h2 := of_decide_eq_false h2
   obtain rfl : k = 0 := by omega
   obtain ⟨e1, e2⟩ := scl_div hdb (by omega) (by rw [hvv] at hU; exact hU) (by rw [hvv] at hW; exact hW)
   rw [List.drop_zero] at hW
   refine kQ <| jA <| kX (xY (t := 7) (k := 0) (es := List.map jB u) rfl rfl (xV _ _ (fun _ => rfl)) (xU _ _ vD) (yF _ _ (fun _ => rfl) vD)) ?_
   refine kx [(5, (vl 152 1 jB (ofNat (val (ofNat (val (List.take b.length u))) / (cZ b)))))] [] (zM <| zM <| zE (e_slc (l := 0) (h := b.length) (kl := .i64) (kh := .i64) (es' := List.map jB (List.take b.length u)) (by exact rfl) kV (by exact rfl) (by exact rfl) (by exact rfl) (Nat.zero_le _) (by simp only [List.length_map]; omega) (by rw [List.drop_zero, List.map_take])) <| zE (kC (t_trim (List.take b.length u) (hu.take _) (by rw [List.length_take]; omega))) <| zM <| zE (kC (t_short (ofNat (val (List.take b.length u))) (cZ b) (qA _) (by omega) (by omega) (Nat.le_trans (ofNat_val_len (hu.take _)) (by rw [List.length_take]; omega)))) <| zM <| zE uH <| zE uH <| zM <| zZ) ?_
   refine jA <| kX (xY (t := 4) (k := 1) (es := List.map jB q) rfl rfl (xV _ _ (fun _ => rfl)) (xU _ _ hql) (yF _ _ (fun _ => rfl) hql)) ?_
   refine kx [(4, (vl 152 1 jB (ofNat (val q)))), (5, (vl 152 1 jB (ofNat (val (ofNat (val (List.take b.length u))) / (cZ b)))))] [] (zM <| zE (kC (t_trim q hqd (by omega))) <| zM <| zM <| zM <| zZ) ?_
   refine jG ⟨_, (.tmp (d := (.sl 152 1 (List.map jB (ofNat (val q))))) rfl (.tmp (d := (.sl 152 1 (List.map jB (ofNat (val (ofNat (val (List.take b.length u))) / (cZ b)))))) rfl .nil)), ?_⟩
   rw [← e1, ← e2, kW, val_take_of_lt (Nat.lt_trans hW (by rw [← hvl]; exact xS hvd))]; rfl
end Go.Proofs.YtbecgnplakngdaaGreat
namespace Go.Proofs.YtbecgnplakngdaaGreat
open Go.Fid
set_option maxRecDepth 4000
set_option linter.unusedVariables false
set_option linter.unusedSimpArgs false
theorem cb145 : callB Tryz.prog 145 = true := by kernel_rfl
theorem cb151 : callB Tryz.prog 151 = true := by kernel_rfl
theorem cb186 : callB Tryz.prog 186 = true := by kernel_rfl
theorem t_over (a b : List Nat) (ha : gS a) (hb : gS b) (hb0 : 0 < val b) (hla : a.length ≤ 1099511627776) (hlb : b.length ≤ 1099511627776) : kF Tryz.prog 186 [(.sl 152 1 (List.map jB a)), (.sl 152 1 (List.map jB b))] (.tup [(.sl 152 1 (List.map jB (ofNat (val a / val b)))), (.sl 152 1 (List.map jB (ofNat (val a % val b))))]) := by
 refine jL Tryz.func186 rfl cb186 rfl ?_
 show uK _ _ _ _ ⟨[(0, (vl 152 1 jB a)), (1, (vl 152 1 jB b))], []⟩
 refine jA <| kx [] [] (zE (oNl 152 1) <| zE (oNl 152 1) <| zZ) ?_
 refine jA <| jA <| kx [(15, (vb (decide ((xC ((val a : Nat) : Int) ((val b : Nat) : Int)) < 0))))] [] (zM <| zM <| zE (kC (t_compare a b ha hb (by omega))) <| zE qS <| zZ) ?_
 refine jQ rfl (fun h1 => ?_) (fun h1 => ?_)
 ·replace h1 := of_decide_eq_true h1
  refine jA <| kx [(4, (vl 152 1 jB [])), (5, (vl 152 1 jB a))] [] (zM <| zE (oNl 152 1) <| zM <| zZ) ?_
  refine jG ⟨_, (.tmp (d := (.sl 152 1 (List.map jB []))) rfl (.tmp (d := (.sl 152 1 (List.map jB a))) rfl .nil)), ?_⟩
  have hlt := cmpI_neg h1
  rw [Nat.div_eq_of_lt hlt, Nat.mod_eq_of_lt hlt, vU, ← can_eq ha]; rfl
 ·replace h1 := of_decide_eq_false h1
  refine jD <| jA <| kx [(6, (gQ (gB a))), (7, (vb (mM a)))] [] (zM <| zE (kC (t_word a ha.1)) <| zM <| zE uH <| zE uH <| zM <| zM <| zZ) ?_
  refine jA <| kx [(8, (gQ (gB b))), (9, (vb (mM b)))] [] (zM <| zE (kC (t_word b hb.1)) <| zM <| zE uH <| zE uH <| zM <| zM <| zZ) ?_
  refine jA <| jA <| kx [(30, (vb ((mM a) && (mM b))))] [] ?_ ?_
  ·refine zM <| zE (oV (vb (mM a)) (xD (by kernel_rfl))) <| ?_
   rcases hb2 : (mM a) with _ | _
   ·exact zK <| zE fC <| zZ
   ·exact zM <| zE oPa <| zZ
  refine jQ (b := ((mM a) && (mM b))) rfl (fun h3 => ?_) (fun h3 => ?_)
  ·obtain ⟨w1, w2, w3⟩ := word_both ha.1 h3
   have w4 : gB a / gB b < 18446744073709551616 := Nat.lt_of_le_of_lt (Nat.div_le_self _ _) (by omega)
   have w5 : gB a % gB b < 18446744073709551616 := Nat.lt_of_le_of_lt (Nat.mod_le _ _) (by omega)
   refine jA <| kd [(4, (vl 152 1 jB (ofNat ((gB a) / (gB b))))), (5, (vl 152 1 jB (ofNat ((gB a) % (gB b)))))] [] mo (wM <| wM <| wE (oQu ((gB a) / (gB b))) <| wE (kC (t_split ((gB a) / (gB b)) (by omega))) <| wM <| wM <| wE (aI ((gB a) % (gB b))) <| wE (kC (t_split ((gB a) % (gB b)) (by omega))) <| wM <| wM <| wZ) ?_
   refine jG ⟨_, (.tmp (d := (.sl 152 1 (List.map jB (ofNat ((gB a) / (gB b)))))) rfl (.tmp (d := (.sl 152 1 (List.map jB (ofNat ((gB a) % (gB b)))))) rfl .nil)), ?_⟩
   rw [w1, w2]; rfl
  ·refine jD <| jA <| jA <| kx [(41, (vb (((b.length : Nat) : Int) == 1)))] [] (zM <| zE (nC kV) <| zE aO <| zZ) ?_
   refine jQ (b := (((b.length : Nat) : Int) == 1)) rfl (fun h4 => ?_) (fun h4 => ?_)
   ·replace h4 := eq_of_beq h4
    have hv1 := val_len1 (b := b) (by omega)
    have hg := hb.1.getD 0
    have w5 : val a % b.getD 0 0 < 4294967296 := Nat.lt_trans (Nat.mod_lt _ (by omega)) (by omega)
    refine jA <| kx [(10, (vl 152 1 jB (ofNat (val a / (b.getD 0 0))))), (11, (aG (val a % (b.getD 0 0))))] [] (zM <| zM <| zE (eP kV 0 (0 : Nat)) <| zE (yN uR) <| zE (kC (t_short a (b.getD 0 0) ha.1 (by omega) (by omega) (by omega))) <| zM <| zE uH <| zE uH <| zM <| zM <| zZ) ?_
    refine jA <| kx [(4, (vl 152 1 jB (ofNat (val a / (b.getD 0 0))))), (5, (vl 152 1 jB (ofNat (val a % (b.getD 0 0)))))] [] (zM <| zM <| zE (mU gG gA (val a % (b.getD 0 0))) <| zE (kC (t_split (val a % (b.getD 0 0)) (by omega))) <| zM <| zM <| zZ) ?_
    refine jG ⟨_, (.tmp (d := (.sl 152 1 (List.map jB (ofNat (val a / (b.getD 0 0)))))) rfl (.tmp (d := (.sl 152 1 (List.map jB (ofNat (val a % (b.getD 0 0)))))) rfl .nil)), ?_⟩
    rw [hv1]; rfl
   ·replace h4 := ne_of_beq_false h4
    have hbl := val_pos_len hb0
    refine jD <| jA <| kx [(4, (vl 152 1 jB (ofNat (val a / val b)))), (5, (vl 152 1 jB (ofNat (val a % val b))))] [] (zM <| zM <| zE (kC (t_long a b ha hb (by omega) (cmpI_nn h1) (by omega))) <| zE uH <| zE uH <| zM <| zM <| zZ) ?_
    refine jG ⟨_, (.tmp (d := (.sl 152 1 (List.map jB (ofNat (val a / val b))))) rfl (.tmp (d := (.sl 152 1 (List.map jB (ofNat (val a % val b))))) rfl .nil)), ?_⟩
    rfl
theorem t_divideI (x y : jF) (hx : x.gs.length ≤ 1099511627776) (hy : y.gs.length ≤ 1099511627776) (hy0 : kK y ≠ 0) : kF Tryz.prog 151 [(jH x), (jH y)] (.tup [(jH (jK ((kK x).fdiv (kK y)))), (jH (jK ((kK x).fmod (kK y)))), (.val (.int .i64 (0)))]) := by
 have hgx := uB x
 have hlx := yV x
 have hgy := uB y
 have hly := yV y
 have hn : 0 < val (qD y) := by have := iW y; omega
 have hq := len_quo (qD x) hgx (val (qD y))
 have hr := len_rem (qD x) hgx (val (qD y))
 have hrn := Nat.mod_lt (val (qD x)) hn
 refine jL Tryz.func151 rfl cb151 rfl ?_
 show uK _ _ _ _ ⟨[(0, (.d (jH x))), (1, (.d (jH y)))], []⟩
 refine jA <| kx [(2, (.ref 0 0)), (3, (.ref 1 0)), (4, (.ref 2 0)), (5, (.ref 3 0))] [(0, some (bx (jH x))), (1, some (bx (jH y))), (2, some (bx (jH (jF.mk false [])))), (3, some (bx (jH (jF.mk false []))))] (zN (uX 0) <| zN (uX 1) <| zN (qH 2 uD uE) <| zN (qH 3 uD uE) <| zM <| zZ) ?_
 refine jA <| kd [(7, (vl 152 1 jB (qD x))), (8, (vl 152 1 jB (qD y)))] [] mo (wR (kA jI) <| wE (kC (gR x (by omega))) <| wR (kA jI) <| wE (kC (gR y (by omega))) <| wM <| wM <| wZ) ?_
 refine jA <| jA <| kx [(17, (vb ((((qD y).length : Nat) : Int) == 0)))] [] (zM <| zE (nC kV (L := (qD y))) <| zE aO <| zZ) ?_
 refine jQ (b := ((((qD y).length : Nat) : Int) == 0)) rfl (fun h1 => ?_) (fun h1 => ?_)
 ·replace h1 := eq_of_beq h1
  exact absurd (toZ_nil h1) hy0
 ·replace h1 := ne_of_beq_false h1
  refine jD <| jA <| kx [(9, (vl 152 1 jB (ofNat (val (qD x) / val (qD y))))), (10, (vl 152 1 jB (ofNat (val (qD x) % val (qD y)))))] [] (zM <| zM <| zE (kC (t_over (qD x) (qD y) hgx hgy (by omega) (by omega) (by omega))) <| zM <| zE uH <| zE uH <| zM <| zM <| zZ) ?_
  refine jA <| kx [(10, (vl 152 1 jB (ofNat (val (qD x) % val (qD y)))))] [] (zM <| zE (kC (t_clone (ofNat (val (qD x) % val (qD y))) (by omega))) <| zM <| zZ) ?_
  refine jA <| jA <| kx [(37, (vb (decide (0 < (((ofNat (val (qD x) % val (qD y))).length : Nat) : Int)) && !(x.neg == y.neg))))] [] ?_ ?_
  ·refine zM <| zE (nC kV (L := (ofNat (val (qD x) % val (qD y))))) <| zE bO <| zE (oV (vb (decide (0 < (((ofNat (val (qD x) % val (qD y))).length : Nat) : Int)))) (xD (by kernel_rfl))) <| ?_
   rcases hb2 : (decide (0 < (((ofNat (val (qD x) % val (qD y))).length : Nat) : Int))) with _ | _
   ·replace hb2 := of_decide_eq_false hb2
    exact zK <| zK <| zK <| zK <| zK <| zE fC <| zZ
   ·replace hb2 := of_decide_eq_true hb2
    exact zE (kU uS) <| zR (uM eI) <| zE (kU uS) <| zR (uM eI) <| zE (oNb bo4) <| zE oPa <| zZ
  refine jQ rfl (fun h3 => ?_) (fun h3 => ?_)
  ·have e1 : (ofNat (val (ofNat (val (qD x) / val (qD y))) + val [1])).length ≤ 1099511627777 := vH (by rw [kW, cY]; have := ofNat_lt_pw (val (qD x) / val (qD y)); have h3 : pw (ofNat (val (qD x) / val (qD y))).length ≤ pw 1099511627776 := nE (by omega); have h4 := pw_lt (show 1099511627776 < 1099511627777 by decide); omega)
   have e2 := sub_len (b := ofNat (val (qD x) % val (qD y))) hgy.1
   rw [Bool.and_eq_true, decide_eq_true_eq, Bool.not_eq_true', beq_eq_false_iff_ne] at h3
   obtain ⟨k1, k2⟩ := h3
   have k3 : 0 < val (qD x) % val (qD y) := by have := cC (uC (val (qD x) % val (qD y))) (by omega); rwa [kW] at this
   obtain ⟨d1, d2⟩ := div_other hn k2 k3
   refine kx [(9, (vl 152 1 jB (ofNat (val (ofNat (val (qD x) / val (qD y))) + val [1])))), (10, (vl 152 1 jB (ofNat (val (qD y) - val (ofNat (val (qD x) % val (qD y)))))))] [] (zM <| zE (cP kV xP gH) <| zE (kC (t_plus (ofNat (val (qD x) / val (qD y))) [1] (qA _) (gI.2 ⟨by decide, hO⟩) (by omega) (by decide))) <| zM <| zM <| zE (kC (t_minus (qD y) (ofNat (val (qD x) % val (qD y))) hgy.1 (qA _) (by rw [kW]; omega) (by omega))) <| zM <| zM <| zZ) ?_
   refine jA <| kd [(6, (kE 0))] [(2, some (bx (jH (zI (!(x.neg == y.neg)) (val (ofNat (val (ofNat (val (qD x) / val (qD y))) + val [1]))))))), (3, some (bx (jH (zI y.neg (val (ofNat (val (qD y) - val (ofNat (val (qD x) % val (qD y))))))))))] mo (wE (kU uS) <| wR (uM eI) <| wE (kU uS) <| wR (uM eI) <| wE (oNb bo4) <| wM <| wE (kC (dM (!(x.neg == y.neg)) (ofNat (val (ofNat (val (qD x) / val (qD y))) + val [1])) (qA _) (by omega))) <| wE (kU uS) <| wR (uM eI) <| wM <| wE (kC (dM y.neg (ofNat (val (qD y) - val (ofNat (val (qD x) % val (qD y))))) (qA _) (by omega))) <| wT (kR jI) <| wT (kR jI) <| wM <| wZ) ?_
   refine jG ⟨_, (qB (cs := (bx (jH (zI (!(x.neg == y.neg)) (val (ofNat (val (ofNat (val (qD x) / val (qD y))) + val [1]))))))) (d := (jH (zI (!(x.neg == y.neg)) (val (ofNat (val (ofNat (val (qD x) / val (qD y))) + val [1])))))) rfl rfl jI rfl rfl (qB (cs := (bx (jH (zI y.neg (val (ofNat (val (qD y) - val (ofNat (val (qD x) % val (qD y)))))))))) (d := (jH (zI y.neg (val (ofNat (val (qD y) - val (ofNat (val (qD x) % val (qD y))))))))) rfl rfl jI rfl rfl (.tmp (d := (.val (.int .i64 (0)))) rfl .nil))), ?_⟩
   unfold kK
   rw [d1, d2]
   simp only [kW, cY]
   rfl
  ·obtain ⟨d1, d2⟩ := div_same (b := x.neg) (c := y.neg) (m := val (qD x)) hn (by rw [Bool.and_eq_false_iff, decide_eq_false_iff_not, Bool.not_eq_false', beq_iff_eq] at h3; rcases h3 with k | k; right; have := eA (n := val (qD x) % val (qD y)); omega; exact .inl k)
   refine jD <| jA <| kd [(6, (kE 0))] [(2, some (bx (jH (zI (!(x.neg == y.neg)) (val (ofNat (val (qD x) / val (qD y)))))))), (3, some (bx (jH (zI y.neg (val (ofNat (val (qD x) % val (qD y))))))))] mo (wE (kU uS) <| wR (uM eI) <| wE (kU uS) <| wR (uM eI) <| wE (oNb bo4) <| wM <| wE (kC (dM (!(x.neg == y.neg)) (ofNat (val (qD x) / val (qD y))) (qA _) (by omega))) <| wE (kU uS) <| wR (uM eI) <| wM <| wE (kC (dM y.neg (ofNat (val (qD x) % val (qD y))) (qA _) (by omega))) <| wT (kR jI) <| wT (kR jI) <| wM <| wZ) ?_
   refine jG ⟨_, (qB (cs := (bx (jH (zI (!(x.neg == y.neg)) (val (ofNat (val (qD x) / val (qD y)))))))) (d := (jH (zI (!(x.neg == y.neg)) (val (ofNat (val (qD x) / val (qD y))))))) rfl rfl jI rfl rfl (qB (cs := (bx (jH (zI y.neg (val (ofNat (val (qD x) % val (qD y)))))))) (d := (jH (zI y.neg (val (ofNat (val (qD x) % val (qD y))))))) rfl rfl jI rfl rfl (.tmp (d := (.val (.int .i64 (0)))) rfl .nil))), ?_⟩
   unfold kK
   rw [d1, d2]
   simp only [kW]
   rfl
theorem t_gcdI (x y : jF) (hx : x.gs.length ≤ 1099511627776) (hy : y.gs.length ≤ 1099511627776) : kF Tryz.prog 145 [(jH x), (jH y)] (jH (jK ((Int.gcd (kK x) (kK y) : Nat) : Int))) := by
 have hgx := uB x
 have hlx := yV x
 have hgy := uB y
 have hly := yV y
 refine jL Tryz.func145 rfl cb145 rfl ?_
 show uK _ _ _ _ ⟨[(0, (.d (jH x))), (1, (.d (jH y)))], []⟩
 refine jA <| kx [(2, (.ref 0 0)), (3, (.ref 1 0)), (4, (.ref 2 0))] [(0, some (bx (jH x))), (1, some (bx (jH y))), (2, some (bx (jH (jF.mk false []))))] (zN (uX 0) <| zN (uX 1) <| zN (qH 2 uD uE) <| zZ) ?_
 refine jA <| kd [(5, (vl 152 1 jB (qD x))), (6, (vl 152 1 jB (qD y)))] [] mo (wR (kA jI) <| wE (kC (gR x (by omega))) <| wR (kA jI) <| wE (kC (gR y (by omega))) <| wM <| wM <| wZ) ?_
 refine jA <| jE <| uA (α := List Nat × List Nat) (fun (a, b) => ⟨[(4, (.ref 2 0)), (5, (vl 152 1 jB a)), (6, (vl 152 1 jB b))], [(2, some (bx (jH (jF.mk false []))))]⟩) (fun (a, b) => gS a ∧ gS b ∧ a.length ≤ 1099511627776 ∧ b.length ≤ 1099511627776 ∧ Nat.gcd (val a) (val b) = Int.gcd (kK x) (kK y)) (fun (a, b) => val b) (qD x, qD y) wk ⟨hgx, hgy, by omega, by omega, gcd_toZ x y⟩ ?_
 rintro ⟨a, b⟩ ⟨ha, hb, hla, hlb, hg⟩
 refine jA <| jA <| kx [(19, (vb (decide (0 < ((b.length : Nat) : Int)))))] [] (zM <| zE (nC kV) <| zE bO <| zZ) ?_
 refine jQ (b := decide (0 < ((b.length : Nat) : Int))) rfl (fun h1 => ?_) (fun h1 => ?_)
 ·replace h1 := of_decide_eq_true h1
  have hb0 := cC hb (by omega)
  refine jD <| jE <| jA <| kx [(7, (gQ (gB a))), (8, (vb (mM a)))] [] (zM <| zE (kC (t_word a ha.1)) <| zM <| zE uH <| zE uH <| zM <| zM <| zZ) ?_
  refine jA <| kx [(9, (gQ (gB b))), (10, (vb (mM b)))] [] (zM <| zE (kC (t_word b hb.1)) <| zM <| zE uH <| zE uH <| zM <| zM <| zZ) ?_
  refine jA <| jA <| kx [(33, (vb ((mM a) && (mM b))))] [] ?_ ?_
  ·refine zM <| zE (oV (vb (mM a)) (xD (by kernel_rfl))) <| ?_
   rcases hb2 : (mM a) with _ | _
   ·exact zK <| zE fC <| zZ
   ·exact zM <| zE oPa <| zZ
  refine jQ (b := ((mM a) && (mM b))) rfl (fun h3 => ?_) (fun h3 => ?_)
  ·obtain ⟨w1, w2, w3⟩ := word_both ha.1 h3
   have w4 : val b < 1000000000000000000 := by rw [Bool.and_eq_true] at h3; exact val_len2 hb.1 (of_decide_eq_true h3.2)
   refine jA <| jE <| uA (α := Nat × Nat) (fun (m, n) => ⟨[(4, (.ref 2 0)), (7, (gQ m)), (9, (gQ n))], [(2, some (bx (jH (jF.mk false []))))]⟩) (fun (m, n) => m < 1000000000000000000 ∧ n < 1000000000000000000 ∧ Nat.gcd m n = Int.gcd (kK x) (kK y)) (fun (m, n) => n) (gB a, gB b) wk ⟨by omega, by omega, by rw [w1, w2]; exact hg⟩ ?_
   rintro ⟨m, n⟩ ⟨hm, hn, hg2⟩
   refine jA <| jA <| kx [(35, (vb (decide (0 < ((n : Nat) : Int)))))] [] (zM <| zE bO <| zZ) ?_
   refine jQ (b := decide (0 < ((n : Nat) : Int))) rfl (fun h4 => ?_) (fun h4 => ?_)
   ·replace h4 := of_decide_eq_true h4
    refine jD <| jE <| kd [(7, (gQ n)), (9, (gQ (m % n)))] [] mo (wM <| wM <| wM <| wE (aI (m % n)) <| wM <| wM <| wZ) ?_
    exact ⟨(n, m % n), wk, ⟨hn, Nat.lt_of_le_of_lt (Nat.mod_le _ _) hm, by rw [← hg2, Nat.gcd_comm, ← Nat.gcd_rec, Nat.gcd_comm]⟩, (by dsimp only; exact Nat.mod_lt _ (by omega))⟩
   ·replace h4 := of_decide_eq_false h4
    obtain rfl : n = 0 := by omega
    rw [Nat.gcd_zero_right] at hg2
    refine kQ <| jA <| kx [] [(2, some (bx (jH (zI false (val (ofNat m))))))] (zM <| zE (kC (t_split m (by omega))) <| zE (kC (dM false (ofNat m) (qA _) (Nat.le_trans (aA (by omega)) (by decide)))) <| zT (kR jI) <| zZ) ?_
    refine jG ⟨_, (qB (cs := (bx (jH (zI false (val (ofNat m)))))) (d := (jH (zI false (val (ofNat m))))) rfl rfl jI rfl rfl .nil), ?_⟩
    rw [← hg2, kW, mkI_false]; rfl
  ·refine jD <| jA <| kx [(12, (vl 152 1 jB (ofNat (val a % val b))))] [] (zM <| zM <| zE (kC (t_over a b ha hb hb0 (by omega) (by omega))) <| zM <| zE uH <| zE uH <| zM <| zM <| zZ) ?_
   refine kx [(5, (vl 152 1 jB b)), (6, (vl 152 1 jB (ofNat (val a % val b))))] [] (zM <| zM <| zM <| zM <| zZ) ?_
   exact ⟨(b, ofNat (val a % val b)), wk, ⟨hb, uC _, hlb, Nat.le_trans (len_rem a ha _) hla, by rw [kW, ← hg, Nat.gcd_comm, ← Nat.gcd_rec, Nat.gcd_comm]⟩, (by dsimp only; rw [kW]; exact Nat.mod_lt _ hb0)⟩
 ·replace h1 := of_decide_eq_false h1
  have hb1 : b = [] := List.eq_nil_of_length_eq_zero (by omega)
  rw [hb1, val_nil, Nat.gcd_zero_right] at hg
  refine kQ <| jA <| kx [] [(2, some (bx (jH (zI false (val a)))))] (zM <| zE (kC (t_clone a (by omega))) <| zE (kC (dM false a ha.1 (by omega))) <| zT (kR jI) <| zZ) ?_
  refine jG ⟨_, (qB (cs := (bx (jH (zI false (val a))))) (d := (jH (zI false (val a)))) rfl rfl jI rfl rfl .nil), ?_⟩
  rw [← hg, mkI_false]; rfl
end Go.Proofs.YtbecgnplakngdaaGreat
