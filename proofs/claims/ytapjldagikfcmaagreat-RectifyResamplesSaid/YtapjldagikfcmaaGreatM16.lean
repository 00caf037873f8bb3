/- Part 16 of a proof: rules, plain facts, and functions walked. -/
import Derived.Test.YtapjldagikfcmaaGreatM15
namespace Go.Proofs.YtapjldagikfcmaaGreat
open Go.Fid
set_option maxRecDepth 4000
set_option linter.unusedVariables false
set_option linter.unusedSimpArgs false
theorem cb280 : callB Tryz.prog 280 = true := by kernel_rfl
theorem in2 : intB Tryz.prog 2 = some .i64 := by kernel_rfl
theorem un2 : (Tryz.prog.underlying 2).isSome = true := by kernel_rfl
set_option maxHeartbeats 4000000 in
theorem t_long (a b : List Nat) (hda : hC a) (hdb : hC b) (hb2 : 2 ≤ b.length) (hba : val b ≤ val a) (hla : a.length ≤ 1099511627776) : kH Tryz.prog 280 [(.sl 181 1 (List.map jC a)), (.sl 181 1 (List.map jC b))] (.tup [(.sl 181 1 (List.map jC (ofNat (val a / val b)))), (.sl 181 1 (List.map jC (ofNat (val a % val b))))]) := by
 have hab := len_of_le hda hdb hba
 have hsc := bB hdb (by omega)
 have htp := iB hdb (by omega)
 have hds : Dig [dJ b] := gP.2 ⟨by omega, nG⟩
 have hbp : 0 < val b := by have := val_top hdb.1 (by omega); have h2 := Nat.mul_le_mul_right (pw (b.length - 1)) htp.1; have h3 := pw_pos (b.length - 1); rw [Nat.succ_mul] at h2; omega
 obtain ⟨u0, hue⟩ : ∃ u0, u0 = ofNat (val a * val [dJ b]) := ⟨_, rfl⟩
 obtain ⟨v, hve⟩ : ∃ v, v = ofNat (val b * val [dJ b]) := ⟨_, rfl⟩
 have hu0 : Dig u0 := by rw [hue]; exact kW _
 have hvd : Dig v := by rw [hve]; exact kW _
 have hvl : v.length = b.length := by rw [hve, dD]; exact scl_len hdb (by omega)
 have hvv : val v = val b * dJ b := by rw [hve, dD]; exact kS _
 have hu0v : val u0 = val a * dJ b := by rw [hue, dD]; exact kS _
 have hu0l : a.length ≤ u0.length ∧ u0.length ≤ a.length + 1 := by rw [hue, dD]; exact scl_lenA hda hdb (by omega)
 have hLU : (u0 ++ [0]).length = u0.length + 1 := by simp
 have hcv : hC v := by rw [hve]; exact uD _
 have hv1p : 0 < v.getD (b.length - 1) 0 := by rw [← hvl]; exact (iB hcv (by omega)).1
 have hpv : pw (b.length - 1) ≤ val v := by have h1 := val_top hvd (by omega); rw [hvl] at h1; have h2 := Nat.mul_le_mul_right (pw (b.length - 1)) hv1p; omega
 refine jM Tryz.func280 rfl cb280 rfl ?_
 show uY _ _ _ _ ⟨[(0, (vl 181 1 jC a)), (1, (vl 181 1 jC b))], []⟩
 refine jA <| kx [] [] (zE (aX 181 1) <| zE (aX 181 1) <| zZ) ?_
 refine jA <| kx [(6, (fV (dJ b)))] [] (zM <| zM <| zE (nE kY) <| zE (oSb (b.length - 1)) <| zE (aC kY (b.length - 1) (0 : Nat)) <| zE (xN uX) <| zE (mV yY yR (b.getD (b.length - 1) 0)) <| zE (uE ((b.getD (b.length - 1) 0) + 1)) <| zE (oQu (dJ b) (hr := by exact (quo_u64 1000000000 (b.getD (b.length - 1) 0 + 1) (by decide)))) <| zE (mV nA nB (dJ b)) <| zM <| zZ) ?_
 refine jA <| kx [(7, (.own 0 181 1 u0.length))] [(0, some (bm jC u0))] (zM <| zM <| zE (mC kY xZ gL) <| zN (oCo 0 (hue ▸ o_times a [dJ b] hda.1 hds (by omega) (by simp) (by rw [dD]; exact Nat.mul_pos (by omega) hsc.1))) <| zM <| zZ) ?_
 refine jA <| kx [(8, (vl 181 1 jC v))] [] (zM <| zM <| zE (mC kY xZ gL) <| zE (kB (hve ▸ t_times b [dJ b] hdb.1 hds (by omega) (by simp))) <| zM <| zZ) ?_
 refine jA <| kx [(9, (kD b.length))] [] (zM <| zE (bJ kY b.length (hr := by exact (by simp [hvl]))) <| zM <| zZ) ?_
 refine jA <| kf [(7, (.own 0 181 1 ((u0 ++ [0]).length)))] [(0, some (bm jC (u0 ++ [0])))] (zM <| zE (mC kY xZ gL) <| zA jC u0 [0] rfl kY xZ mF <| zM <| zF) ?_
 refine jA <| jA <| kx [(50, (vb (decide ((((u0 ++ [0]).length : Nat) : Int) ≤ ((a.length : Nat) : Int)))))] [] (zM <| zE (oLo kY) <| zM <| zE (nE kY) <| zE oLe <| zZ) ?_
 refine jO rfl (fun h1 => ?_) (fun h1 => ?_)
 ·replace h1 := of_decide_eq_true h1
  exfalso; simp at h1; omega
 ·replace h1 := of_decide_eq_false h1
  refine jB <| jA <| kx [(4, (.own 1 181 1 ((u0 ++ [0]).length - b.length)))] [(1, some (bm jC (List.replicate ((u0 ++ [0]).length - b.length) 0)))] (zM <| zE (oLo kY) <| zM <| zE (oSb ((u0 ++ [0]).length - b.length)) <| zH (oMk 1 jC (0 : Nat) ((u0 ++ [0]).length - b.length) ((u0 ++ [0]).length - b.length) kY xZ gL mF) <| zM <| zZ) ?_
  refine jA <| jA <| kx [(10, (vi ((((u0 ++ [0]).length - b.length : Nat) : Int) - 1)))] [] (zM <| zE (oLo kY) <| zM <| zE (oSb ((u0 ++ [0]).length - b.length)) <| zE (cR ((((u0 ++ [0]).length - b.length : Nat) : Int) - 1)) <| zM <| zZ) ?_
  refine jE <| uN (α := Nat × List Nat × List Nat) (fun (k, u, q) => ⟨[(4, (.own 1 181 1 ((u0 ++ [0]).length - b.length))), (6, (fV (dJ b))), (7, (.own 0 181 1 ((u0 ++ [0]).length))), (8, (vl 181 1 jC v)), (9, (kD b.length)), (10, (vi (((k : Nat) : Int) - 1)))], [(0, some (bm jC u)), (1, some (bm jC q))]⟩) (fun (k, u, q) => u.length = (u0 ++ [0]).length ∧ Dig u ∧ q.length = (u0 ++ [0]).length - b.length ∧ Dig q ∧ k ≤ (u0 ++ [0]).length - b.length ∧ val u + val v * (pw k * val (q.drop k)) = val a * dJ b ∧ val (u.drop k) < val v) (fun (k, u, q) => k) ((u0 ++ [0]).length - b.length, u0 ++ [0], List.replicate ((u0 ++ [0]).length - b.length) 0) wk ⟨rfl, iA.2 ⟨hu0, gP.2 ⟨by decide, nG⟩⟩, by simp, yM _, Nat.le_refl _, by simp [dQ, val, hu0v], by have := long_start hu0 hvl hb2 (by omega) hpv; rw [hLU]; exact this⟩ ?_
  rintro ⟨k, u, q⟩ ⟨vJ, hu, hql, hqd, hk, hU, hW⟩
  refine jA <| jA <| kx [(65, (vb (decide (0 ≤ (((k : Nat) : Int) - 1)))))] [] (zM <| zE oGe <| zZ) ?_
  refine jO (b := decide (0 ≤ (((k : Nat) : Int) - 1))) rfl (fun h2 => ?_) (fun h2 => ?_)
  ·replace h2 := of_decide_eq_true h2
   obtain ⟨j, rfl⟩ : ∃ j, k = j + 1 := ⟨k - 1, by omega⟩
   rw [show (((j + 1 : Nat) : Int) - 1) = ((j : Nat) : Int) from by omega]
   have hg1 := hu.getD (j + b.length)
   have hg2 := hu.getD (j + b.length - 1)
   have hg3 := hu.getD (j + b.length - 2)
   have hg4 := hvd.getD (b.length - 1)
   have hg5 := hvd.getD (b.length - 2)
   obtain ⟨z1, z2, z3, z4, z5, z6⟩ := window_tops hu hvd hvl hb2 hW
   obtain ⟨hwz, hww⟩ := window hvd hvl hW
   refine jB <| jA <| jE <| jA <| kd [(10, (kD j)), (11, (gW (((u.getD (j + b.length) 0) * 1000000000) + (u.getD ((j + b.length) - 1) 0))))] [] mo (wM <| wM <| wM <| wE (uE (j + b.length)) <| wR ⟨(bm jC u), e_clo (t_at u (j + b.length)) (by exact rfl) (by exact rfl) (by exact rfl) (.o (.d .nil)) (vY jC u (fun _ => rfl)) (xP _ _ vJ) (zB _ _ (fun _ => rfl) vJ), by kernel_rfl⟩ <| wE (mV yY yR (u.getD (j + b.length) 0)) <| wE (oMl ((u.getD (j + b.length) 0) * 1000000000)) <| wM <| wM <| wM <| wE (uE (j + b.length)) <| wE (oSb ((j + b.length) - 1)) <| wE (oXo kY ((j + b.length) - 1)) <| wR (oLp uX ((j + b.length) - 1) (0 : Nat)) <| wE (mV yY yR (u.getD ((j + b.length) - 1) 0)) <| wE (uE (((u.getD (j + b.length) 0) * 1000000000) + (u.getD ((j + b.length) - 1) 0))) <| wM <| wZ) ?_
   refine jA <| kd [(12, (gW ((((u.getD (j + b.length) 0) * 1000000000) + (u.getD ((j + b.length) - 1) 0)) / (v.getD (b.length - 1) 0)))), (13, (gW ((((u.getD (j + b.length) 0) * 1000000000) + (u.getD ((j + b.length) - 1) 0)) % (v.getD (b.length - 1) 0))))] [] mo (wM <| wM <| wM <| wE (oSb (b.length - 1)) <| wE (aC kY (b.length - 1) (0 : Nat)) <| wE (xN uX) <| wE (mV yY yR (v.getD (b.length - 1) 0)) <| wE (oQu ((((u.getD (j + b.length) 0) * 1000000000) + (u.getD ((j + b.length) - 1) 0)) / (v.getD (b.length - 1) 0))) <| wM <| wM <| wM <| wE (oSb (b.length - 1)) <| wE (aC kY (b.length - 1) (0 : Nat)) <| wE (xN uX) <| wE (mV yY yR (v.getD (b.length - 1) 0)) <| wE (oRe ((((u.getD (j + b.length) 0) * 1000000000) + (u.getD ((j + b.length) - 1) 0)) % (v.getD (b.length - 1) 0))) <| wM <| wM <| wZ) ?_
   refine pwp_seqjoin (α := Nat × Nat) (fun (G, R) => ⟨[(4, (.own 1 181 1 ((u0 ++ [0]).length - b.length))), (6, (fV (dJ b))), (7, (.own 0 181 1 ((u0 ++ [0]).length))), (8, (vl 181 1 jC v)), (9, (kD b.length)), (10, (kD j)), (12, (gW G))], [(0, some (bm jC u)), (1, some (bm jC q))]⟩) (fun (G, R) => G < 1000000000 ∧ val (u.drop j) / val v ≤ G ∧ G ≤ val (u.drop j) / val v + 1) ?_ ?_
   ·refine uN (α := Nat × Nat) (fun (G, R) => ⟨[(4, (.own 1 181 1 ((u0 ++ [0]).length - b.length))), (6, (fV (dJ b))), (7, (.own 0 181 1 ((u0 ++ [0]).length))), (8, (vl 181 1 jC v)), (9, (kD b.length)), (10, (kD j)), (12, (gW G)), (13, (gW R))], [(0, some (bm jC u)), (1, some (bm jC q))]⟩) (fun (G, R) => G * (v.getD (b.length - 1) 0) + R = (u.getD (j + b.length) 0 * 1000000000 + u.getD (j + b.length - 1) 0) ∧ val (u.drop j) / val v ≤ G ∧ R < 1000000000 ∧ G ≤ 1999999999) (fun (G, R) => G) ((u.getD (j + b.length) 0 * 1000000000 + u.getD (j + b.length - 1) 0) / v.getD (b.length - 1) 0, (u.getD (j + b.length) 0 * 1000000000 + u.getD (j + b.length - 1) 0) % v.getD (b.length - 1) 0) wk ⟨by rw [Nat.mul_comm]; exact Nat.div_add_mod _ _, guess_first0 z5 z4 hv1p hg3, Nat.lt_trans (Nat.mod_lt _ hv1p) hg4, guess_top hv1p z1 hg2⟩ ?_
    rintro ⟨G, R⟩ ⟨hG0, hG1, hR, hGb⟩
    have hpq : G * v.getD (b.length - 2) 0 ≤ 1999999999 * 999999999 := Nat.mul_le_mul hGb (by omega)
    refine jA <| jA <| kd [(123, (vb (decide (1000000000 ≤ ((G : Nat) : Int)) || decide (((((R * 1000000000) + (u.getD ((j + b.length) - 2) 0)) : Nat) : Int) < (((G * (v.getD (b.length - 2) 0)) : Nat) : Int)))))] [] mo ?_ ?_
    ·refine wM <| wE oGe <| wE (oV (vb (decide (1000000000 ≤ ((G : Nat) : Int)))) (uS (by kernel_rfl))) <| ?_
     rcases hb3 : (decide (1000000000 ≤ ((G : Nat) : Int))) with _ | _
     ·replace hb3 := of_decide_eq_false hb3
      exact wM <| wM <| wM <| wE (oSb (b.length - 2)) <| wE (aC kY (b.length - 2) (0 : Nat)) <| wE (xN uX) <| wE (mV yY yR (v.getD (b.length - 2) 0)) <| wE (oMl (G * (v.getD (b.length - 2) 0))) <| wM <| wE (oMl (R * 1000000000)) <| wM <| wM <| wM <| wE (uE (j + b.length)) <| wE (oSb ((j + b.length) - 2)) <| wE (oXo kY ((j + b.length) - 2)) <| wR (oLp uX ((j + b.length) - 2) (0 : Nat)) <| wE (mV yY yR (u.getD ((j + b.length) - 2) 0)) <| wE (uE ((R * 1000000000) + (u.getD ((j + b.length) - 2) 0))) <| wE yZ <| wE eT <| wZ
     ·replace hb3 := of_decide_eq_true hb3
      exact wK <| wK <| wK <| wK <| wK <| wK <| wK <| wK <| wK <| wK <| wK <| wK <| wK <| wK <| wK <| wK <| wK <| wK <| wK <| wK <| wE yH <| wZ
    refine jO rfl (fun h4 => ?_) (fun h4 => ?_)
    ·rw [Bool.or_eq_true, decide_eq_true_eq, decide_eq_true_eq] at h4
     have hgl := guess_less (pw_pos _) z5 z4 hG0 hG1 hv1p z2 (by omega)
     refine jB <| jE <| jA <| kx [(12, (gW (G - 1)))] [] (zM <| zE (oSb (G - 1)) <| zM <| zZ) ?_
     refine jA <| kx [(13, (gW (R + (v.getD (b.length - 1) 0))))] [] (zM <| zM <| zM <| zE (oSb (b.length - 1)) <| zE (aC kY (b.length - 1) (0 : Nat)) <| zE (xN uX) <| zE (mV yY yR (v.getD (b.length - 1) 0)) <| zE (uE (R + (v.getD (b.length - 1) 0))) <| zM <| zZ) ?_
     refine jA <| kx [(135, (vb (decide (1000000000 ≤ (((R + (v.getD (b.length - 1) 0)) : Nat) : Int)))))] [] (zM <| zE oGe <| zZ) ?_
     refine jO rfl (fun h5 => ?_) (fun h5 => ?_)
     ·replace h5 := of_decide_eq_true h5
      refine kJ ?_
      refine pjoin_exit (id := 2) (α := Nat × Nat) (Q := fun _ _ => True) (St := fun (G, R) => ⟨[(4, (.own 1 181 1 ((u0 ++ [0]).length - b.length))), (6, (fV (dJ b))), (7, (.own 0 181 1 ((u0 ++ [0]).length))), (8, (vl 181 1 jC v)), (9, (kD b.length)), (10, (kD j)), (12, (gW G))], [(0, some (bm jC u)), (1, some (bm jC q))]⟩) (I := fun (G, R) => G < 1000000000 ∧ val (u.drop j) / val v ≤ G ∧ G ≤ val (u.drop j) / val v + 1) ?_
      exact ⟨(G - 1, R + v.getD (b.length - 1) 0), wk, (by have hd := guess_dec hgl.2 hG0; have hgb := guess_break hd z1 hg2 (by omega); exact ⟨hgb, hgl.1, guess_near z6 z3 hd hv1p (by omega) hgb (Nat.le_trans (Nat.mul_le_mul (show G - 1 ≤ 999999999 by omega) (show v.getD (b.length - 2) 0 ≤ 999999999 by omega)) (by omega))⟩)⟩
     ·replace h5 := of_decide_eq_false h5
      refine jB ?_
      exact ⟨(G - 1, R + v.getD (b.length - 1) 0), wk, (by exact ⟨guess_dec hgl.2 hG0, hgl.1, by omega, by omega⟩), (by first | omega | (dsimp only; omega))⟩
    ·refine kJ ?_
     refine pjoin_exit (id := 2) (α := Nat × Nat) (Q := fun _ _ => True) (St := fun (G, R) => ⟨[(4, (.own 1 181 1 ((u0 ++ [0]).length - b.length))), (6, (fV (dJ b))), (7, (.own 0 181 1 ((u0 ++ [0]).length))), (8, (vl 181 1 jC v)), (9, (kD b.length)), (10, (kD j)), (12, (gW G))], [(0, some (bm jC u)), (1, some (bm jC q))]⟩) (I := fun (G, R) => G < 1000000000 ∧ val (u.drop j) / val v ≤ G ∧ G ≤ val (u.drop j) / val v + 1) ?_
     exact ⟨(G, R), wk, (by rw [Bool.or_eq_false_iff, decide_eq_false_iff_not, decide_eq_false_iff_not] at h4; exact ⟨by omega, hG1, guess_near z6 z3 hG0 hv1p (by omega) (by omega) (by omega)⟩)⟩
   ·rintro ⟨G, R⟩ ⟨hG, hG1, hG2⟩
    have hjn : j + b.length < (u0 ++ [0]).length := by omega
    refine jA <| kx [(14, (kD 0)), (15, (gW 0))] [] (zM <| zM <| zZ) ?_
    refine jA <| jA <| kx [(136, (kD b.length)), (137, (kD 0))] [] (zM <| zM <| zZ) ?_
    refine jE <| uN (α := Nat × List Nat × Nat × Nat) (fun (i, u2, bo, ca) => ⟨[(4, (.own 1 181 1 ((u0 ++ [0]).length - b.length))), (6, (fV (dJ b))), (7, (.own 0 181 1 ((u0 ++ [0]).length))), (8, (vl 181 1 jC v)), (9, (kD b.length)), (10, (kD j)), (12, (gW G)), (14, (vi ((bo : Nat) : Int))), (15, (gW ca)), (136, (kD b.length)), (137, (kD i))], [(0, some (bm jC u2)), (1, some (bm jC q))]⟩) (fun (i, u2, bo, ca) => u2.length = (u0 ++ [0]).length ∧ Dig u2 ∧ u2.take j = u.take j ∧ u2.drop (j + i) = u.drop (j + i) ∧ i ≤ b.length ∧ bo ≤ 1 ∧ ca < 1000000000 ∧ val ((u2.drop j).take i) + G * val (v.take i) = val ((u.drop j).take i) + pw i * (ca + bo)) (fun (i, u2, bo, ca) => b.length - i) (0, u, 0, 0) wk ⟨vJ, hu, rfl, rfl, Nat.zero_le _, Nat.zero_le _, by decide, by simp [val]⟩ ?_
    rintro ⟨i, u2, bo, ca⟩ ⟨hl2, hd2, ht2, hd2', hin, hbo, hca, hv2⟩
    have hgi := hvd.getD i
    have hgu := hd2.getD (i + j)
    have hpq : G * v.getD i 0 ≤ 999999999 * 999999999 := Nat.mul_le_mul (by omega) (by omega)
    refine jA <| kx [(138, (vb (decide (((i : Nat) : Int) < ((b.length : Nat) : Int)))))] [] (zE qY <| zZ) ?_
    refine jA <| jO rfl (fun h6 => ?_) (fun h6 => ?_)
    ·replace h6 := of_decide_eq_true h6
     have hi : i < b.length := by omega
     refine jB <| jA <| jE <| jA <| kx [(16, (kD i))] [] (zM <| zM <| zZ) ?_
     refine jA <| kx [(17, (gW ((G * (v.getD i 0)) + ca)))] [] (zM <| zM <| zM <| zE (aC kY i (0 : Nat)) <| zE (xN uX) <| zE (mV yY yR (v.getD i 0)) <| zE (oMl (G * (v.getD i 0))) <| zM <| zE (uE ((G * (v.getD i 0)) + ca)) <| zM <| zZ) ?_
     refine jA <| kx [(15, (gW (((G * (v.getD i 0)) + ca) / 1000000000)))] [] (zM <| zE (oQu (((G * (v.getD i 0)) + ca) / 1000000000)) <| zM <| zZ) ?_
     refine jA <| kx [(18, (vi (((((u2.getD (i + j) 0) : Nat) : Int) - ((bo : Nat) : Int)) - (((((G * (v.getD i 0)) + ca) % 1000000000) : Nat) : Int))))] [] (zM <| zM <| zM <| zE (uE (i + j)) <| zE (oXo kY (i + j)) <| zR (oLp uX (i + j) (0 : Nat)) <| zE (mV yY in2 (u2.getD (i + j) 0)) <| zM <| zE (cR ((((u2.getD (i + j) 0) : Nat) : Int) - ((bo : Nat) : Int))) <| zM <| zE (oRe (((G * (v.getD i 0)) + ca) % 1000000000)) <| zE (mV nA in2 (((G * (v.getD i 0)) + ca) % 1000000000)) <| zE (cR (((((u2.getD (i + j) 0) : Nat) : Int) - ((bo : Nat) : Int)) - (((((G * (v.getD i 0)) + ca) % 1000000000) : Nat) : Int))) <| zM <| zZ) ?_
     refine jA <| kx [(14, (kD 0))] [] (zM <| zZ) ?_
     refine jA <| jA <| kx [(165, (vb (decide ((((((u2.getD (i + j) 0) : Nat) : Int) - ((bo : Nat) : Int)) - (((((G * (v.getD i 0)) + ca) % 1000000000) : Nat) : Int)) < 0))))] [] (zM <| zE qY <| zZ) ?_
     refine jO rfl (fun h7 => ?_) (fun h7 => ?_)
     ·replace h7 := of_decide_eq_true h7
      refine kx [(14, (kD 1)), (18, (vi ((((((u2.getD (i + j) 0) : Nat) : Int) - ((bo : Nat) : Int)) - (((((G * (v.getD i 0)) + ca) % 1000000000) : Nat) : Int)) + 1000000000)))] [] (zM <| zE (zAd ((((((u2.getD (i + j) 0) : Nat) : Int) - ((bo : Nat) : Int)) - (((((G * (v.getD i 0)) + ca) % 1000000000) : Nat) : Int)) + 1000000000)) <| zM <| zM <| zZ) ?_
      refine kx [] [(0, some (bm jC (u2.set (i + j) ((u2.getD (i + j) 0 + 1000000000) - bo - (G * v.getD i 0 + ca) % 1000000000))))] (zM <| zM <| zM <| zE (uE (i + j)) <| zM <| zE (mV un2 nB ((u2.getD (i + j) 0 + 1000000000) - bo - (G * v.getD i 0 + ca) % 1000000000) (hr := by exact (wu32 (by omega) (by omega) (by omega)))) <| zE (oXo kY (i + j)) <| zT (oSp uX (i + j) ((u2.getD (i + j) 0 + 1000000000) - bo - (G * v.getD i 0 + ca) % 1000000000)) <| zZ) ?_
      refine kx [(137, (kD (i + 1)))] [] (zE (uE (i + 1)) <| zM <| zZ) ?_
      exact ⟨(i + 1, u2.set (i + j) ((u2.getD (i + j) 0 + 1000000000) - bo - (G * v.getD i 0 + ca) % 1000000000), 1, (G * v.getD i 0 + ca) / 1000000000), wk, (by obtain ⟨q1, q2, q3, q4, q5⟩ := msub_step (v := v) (L := (u0 ++ [0]).length) (e := (u2.getD (i + j) 0 + 1000000000) - bo - (G * v.getD i 0 + ca) % 1000000000) (borrow' := 1) hjn hi hl2 vJ hd2 ht2 hd2' hv2 rfl (by omega) (by omega); exact ⟨q1, q2, q3, q4, by omega, by omega, by omega, q5⟩), (by first | omega | (dsimp only; omega))⟩
     ·replace h7 := of_decide_eq_false h7
      refine jB <| kx [] [(0, some (bm jC (u2.set (i + j) (u2.getD (i + j) 0 - bo - (G * v.getD i 0 + ca) % 1000000000))))] (zM <| zM <| zM <| zE (uE (i + j)) <| zM <| zE (mV un2 nB (u2.getD (i + j) 0 - bo - (G * v.getD i 0 + ca) % 1000000000) (hr := by exact (wu32 (by omega) (by omega) (by omega)))) <| zE (oXo kY (i + j)) <| zT (oSp uX (i + j) (u2.getD (i + j) 0 - bo - (G * v.getD i 0 + ca) % 1000000000)) <| zZ) ?_
      refine kx [(137, (kD (i + 1)))] [] (zE (uE (i + 1)) <| zM <| zZ) ?_
      exact ⟨(i + 1, u2.set (i + j) (u2.getD (i + j) 0 - bo - (G * v.getD i 0 + ca) % 1000000000), 0, (G * v.getD i 0 + ca) / 1000000000), wk, (by obtain ⟨q1, q2, q3, q4, q5⟩ := msub_step (v := v) (L := (u0 ++ [0]).length) (e := u2.getD (i + j) 0 - bo - (G * v.getD i 0 + ca) % 1000000000) (borrow' := 0) hjn hi hl2 vJ hd2 ht2 hd2' hv2 rfl (by omega) (by omega); exact ⟨q1, q2, q3, q4, by omega, by omega, by omega, q5⟩), (by first | omega | (dsimp only; omega))⟩
    ·replace h6 := of_decide_eq_false h6
     have hie : i = b.length := by omega
     rw [hie] at hd2' hv2 hin
     obtain ⟨m1, m2, m3⟩ := msub_end hu hd2 hvd hvl hW hG1 hG2 hd2' hv2
     refine kJ <| jA <| kx [(19, (vi (((((u2.getD (j + b.length) 0) : Nat) : Int) - ((bo : Nat) : Int)) - ((ca : Nat) : Int))))] [] (zM <| zM <| zM <| zE (uE (j + b.length)) <| zE (oXo kY (j + b.length)) <| zR (oLp uX (j + b.length) (0 : Nat)) <| zE (mV yY in2 (u2.getD (j + b.length) 0)) <| zM <| zE (cR ((((u2.getD (j + b.length) 0) : Nat) : Int) - ((bo : Nat) : Int))) <| zM <| zE (mV nA in2 ca) <| zE (cR (((((u2.getD (j + b.length) 0) : Nat) : Int) - ((bo : Nat) : Int)) - ((ca : Nat) : Int))) <| zM <| zZ) ?_
     refine jA <| jA <| kx [(189, (vb (decide ((((((u2.getD (j + b.length) 0) : Nat) : Int) - ((bo : Nat) : Int)) - ((ca : Nat) : Int)) < 0))))] [] (zM <| zE qY <| zZ) ?_
     refine jO rfl (fun h8 => ?_) (fun h8 => ?_)
     ·replace h8 := of_decide_eq_true h8
      obtain ⟨n1, n2, r, n3, n4, n5⟩ := m2 (by omega)
      refine jA <| kx [] [(0, some (bm jC (u2.set (j + b.length) 999999999)))] (zM <| zM <| zM <| zE (uE (j + b.length)) <| zM <| zE (zAd ((((((u2.getD (j + b.length) 0) : Nat) : Int) - ((bo : Nat) : Int)) - ((ca : Nat) : Int)) + 1000000000)) <| zE (mV un2 nB 999999999 (hr := by exact (wu32 (by omega) (by omega) (by omega)))) <| zE (oXo kY (j + b.length)) <| zT (oSp uX (j + b.length) 999999999) <| zZ) ?_
      refine jA <| kx [(12, (gW (G - 1)))] [] (zM <| zE (oSb (G - 1)) <| zM <| zZ) ?_
      refine jA <| kx [(20, (fV 0))] [] (zM <| zZ) ?_
      refine jA <| jA <| kx [(200, (kD b.length)), (201, (kD 0))] [] (zM <| zM <| zZ) ?_
      refine jE <| uN (α := Nat × List Nat × Nat) (fun (i, u3, c) => ⟨[(4, (.own 1 181 1 ((u0 ++ [0]).length - b.length))), (6, (fV (dJ b))), (7, (.own 0 181 1 ((u0 ++ [0]).length))), (8, (vl 181 1 jC v)), (9, (kD b.length)), (10, (kD j)), (12, (gW (G - 1))), (20, (fV c)), (200, (kD b.length)), (201, (kD i))], [(0, some (bm jC u3)), (1, some (bm jC q))]⟩) (fun (i, u3, c) => u3.length = (u0 ++ [0]).length ∧ Dig u3 ∧ u3.take j = (u2.set (j + b.length) 999999999).take j ∧ u3.drop (j + i) = (u2.set (j + b.length) 999999999).drop (j + i) ∧ i ≤ b.length ∧ c ≤ 1 ∧ val ((u3.drop j).take i) + pw i * c = val (((u2.set (j + b.length) 999999999).drop j).take i) + val (v.take i)) (fun (i, u3, c) => b.length - i) (0, u2.set (j + b.length) 999999999, 0) wk ⟨by simpa using hl2, hd2.set _ (by decide), rfl, rfl, Nat.zero_le _, Nat.zero_le _, by simp [val]⟩ ?_
      rintro ⟨i, u3, c⟩ ⟨hl3, hd3, ht3, hd3', hin, hc, hv3⟩
      have hgi := hvd.getD i
      have hgu := hd3.getD (i + j)
      have hgt := hd3.getD (j + b.length)
      refine jA <| kx [(202, (vb (decide (((i : Nat) : Int) < ((b.length : Nat) : Int)))))] [] (zE qY <| zZ) ?_
      refine jA <| jO rfl (fun h9 => ?_) (fun h9 => ?_)
      ·replace h9 := of_decide_eq_true h9
       have hi : i < b.length := by omega
       refine jB <| jA <| jE <| jA <| kx [(21, (kD i))] [] (zM <| zM <| zZ) ?_
       refine jA <| kd [(22, (fV (((u3.getD (i + j) 0) + (v.getD i 0)) + c)))] [] mo (wM <| wM <| wM <| wE (uE (i + j)) <| wE (oXo kY (i + j)) <| wR (oLp uX (i + j) (0 : Nat)) <| wM <| wM <| wE (aC kY i (0 : Nat)) <| wE (xN uX) <| wE (uE ((u3.getD (i + j) 0) + (v.getD i 0))) <| wM <| wE (uE (((u3.getD (i + j) 0) + (v.getD i 0)) + c)) <| wM <| wZ) ?_
       refine jA <| kx [(20, (fV 0))] [] (zM <| zZ) ?_
       refine jA <| jA <| kx [(218, (vb (decide (1000000000 ≤ (((((u3.getD (i + j) 0) + (v.getD i 0)) + c) : Nat) : Int)))))] [] (zM <| zE oGe <| zZ) ?_
       refine jO rfl (fun h10 => ?_) (fun h10 => ?_)
       ·replace h10 := of_decide_eq_true h10
        refine kx [(20, (fV 1)), (22, (fV ((((u3.getD (i + j) 0) + (v.getD i 0)) + c) - 1000000000)))] [] (zM <| zE (oSb ((((u3.getD (i + j) 0) + (v.getD i 0)) + c) - 1000000000)) <| zM <| zM <| zZ) ?_
        refine kx [] [(0, some (bm jC (u3.set (i + j) ((((u3.getD (i + j) 0) + (v.getD i 0)) + c) - 1000000000))))] (zM <| zM <| zM <| zE (uE (i + j)) <| zM <| zE (oXo kY (i + j)) <| zT (oSp uX (i + j) ((((u3.getD (i + j) 0) + (v.getD i 0)) + c) - 1000000000)) <| zZ) ?_
        refine kx [(201, (kD (i + 1)))] [] (zE (uE (i + 1)) <| zM <| zZ) ?_
        exact ⟨(i + 1, u3.set (i + j) (u3.getD (i + j) 0 + v.getD i 0 + c - 1000000000), 1), wk, (by obtain ⟨q1, q2, q3, q4, q5⟩ := addb_step (v := v) (L := (u0 ++ [0]).length) (s := u3.getD (i + j) 0 + v.getD i 0 + c) (e := u3.getD (i + j) 0 + v.getD i 0 + c - 1000000000) (c' := 1) hjn hi hl3 (by simpa using hl2) hd3 ht3 hd3' hv3 rfl (by omega) (by omega); exact ⟨q1, q2, q3, q4, by omega, by omega, q5⟩), (by first | omega | (dsimp only; omega))⟩
       ·replace h10 := of_decide_eq_false h10
        refine jB <| kx [] [(0, some (bm jC (u3.set (i + j) (((u3.getD (i + j) 0) + (v.getD i 0)) + c))))] (zM <| zM <| zM <| zE (uE (i + j)) <| zM <| zE (oXo kY (i + j)) <| zT (oSp uX (i + j) (((u3.getD (i + j) 0) + (v.getD i 0)) + c)) <| zZ) ?_
        refine kx [(201, (kD (i + 1)))] [] (zE (uE (i + 1)) <| zM <| zZ) ?_
        exact ⟨(i + 1, u3.set (i + j) (u3.getD (i + j) 0 + v.getD i 0 + c), 0), wk, (by obtain ⟨q1, q2, q3, q4, q5⟩ := addb_step (v := v) (L := (u0 ++ [0]).length) (s := u3.getD (i + j) 0 + v.getD i 0 + c) (e := u3.getD (i + j) 0 + v.getD i 0 + c) (c' := 0) hjn hi hl3 (by simpa using hl2) hd3 ht3 hd3' hv3 rfl (by omega) (by omega); exact ⟨q1, q2, q3, q4, by omega, by omega, q5⟩), (by first | omega | (dsimp only; omega))⟩
      ·replace h9 := of_decide_eq_false h9
       have hie2 : i = b.length := by omega
       rw [hie2] at hd3' hv3 hin
       refine kJ <| kx [] [(0, some (bm jC (u3.set (j + b.length) (((u3.getD (j + b.length) 0) + c) % 1000000000))))] (zM <| zM <| zM <| zE (uE (j + b.length)) <| zM <| zM <| zM <| zE (uE (j + b.length)) <| zE (oXo kY (j + b.length)) <| zR (oLp uX (j + b.length) (0 : Nat)) <| zM <| zE (uE ((u3.getD (j + b.length) 0) + c)) <| zE (oRe (((u3.getD (j + b.length) 0) + c) % 1000000000)) <| zE (oXo kY (j + b.length)) <| zT (oSp uX (j + b.length) (((u3.getD (j + b.length) 0) + c) % 1000000000)) <| zZ) ?_
       refine kx [] [(1, some (bm jC (q.set j (G - 1))))] (zM <| zM <| zM <| zE (mV nA nB (G - 1)) <| zE (oXo kY j) <| zT (oSp uX j (G - 1)) <| zZ) ?_
       refine kx [(10, (vi (((j : Nat) : Int) - 1)))] [] (zM <| zE (cR (((j : Nat) : Int) - 1)) <| zM <| zZ) ?_
       exact ⟨(j, u3.set (j + b.length) ((u3.getD (j + b.length) 0 + c) % 1000000000), q.set j (G - 1)), wk, (by obtain ⟨p1, p2⟩ := neg_end hd3 hvd hvl (by omega) (by omega) (hl2.trans vJ.symm) (hl3.trans vJ.symm) ht2 hd2' hW hc ht3 hd3' hv3 n3 n4 n5 hU; exact ⟨by simpa using hl3, hd3.set _ (Nat.mod_lt _ (by decide)), by simpa using hql, hqd.set _ (by omega), by omega, p1, p2⟩), (by first | omega | (dsimp only; omega))⟩
     ·replace h8 := of_decide_eq_false h8
      obtain ⟨n1, n2, n3⟩ := m3 (by omega)
      refine kx [] [(0, some (bm jC (u2.set (j + b.length) 0)))] (zM <| zM <| zM <| zE (uE (j + b.length)) <| zM <| zE (mV un2 nB 0 (hr := by exact (wu32 (by omega) (by omega) (by omega)))) <| zE (oXo kY (j + b.length)) <| zT (oSp uX (j + b.length) 0) <| zZ) ?_
      refine kx [] [(1, some (bm jC (q.set j G)))] (zM <| zM <| zM <| zE (mV nA nB G) <| zE (oXo kY j) <| zT (oSp uX j G) <| zZ) ?_
      refine kx [(10, (vi (((j : Nat) : Int) - 1)))] [] (zM <| zE (cR (((j : Nat) : Int) - 1)) <| zM <| zZ) ?_
      exact ⟨(j, u2.set (j + b.length) 0, q.set j G), wk, (by obtain ⟨p1, p2⟩ := pos_end hu hvd hvl (by omega) (by omega) (hl2.trans vJ.symm) ht2 hd2' hW n2 n3 hU; exact ⟨by simpa using hl2, hd2.set _ (by decide), by simpa using hql, hqd.set _ (by omega), by omega, p1, p2⟩), (by first | omega | (dsimp only; omega))⟩
  ·replace h2 := of_decide_eq_false h2
   obtain rfl : k = 0 := by omega
   obtain ⟨e1, e2⟩ := scl_div hdb (by omega) (by rw [hvv] at hU; exact hU) (by rw [hvv] at hW; exact hW)
   rw [List.drop_zero] at hW
   refine kJ <| jA <| kP (xY (t := 7) (k := 0) (es := List.map jC u) rfl rfl (vY _ _ (fun _ => rfl)) (xP _ _ vJ) (zB _ _ (fun _ => rfl) vJ)) ?_
   refine kx [(5, (vl 181 1 jC (ofNat (val (ofNat (val (List.take b.length u))) / (dJ b)))))] [] (zM <| zM <| zE (e_slc (l := 0) (h := b.length) (kl := .i64) (kh := .i64) (es' := List.map jC (List.take b.length u)) (by exact rfl) kY (by exact rfl) (by exact rfl) (by exact rfl) (Nat.zero_le _) (by simp only [List.length_map]; omega) (by rw [List.drop_zero, List.map_take])) <| zE (kB (t_trim (List.take b.length u) (hu.take _) (by rw [List.length_take]; omega))) <| zM <| zE (kB (t_short (ofNat (val (List.take b.length u))) (dJ b) (kW _) (by omega) (by omega) (Nat.le_trans (ofNat_val_len (hu.take _)) (by rw [List.length_take]; omega)))) <| zM <| zE vA <| zE vA <| zM <| zZ) ?_
   refine jA <| kP (xY (t := 4) (k := 1) (es := List.map jC q) rfl rfl (vY _ _ (fun _ => rfl)) (xP _ _ hql) (zB _ _ (fun _ => rfl) hql)) ?_
   refine kx [(4, (vl 181 1 jC (ofNat (val q)))), (5, (vl 181 1 jC (ofNat (val (ofNat (val (List.take b.length u))) / (dJ b)))))] [] (zM <| zE (kB (t_trim q hqd (by omega))) <| zM <| zM <| zM <| zZ) ?_
   refine jF ⟨_, (.tmp (d := (.sl 181 1 (List.map jC (ofNat (val q))))) rfl (.tmp (d := (.sl 181 1 (List.map jC (ofNat (val (ofNat (val (List.take b.length u))) / (dJ b)))))) rfl .nil)), ?_⟩
   rw [← e1, ← e2, kS, val_take_of_lt (Nat.lt_trans hW (by rw [← hvl]; exact zG hvd))]; rfl
end Go.Proofs.YtapjldagikfcmaaGreat
namespace Go.Proofs.YtapjldagikfcmaaGreat
open Go.Fid
set_option maxRecDepth 4000
set_option linter.unusedVariables false
set_option linter.unusedSimpArgs false
theorem cb161 : callB Tryz.prog 161 = true := by kernel_rfl
theorem cb230 : callB Tryz.prog 230 = true := by kernel_rfl
theorem cb248 : callB Tryz.prog 248 = true := by kernel_rfl
theorem t_over (a b : List Nat) (ha : hC a) (hb : hC b) (hb0 : 0 < val b) (hla : a.length ≤ 1099511627776) (hlb : b.length ≤ 1099511627776) : kH Tryz.prog 248 [(.sl 181 1 (List.map jC a)), (.sl 181 1 (List.map jC b))] (.tup [(.sl 181 1 (List.map jC (ofNat (val a / val b)))), (.sl 181 1 (List.map jC (ofNat (val a % val b))))]) := by
 refine jM Tryz.func248 rfl cb248 rfl ?_
 show uY _ _ _ _ ⟨[(0, (vl 181 1 jC a)), (1, (vl 181 1 jC b))], []⟩
 refine jA <| kx [] [] (zE (aX 181 1) <| zE (aX 181 1) <| zZ) ?_
 refine jA <| jA <| kx [(15, (vb (decide ((xR ((val a : Nat) : Int) ((val b : Nat) : Int)) < 0))))] [] (zM <| zM <| zE (kB (t_compare a b ha hb (by omega))) <| zE qY <| zZ) ?_
 refine jO rfl (fun h1 => ?_) (fun h1 => ?_)
 ·replace h1 := of_decide_eq_true h1
  refine jA <| kx [(4, (vl 181 1 jC [])), (5, (vl 181 1 jC a))] [] (zM <| zE (aX 181 1) <| zM <| zZ) ?_
  refine jF ⟨_, (.tmp (d := (.sl 181 1 (List.map jC []))) rfl (.tmp (d := (.sl 181 1 (List.map jC a))) rfl .nil)), ?_⟩
  have hlt := cmpI_neg h1
  rw [Nat.div_eq_of_lt hlt, Nat.mod_eq_of_lt hlt, xB, ← can_eq ha]; rfl
 ·replace h1 := of_decide_eq_false h1
  refine jB <| jA <| kx [(6, (gW (gH a))), (7, (vb (mS a)))] [] (zM <| zE (kB (t_word a ha.1)) <| zM <| zE vA <| zE vA <| zM <| zM <| zZ) ?_
  refine jA <| kx [(8, (gW (gH b))), (9, (vb (mS b)))] [] (zM <| zE (kB (t_word b hb.1)) <| zM <| zE vA <| zE vA <| zM <| zM <| zZ) ?_
  refine jA <| jA <| kx [(30, (vb ((mS a) && (mS b))))] [] ?_ ?_
  ·refine zM <| zE (oV (vb (mS a)) (uS (by kernel_rfl))) <| ?_
   rcases hb2 : (mS a) with _ | _
   ·exact zK <| zE zU <| zZ
   ·exact zM <| zE oPa <| zZ
  refine jO (b := ((mS a) && (mS b))) rfl (fun h3 => ?_) (fun h3 => ?_)
  ·obtain ⟨w1, w2, w3⟩ := word_both ha.1 h3
   have w4 : gH a / gH b < 18446744073709551616 := Nat.lt_of_le_of_lt (Nat.div_le_self _ _) (by omega)
   have w5 : gH a % gH b < 18446744073709551616 := Nat.lt_of_le_of_lt (Nat.mod_le _ _) (by omega)
   refine jA <| kd [(4, (vl 181 1 jC (ofNat ((gH a) / (gH b))))), (5, (vl 181 1 jC (ofNat ((gH a) % (gH b)))))] [] mo (wM <| wM <| wE (oQu ((gH a) / (gH b))) <| wE (kB (t_split ((gH a) / (gH b)) (by omega))) <| wM <| wM <| wE (oRe ((gH a) % (gH b))) <| wE (kB (t_split ((gH a) % (gH b)) (by omega))) <| wM <| wM <| wZ) ?_
   refine jF ⟨_, (.tmp (d := (.sl 181 1 (List.map jC (ofNat ((gH a) / (gH b)))))) rfl (.tmp (d := (.sl 181 1 (List.map jC (ofNat ((gH a) % (gH b)))))) rfl .nil)), ?_⟩
   rw [w1, w2]; rfl
  ·refine jB <| jA <| jA <| kx [(41, (vb (((b.length : Nat) : Int) == 1)))] [] (zM <| zE (nE kY) <| zE xK <| zZ) ?_
   refine jO (b := (((b.length : Nat) : Int) == 1)) rfl (fun h4 => ?_) (fun h4 => ?_)
   ·replace h4 := eq_of_beq h4
    have hv1 := val_len1 (b := b) (by omega)
    have hg := hb.1.getD 0
    have w5 : val a % b.getD 0 0 < 4294967296 := Nat.lt_trans (Nat.mod_lt _ (by omega)) (by omega)
    refine jA <| kx [(10, (vl 181 1 jC (ofNat (val a / (b.getD 0 0))))), (11, (fV (val a % (b.getD 0 0))))] [] (zM <| zM <| zE (aC kY 0 (0 : Nat)) <| zE (xN uX) <| zE (kB (t_short a (b.getD 0 0) ha.1 (by omega) (by omega) (by omega))) <| zM <| zE vA <| zE vA <| zM <| zM <| zZ) ?_
    refine jA <| kx [(4, (vl 181 1 jC (ofNat (val a / (b.getD 0 0))))), (5, (vl 181 1 jC (ofNat (val a % (b.getD 0 0)))))] [] (zM <| zM <| zE (mV yY yR (val a % (b.getD 0 0))) <| zE (kB (t_split (val a % (b.getD 0 0)) (by omega))) <| zM <| zM <| zZ) ?_
    refine jF ⟨_, (.tmp (d := (.sl 181 1 (List.map jC (ofNat (val a / (b.getD 0 0)))))) rfl (.tmp (d := (.sl 181 1 (List.map jC (ofNat (val a % (b.getD 0 0)))))) rfl .nil)), ?_⟩
    rw [hv1]; rfl
   ·replace h4 := ne_of_beq_false h4
    have hbl := val_pos_len hb0
    refine jB <| jA <| kx [(4, (vl 181 1 jC (ofNat (val a / val b)))), (5, (vl 181 1 jC (ofNat (val a % val b))))] [] (zM <| zM <| zE (kB (t_long a b ha hb (by omega) (cmpI_nn h1) (by omega))) <| zE vA <| zE vA <| zM <| zM <| zZ) ?_
    refine jF ⟨_, (.tmp (d := (.sl 181 1 (List.map jC (ofNat (val a / val b))))) rfl (.tmp (d := (.sl 181 1 (List.map jC (ofNat (val a % val b))))) rfl .nil)), ?_⟩
    rfl
theorem t_divideI (x y : jI) (hx : x.gs.length ≤ 1099511627776) (hy : y.gs.length ≤ 1099511627776) (hy0 : kI y ≠ 0) : kH Tryz.prog 230 [(jV x), (jV y)] (.tup [(jV (kN ((kI x).fdiv (kI y)))), (jV (kN ((kI x).fmod (kI y)))), (.val (.int .i64 (0)))]) := by
 have hgx := uH x
 have hlx := hN x
 have hgy := uH y
 have hly := hN y
 have hn : 0 < val (kM y) := by have := bQ y; omega
 have hq := len_quo (kM x) hgx (val (kM y))
 have hr := len_rem (kM x) hgx (val (kM y))
 have hrn := Nat.mod_lt (val (kM x)) hn
 refine jM Tryz.func230 rfl cb230 rfl ?_
 show uY _ _ _ _ ⟨[(0, (.d (jV x))), (1, (.d (jV y)))], []⟩
 refine jA <| kx [(2, (.ref 0 0)), (3, (.ref 1 0)), (4, (.ref 2 0)), (5, (.ref 3 0))] [(0, some (bx (jV x))), (1, some (bx (jV y))), (2, some (bx (jV (jI.mk false [])))), (3, some (bx (jV (jI.mk false []))))] (zN (vD 0) <| zN (vD 1) <| zN (uK 2 hH hM) <| zN (uK 3 hH hM) <| zM <| zZ) ?_
 refine jA <| kd [(7, (vl 181 1 jC (kM x))), (8, (vl 181 1 jC (kM y)))] [] mo (wR (kC kK) <| wE (kB (nM x (by omega))) <| wR (kC kK) <| wE (kB (nM y (by omega))) <| wM <| wM <| wZ) ?_
 refine jA <| jA <| kx [(17, (vb ((((kM y).length : Nat) : Int) == 0)))] [] (zM <| zE (nE kY (L := (kM y))) <| zE xK <| zZ) ?_
 refine jO (b := ((((kM y).length : Nat) : Int) == 0)) rfl (fun h1 => ?_) (fun h1 => ?_)
 ·replace h1 := eq_of_beq h1
  exact absurd (toZ_nil h1) hy0
 ·replace h1 := ne_of_beq_false h1
  refine jB <| jA <| kx [(9, (vl 181 1 jC (ofNat (val (kM x) / val (kM y))))), (10, (vl 181 1 jC (ofNat (val (kM x) % val (kM y)))))] [] (zM <| zM <| zE (kB (t_over (kM x) (kM y) hgx hgy (by omega) (by omega) (by omega))) <| zM <| zE vA <| zE vA <| zM <| zM <| zZ) ?_
  refine jA <| kx [(10, (vl 181 1 jC (ofNat (val (kM x) % val (kM y)))))] [] (zM <| zE (kB (t_clone (ofNat (val (kM x) % val (kM y))) (by omega))) <| zM <| zZ) ?_
  refine jA <| jA <| kx [(37, (vb (decide (0 < (((ofNat (val (kM x) % val (kM y))).length : Nat) : Int)) && !(x.neg == y.neg))))] [] ?_ ?_
  ·refine zM <| zE (nE kY (L := (ofNat (val (kM x) % val (kM y))))) <| zE yZ <| zE (oV (vb (decide (0 < (((ofNat (val (kM x) % val (kM y))).length : Nat) : Int)))) (uS (by kernel_rfl))) <| ?_
   rcases hb2 : (decide (0 < (((ofNat (val (kM x) % val (kM y))).length : Nat) : Int))) with _ | _
   ·replace hb2 := of_decide_eq_false hb2
    exact zK <| zK <| zK <| zK <| zK <| zE zU <| zZ
   ·replace hb2 := of_decide_eq_true hb2
    exact zE (kE zQ) <| zR (qR dX) <| zE (kE zQ) <| zR (qR dX) <| zE (oNb bo4) <| zE oPa <| zZ
  refine jO rfl (fun h3 => ?_) (fun h3 => ?_)
  ·have e1 : (ofNat (val (ofNat (val (kM x) / val (kM y))) + val [1])).length ≤ 1099511627777 := vF (by rw [kS, dD]; have := ofNat_lt_pw (val (kM x) / val (kM y)); have h3 : pw (ofNat (val (kM x) / val (kM y))).length ≤ pw 1099511627776 := nR (by omega); have h4 := pw_lt (show 1099511627776 < 1099511627777 by decide); omega)
   have e2 := sub_len (b := ofNat (val (kM x) % val (kM y))) hgy.1
   rw [Bool.and_eq_true, decide_eq_true_eq, Bool.not_eq_true', beq_eq_false_iff_ne] at h3
   obtain ⟨k1, k2⟩ := h3
   have k3 : 0 < val (kM x) % val (kM y) := by have := cO (uD (val (kM x) % val (kM y))) (by omega); rwa [kS] at this
   obtain ⟨d1, d2⟩ := div_other hn k2 k3
   refine kx [(9, (vl 181 1 jC (ofNat (val (ofNat (val (kM x) / val (kM y))) + val [1])))), (10, (vl 181 1 jC (ofNat (val (kM y) - val (ofNat (val (kM x) % val (kM y)))))))] [] (zM <| zE (mC kY xZ gL) <| zE (kB (t_plus (ofNat (val (kM x) / val (kM y))) [1] (kW _) (gP.2 ⟨by decide, nG⟩) (by omega) (by decide))) <| zM <| zM <| zE (kB (t_minus (kM y) (ofNat (val (kM x) % val (kM y))) hgy.1 (kW _) (by rw [kS]; omega) (by omega))) <| zM <| zM <| zZ) ?_
   refine jA <| kd [(6, (kD 0))] [(2, some (bx (jV (yD (!(x.neg == y.neg)) (val (ofNat (val (ofNat (val (kM x) / val (kM y))) + val [1]))))))), (3, some (bx (jV (yD y.neg (val (ofNat (val (kM y) - val (ofNat (val (kM x) % val (kM y))))))))))] mo (wE (kE zQ) <| wR (qR dX) <| wE (kE zQ) <| wR (qR dX) <| wE (oNb bo4) <| wM <| wE (kB (dR (!(x.neg == y.neg)) (ofNat (val (ofNat (val (kM x) / val (kM y))) + val [1])) (kW _) (by omega))) <| wE (kE zQ) <| wR (qR dX) <| wM <| wE (kB (dR y.neg (ofNat (val (kM y) - val (ofNat (val (kM x) % val (kM y))))) (kW _) (by omega))) <| wT (qG kK) <| wT (qG kK) <| wM <| wZ) ?_
   refine jF ⟨_, (qS (cs := (bx (jV (yD (!(x.neg == y.neg)) (val (ofNat (val (ofNat (val (kM x) / val (kM y))) + val [1]))))))) (d := (jV (yD (!(x.neg == y.neg)) (val (ofNat (val (ofNat (val (kM x) / val (kM y))) + val [1])))))) rfl rfl kK rfl rfl (qS (cs := (bx (jV (yD y.neg (val (ofNat (val (kM y) - val (ofNat (val (kM x) % val (kM y)))))))))) (d := (jV (yD y.neg (val (ofNat (val (kM y) - val (ofNat (val (kM x) % val (kM y))))))))) rfl rfl kK rfl rfl (.tmp (d := (.val (.int .i64 (0)))) rfl .nil))), ?_⟩
   unfold kI
   rw [d1, d2]
   simp only [kS, dD]
   rfl
  ·obtain ⟨d1, d2⟩ := div_same (b := x.neg) (c := y.neg) (m := val (kM x)) hn (by rw [Bool.and_eq_false_iff, decide_eq_false_iff_not, Bool.not_eq_false', beq_iff_eq] at h3; rcases h3 with k | k; right; have := cE (n := val (kM x) % val (kM y)); omega; exact .inl k)
   refine jB <| jA <| kd [(6, (kD 0))] [(2, some (bx (jV (yD (!(x.neg == y.neg)) (val (ofNat (val (kM x) / val (kM y)))))))), (3, some (bx (jV (yD y.neg (val (ofNat (val (kM x) % val (kM y))))))))] mo (wE (kE zQ) <| wR (qR dX) <| wE (kE zQ) <| wR (qR dX) <| wE (oNb bo4) <| wM <| wE (kB (dR (!(x.neg == y.neg)) (ofNat (val (kM x) / val (kM y))) (kW _) (by omega))) <| wE (kE zQ) <| wR (qR dX) <| wM <| wE (kB (dR y.neg (ofNat (val (kM x) % val (kM y))) (kW _) (by omega))) <| wT (qG kK) <| wT (qG kK) <| wM <| wZ) ?_
   refine jF ⟨_, (qS (cs := (bx (jV (yD (!(x.neg == y.neg)) (val (ofNat (val (kM x) / val (kM y)))))))) (d := (jV (yD (!(x.neg == y.neg)) (val (ofNat (val (kM x) / val (kM y))))))) rfl rfl kK rfl rfl (qS (cs := (bx (jV (yD y.neg (val (ofNat (val (kM x) % val (kM y)))))))) (d := (jV (yD y.neg (val (ofNat (val (kM x) % val (kM y))))))) rfl rfl kK rfl rfl (.tmp (d := (.val (.int .i64 (0)))) rfl .nil))), ?_⟩
   unfold kI
   rw [d1, d2]
   simp only [kS]
   rfl
theorem t_gcdI (x y : jI) (hx : x.gs.length ≤ 1099511627776) (hy : y.gs.length ≤ 1099511627776) : kH Tryz.prog 161 [(jV x), (jV y)] (jV (kN ((Int.gcd (kI x) (kI y) : Nat) : Int))) := by
 have hgx := uH x
 have hlx := hN x
 have hgy := uH y
 have hly := hN y
 refine jM Tryz.func161 rfl cb161 rfl ?_
 show uY _ _ _ _ ⟨[(0, (.d (jV x))), (1, (.d (jV y)))], []⟩
 refine jA <| kx [(2, (.ref 0 0)), (3, (.ref 1 0)), (4, (.ref 2 0))] [(0, some (bx (jV x))), (1, some (bx (jV y))), (2, some (bx (jV (jI.mk false []))))] (zN (vD 0) <| zN (vD 1) <| zN (uK 2 hH hM) <| zZ) ?_
 refine jA <| kd [(5, (vl 181 1 jC (kM x))), (6, (vl 181 1 jC (kM y)))] [] mo (wR (kC kK) <| wE (kB (nM x (by omega))) <| wR (kC kK) <| wE (kB (nM y (by omega))) <| wM <| wM <| wZ) ?_
 refine jA <| jE <| uN (α := List Nat × List Nat) (fun (a, b) => ⟨[(4, (.ref 2 0)), (5, (vl 181 1 jC a)), (6, (vl 181 1 jC b))], [(2, some (bx (jV (jI.mk false []))))]⟩) (fun (a, b) => hC a ∧ hC b ∧ a.length ≤ 1099511627776 ∧ b.length ≤ 1099511627776 ∧ Nat.gcd (val a) (val b) = Int.gcd (kI x) (kI y)) (fun (a, b) => val b) (kM x, kM y) wk ⟨hgx, hgy, by omega, by omega, gcd_toZ x y⟩ ?_
 rintro ⟨a, b⟩ ⟨ha, hb, hla, hlb, hg⟩
 refine jA <| jA <| kx [(19, (vb (decide (0 < ((b.length : Nat) : Int)))))] [] (zM <| zE (nE kY) <| zE yZ <| zZ) ?_
 refine jO (b := decide (0 < ((b.length : Nat) : Int))) rfl (fun h1 => ?_) (fun h1 => ?_)
 ·replace h1 := of_decide_eq_true h1
  have hb0 := cO hb (by omega)
  refine jB <| jE <| jA <| kx [(7, (gW (gH a))), (8, (vb (mS a)))] [] (zM <| zE (kB (t_word a ha.1)) <| zM <| zE vA <| zE vA <| zM <| zM <| zZ) ?_
  refine jA <| kx [(9, (gW (gH b))), (10, (vb (mS b)))] [] (zM <| zE (kB (t_word b hb.1)) <| zM <| zE vA <| zE vA <| zM <| zM <| zZ) ?_
  refine jA <| jA <| kx [(33, (vb ((mS a) && (mS b))))] [] ?_ ?_
  ·refine zM <| zE (oV (vb (mS a)) (uS (by kernel_rfl))) <| ?_
   rcases hb2 : (mS a) with _ | _
   ·exact zK <| zE zU <| zZ
   ·exact zM <| zE oPa <| zZ
  refine jO (b := ((mS a) && (mS b))) rfl (fun h3 => ?_) (fun h3 => ?_)
  ·obtain ⟨w1, w2, w3⟩ := word_both ha.1 h3
   have w4 : val b < 1000000000000000000 := by rw [Bool.and_eq_true] at h3; exact val_len2 hb.1 (of_decide_eq_true h3.2)
   refine jA <| jE <| uN (α := Nat × Nat) (fun (m, n) => ⟨[(4, (.ref 2 0)), (7, (gW m)), (9, (gW n))], [(2, some (bx (jV (jI.mk false []))))]⟩) (fun (m, n) => m < 1000000000000000000 ∧ n < 1000000000000000000 ∧ Nat.gcd m n = Int.gcd (kI x) (kI y)) (fun (m, n) => n) (gH a, gH b) wk ⟨by omega, by omega, by rw [w1, w2]; exact hg⟩ ?_
   rintro ⟨m, n⟩ ⟨hm, hn, hg2⟩
   refine jA <| jA <| kx [(35, (vb (decide (0 < ((n : Nat) : Int)))))] [] (zM <| zE yZ <| zZ) ?_
   refine jO (b := decide (0 < ((n : Nat) : Int))) rfl (fun h4 => ?_) (fun h4 => ?_)
   ·replace h4 := of_decide_eq_true h4
    refine jB <| jE <| kd [(7, (gW n)), (9, (gW (m % n)))] [] mo (wM <| wM <| wM <| wE (oRe (m % n)) <| wM <| wM <| wZ) ?_
    exact ⟨(n, m % n), wk, ⟨hn, Nat.lt_of_le_of_lt (Nat.mod_le _ _) hm, by rw [← hg2, Nat.gcd_comm, ← Nat.gcd_rec, Nat.gcd_comm]⟩, (by dsimp only; exact Nat.mod_lt _ (by omega))⟩
   ·replace h4 := of_decide_eq_false h4
    obtain rfl : n = 0 := by omega
    rw [Nat.gcd_zero_right] at hg2
    refine kJ <| jA <| kx [] [(2, some (bx (jV (yD false (val (ofNat m))))))] (zM <| zE (kB (t_split m (by omega))) <| zE (kB (dR false (ofNat m) (kW _) (Nat.le_trans (fP (by omega)) (by decide)))) <| zT (qG kK) <| zZ) ?_
    refine jF ⟨_, (qS (cs := (bx (jV (yD false (val (ofNat m)))))) (d := (jV (yD false (val (ofNat m))))) rfl rfl kK rfl rfl .nil), ?_⟩
    rw [← hg2, kS, mkI_false]; rfl
  ·refine jB <| jA <| kx [(12, (vl 181 1 jC (ofNat (val a % val b))))] [] (zM <| zM <| zE (kB (t_over a b ha hb hb0 (by omega) (by omega))) <| zM <| zE vA <| zE vA <| zM <| zM <| zZ) ?_
   refine kx [(5, (vl 181 1 jC b)), (6, (vl 181 1 jC (ofNat (val a % val b))))] [] (zM <| zM <| zM <| zM <| zZ) ?_
   exact ⟨(b, ofNat (val a % val b)), wk, ⟨hb, uD _, hlb, Nat.le_trans (len_rem a ha _) hla, by rw [kS, ← hg, Nat.gcd_comm, ← Nat.gcd_rec, Nat.gcd_comm]⟩, (by dsimp only; rw [kS]; exact Nat.mod_lt _ hb0)⟩
 ·replace h1 := of_decide_eq_false h1
  have hb1 : b = [] := List.eq_nil_of_length_eq_zero (by omega)
  rw [hb1, val_nil, Nat.gcd_zero_right] at hg
  refine kJ <| jA <| kx [] [(2, some (bx (jV (yD false (val a)))))] (zM <| zE (kB (t_clone a (by omega))) <| zE (kB (dR false a ha.1 (by omega))) <| zT (qG kK) <| zZ) ?_
  refine jF ⟨_, (qS (cs := (bx (jV (yD false (val a))))) (d := (jV (yD false (val a)))) rfl rfl kK rfl rfl .nil), ?_⟩
  rw [← hg, mkI_false]; rfl
end Go.Proofs.YtapjldagikfcmaaGreat
