/- Part 15 of a proof: rules, plain facts, and functions walked. -/
import Derived.Test.YtbecgnplakngdaaGreatM14
namespace Go.Proofs.YtbecgnplakngdaaGreat
open Go.Fid
set_option maxRecDepth 4000
set_option linter.unusedVariables false
set_option linter.unusedSimpArgs false
theorem cb211 : callB Tryz.prog 211 = true := by kernel_rfl
theorem in2 : intB Tryz.prog 2 = some .i64 := by kernel_rfl
theorem un2 : (Tryz.prog.underlying 2).isSome = true := by kernel_rfl
set_option maxHeartbeats 4000000 in
theorem t_long (a b : List Nat) (hda : gS a) (hdb : gS b) (hb2 : 2 ≤ b.length) (hba : val b ≤ val a) (hla : a.length ≤ 1099511627776) : kH Tryz.prog 211 [(.sl 152 1 (List.map jC a)), (.sl 152 1 (List.map jC b))] (.tup [(.sl 152 1 (List.map jC (ofNat (val a / val b)))), (.sl 152 1 (List.map jC (ofNat (val a % val b))))]) := by
 have hab := len_of_le hda hdb hba
 have hsc := bX hdb (by omega)
 have htp := iZ hdb (by omega)
 have hds : Dig [eD b] := gH.2 ⟨by omega, nK⟩
 have hbp : 0 < val b := by have := val_top hdb.1 (by omega); have h2 := Nat.mul_le_mul_right (pw (b.length - 1)) htp.1; have h3 := pw_pos (b.length - 1); rw [Nat.succ_mul] at h2; omega
 obtain ⟨u0, hue⟩ : ∃ u0, u0 = ofNat (val a * val [eD b]) := ⟨_, rfl⟩
 obtain ⟨v, hve⟩ : ∃ v, v = ofNat (val b * val [eD b]) := ⟨_, rfl⟩
 have hu0 : Dig u0 := by rw [hue]; exact kR _
 have hvd : Dig v := by rw [hve]; exact kR _
 have hvl : v.length = b.length := by rw [hve, dP]; exact scl_len hdb (by omega)
 have hvv : val v = val b * eD b := by rw [hve, dP]; exact kQ _
 have hu0v : val u0 = val a * eD b := by rw [hue, dP]; exact kQ _
 have hu0l : a.length ≤ u0.length ∧ u0.length ≤ a.length + 1 := by rw [hue, dP]; exact scl_lenA hda hdb (by omega)
 have hLU : (u0 ++ [0]).length = u0.length + 1 := by simp
 have hcv : gS v := by rw [hve]; exact qU _
 have hv1p : 0 < v.getD (b.length - 1) 0 := by rw [← hvl]; exact (iZ hcv (by omega)).1
 have hpv : pw (b.length - 1) ≤ val v := by have h1 := val_top hvd (by omega); rw [hvl] at h1; have h2 := Nat.mul_le_mul_right (pw (b.length - 1)) hv1p; omega
 refine jP Tryz.func211 rfl cb211 rfl ?_
 show uK _ _ _ _ ⟨[(0, (vl 152 1 jC a)), (1, (vl 152 1 jC b))], []⟩
 refine jA <| kx [] [] (zE (oNl 152 1) <| zE (oNl 152 1) <| zZ) ?_
 refine jA <| kx [(6, (aL (eD b)))] [] (zM <| zM <| zE (dD kY) <| zE (oSb (b.length - 1)) <| zE (oXl kY (b.length - 1) (0 : Nat)) <| zE (xX uG) <| zE (cZ gK yY (b.getD (b.length - 1) 0)) <| zE (qP ((b.getD (b.length - 1) 0) + 1)) <| zE (oQu (eD b) (hr := by exact (quo_u64 1000000000 (b.getD (b.length - 1) 0 + 1) (by decide)))) <| zE (cZ nW gW (eD b)) <| zM <| zZ) ?_
 refine jA <| kx [(7, (.own 0 152 1 u0.length))] [(0, some (bm jC u0))] (zM <| zM <| zE (nO kY xK gI) <| zN (oCo 0 (hue ▸ o_times a [eD b] hda.1 hds (by omega) (by simp) (by rw [dP]; exact Nat.mul_pos (by omega) hsc.1))) <| zM <| zZ) ?_
 refine jA <| kx [(8, (vl 152 1 jC v))] [] (zM <| zM <| zE (nO kY xK gI) <| zE (kA (hve ▸ t_times b [eD b] hdb.1 hds (by omega) (by simp))) <| zM <| zZ) ?_
 refine jA <| kx [(9, (kD b.length))] [] (zM <| zE (yK kY b.length (hr := by exact (by simp [hvl]))) <| zM <| zZ) ?_
 refine jA <| kf [(7, (.own 0 152 1 ((u0 ++ [0]).length)))] [(0, some (bm jC (u0 ++ [0])))] (zM <| zE (nO kY xK gI) <| zA jC u0 [0] rfl kY xK cD <| zM <| zF) ?_
 refine jA <| jA <| kx [(50, (vb (decide ((((u0 ++ [0]).length : Nat) : Int) ≤ ((a.length : Nat) : Int)))))] [] (zM <| zE (oLo kY) <| zM <| zE (dD kY) <| zE oLe <| zZ) ?_
 refine jV rfl (fun h1 => ?_) (fun h1 => ?_)
 ·replace h1 := of_decide_eq_true h1
  exfalso; simp at h1; omega
 ·replace h1 := of_decide_eq_false h1
  refine jE <| jA <| kx [(4, (.own 1 152 1 ((u0 ++ [0]).length - b.length)))] [(1, some (bm jC (List.replicate ((u0 ++ [0]).length - b.length) 0)))] (zM <| zE (oLo kY) <| zM <| zE (oSb ((u0 ++ [0]).length - b.length)) <| zH (oMk 1 jC (0 : Nat) ((u0 ++ [0]).length - b.length) ((u0 ++ [0]).length - b.length) kY xK gI cD) <| zM <| zZ) ?_
  refine jA <| jA <| kx [(10, (vi ((((u0 ++ [0]).length - b.length : Nat) : Int) - 1)))] [] (zM <| zE (oLo kY) <| zM <| zE (oSb ((u0 ++ [0]).length - b.length)) <| zE (fT ((((u0 ++ [0]).length - b.length : Nat) : Int) - 1)) <| zM <| zZ) ?_
  refine jF <| uT (α := Nat × List Nat × List Nat) (fun (k, u, q) => ⟨[(4, (.own 1 152 1 ((u0 ++ [0]).length - b.length))), (6, (aL (eD b))), (7, (.own 0 152 1 ((u0 ++ [0]).length))), (8, (vl 152 1 jC v)), (9, (kD b.length)), (10, (vi (((k : Nat) : Int) - 1)))], [(0, some (bm jC u)), (1, some (bm jC q))]⟩) (fun (k, u, q) => u.length = (u0 ++ [0]).length ∧ Dig u ∧ q.length = (u0 ++ [0]).length - b.length ∧ Dig q ∧ k ≤ (u0 ++ [0]).length - b.length ∧ val u + val v * (pw k * val (q.drop k)) = val a * eD b ∧ val (u.drop k) < val v) (fun (k, u, q) => k) ((u0 ++ [0]).length - b.length, u0 ++ [0], List.replicate ((u0 ++ [0]).length - b.length) 0) wk ⟨rfl, iQ.2 ⟨hu0, gH.2 ⟨by decide, nK⟩⟩, by simp, yD _, Nat.le_refl _, by simp [eP, val, hu0v], by have := long_start hu0 hvl hb2 (by omega) hpv; rw [hLU]; exact this⟩ ?_
  rintro ⟨k, u, q⟩ ⟨vP, hu, hql, hqd, hk, hU, hW⟩
  refine jA <| jA <| kx [(65, (vb (decide (0 ≤ (((k : Nat) : Int) - 1)))))] [] (zM <| zE oGe <| zZ) ?_
  refine jV (b := decide (0 ≤ (((k : Nat) : Int) - 1))) rfl (fun h2 => ?_) (fun h2 => ?_)
  ·replace h2 := of_decide_eq_true h2
   obtain ⟨j, rfl⟩ : ∃ j, k = j + 1 := ⟨k - 1, by omega⟩
   rw [show (((j + 1 : Nat) : Int) - 1) = ((j : Nat) : Int) from by omega]
   have hg1 := hu.getD (j + b.length)
   have hg2 := hu.getD (j + b.length - 1)
   have hg3 := hu.getD (j + b.length - 2)
   have hg4 := hvd.getD (b.length - 1)
   have hg5 := hvd.getD (b.length - 2)
   obtain ⟨z1, z2, z3, z4, z5, z6⟩ := window_tops hu hvd hvl hb2 hW
   obtain ⟨hwz, hww⟩ := window hvd hvl hW
   refine jE <| jA <| jF <| jA <| kd [(10, (kD j)), (11, (gO (((u.getD (j + b.length) 0) * 1000000000) + (u.getD ((j + b.length) - 1) 0))))] [] mo (wM <| wM <| wM <| wE (qP (j + b.length)) <| wR ⟨(bm jC u), e_clo (t_at u (j + b.length)) (by exact rfl) (by exact rfl) (by exact rfl) (.o (.d .nil)) (vK jC u (fun _ => rfl)) (uS _ _ vP) (xG _ _ (fun _ => rfl) vP), by kernel_rfl⟩ <| wE (cZ gK yY (u.getD (j + b.length) 0)) <| wE (oMl ((u.getD (j + b.length) 0) * 1000000000)) <| wM <| wM <| wM <| wE (qP (j + b.length)) <| wE (oSb ((j + b.length) - 1)) <| wE (oXo kY ((j + b.length) - 1)) <| wR (oLp uG ((j + b.length) - 1) (0 : Nat)) <| wE (cZ gK yY (u.getD ((j + b.length) - 1) 0)) <| wE (qP (((u.getD (j + b.length) 0) * 1000000000) + (u.getD ((j + b.length) - 1) 0))) <| wM <| wZ) ?_
   refine jA <| kd [(12, (gO ((((u.getD (j + b.length) 0) * 1000000000) + (u.getD ((j + b.length) - 1) 0)) / (v.getD (b.length - 1) 0)))), (13, (gO ((((u.getD (j + b.length) 0) * 1000000000) + (u.getD ((j + b.length) - 1) 0)) % (v.getD (b.length - 1) 0))))] [] mo (wM <| wM <| wM <| wE (oSb (b.length - 1)) <| wE (oXl kY (b.length - 1) (0 : Nat)) <| wE (xX uG) <| wE (cZ gK yY (v.getD (b.length - 1) 0)) <| wE (oQu ((((u.getD (j + b.length) 0) * 1000000000) + (u.getD ((j + b.length) - 1) 0)) / (v.getD (b.length - 1) 0))) <| wM <| wM <| wM <| wE (oSb (b.length - 1)) <| wE (oXl kY (b.length - 1) (0 : Nat)) <| wE (xX uG) <| wE (cZ gK yY (v.getD (b.length - 1) 0)) <| wE (iM ((((u.getD (j + b.length) 0) * 1000000000) + (u.getD ((j + b.length) - 1) 0)) % (v.getD (b.length - 1) 0))) <| wM <| wM <| wZ) ?_
   refine pwp_seqjoin (α := Nat × Nat) (fun (G, R) => ⟨[(4, (.own 1 152 1 ((u0 ++ [0]).length - b.length))), (6, (aL (eD b))), (7, (.own 0 152 1 ((u0 ++ [0]).length))), (8, (vl 152 1 jC v)), (9, (kD b.length)), (10, (kD j)), (12, (gO G))], [(0, some (bm jC u)), (1, some (bm jC q))]⟩) (fun (G, R) => G < 1000000000 ∧ val (u.drop j) / val v ≤ G ∧ G ≤ val (u.drop j) / val v + 1) ?_ ?_
   ·refine uT (α := Nat × Nat) (fun (G, R) => ⟨[(4, (.own 1 152 1 ((u0 ++ [0]).length - b.length))), (6, (aL (eD b))), (7, (.own 0 152 1 ((u0 ++ [0]).length))), (8, (vl 152 1 jC v)), (9, (kD b.length)), (10, (kD j)), (12, (gO G)), (13, (gO R))], [(0, some (bm jC u)), (1, some (bm jC q))]⟩) (fun (G, R) => G * (v.getD (b.length - 1) 0) + R = (u.getD (j + b.length) 0 * 1000000000 + u.getD (j + b.length - 1) 0) ∧ val (u.drop j) / val v ≤ G ∧ R < 1000000000 ∧ G ≤ 1999999999) (fun (G, R) => G) ((u.getD (j + b.length) 0 * 1000000000 + u.getD (j + b.length - 1) 0) / v.getD (b.length - 1) 0, (u.getD (j + b.length) 0 * 1000000000 + u.getD (j + b.length - 1) 0) % v.getD (b.length - 1) 0) wk ⟨by rw [Nat.mul_comm]; exact Nat.div_add_mod _ _, guess_first0 z5 z4 hv1p hg3, Nat.lt_trans (Nat.mod_lt _ hv1p) hg4, guess_top hv1p z1 hg2⟩ ?_
    rintro ⟨G, R⟩ ⟨hG0, hG1, hR, hGb⟩
    have hpq : G * v.getD (b.length - 2) 0 ≤ 1999999999 * 999999999 := Nat.mul_le_mul hGb (by omega)
    refine jA <| jA <| kd [(123, (vb (decide (1000000000 ≤ ((G : Nat) : Int)) || decide (((((R * 1000000000) + (u.getD ((j + b.length) - 2) 0)) : Nat) : Int) < (((G * (v.getD (b.length - 2) 0)) : Nat) : Int)))))] [] mo ?_ ?_
    ·refine wM <| wE oGe <| wE (oV (vb (decide (1000000000 ≤ ((G : Nat) : Int)))) (xI (by kernel_rfl))) <| ?_
     rcases hb3 : (decide (1000000000 ≤ ((G : Nat) : Int))) with _ | _
     ·replace hb3 := of_decide_eq_false hb3
      exact wM <| wM <| wM <| wE (oSb (b.length - 2)) <| wE (oXl kY (b.length - 2) (0 : Nat)) <| wE (xX uG) <| wE (cZ gK yY (v.getD (b.length - 2) 0)) <| wE (oMl (G * (v.getD (b.length - 2) 0))) <| wM <| wE (oMl (R * 1000000000)) <| wM <| wM <| wM <| wE (qP (j + b.length)) <| wE (oSb ((j + b.length) - 2)) <| wE (oXo kY ((j + b.length) - 2)) <| wR (oLp uG ((j + b.length) - 2) (0 : Nat)) <| wE (cZ gK yY (u.getD ((j + b.length) - 2) 0)) <| wE (qP ((R * 1000000000) + (u.getD ((j + b.length) - 2) 0))) <| wE aG <| wE oPo <| wZ
     ·replace hb3 := of_decide_eq_true hb3
      exact wK <| wK <| wK <| wK <| wK <| wK <| wK <| wK <| wK <| wK <| wK <| wK <| wK <| wK <| wK <| wK <| wK <| wK <| wK <| wK <| wE bW <| wZ
    refine jV rfl (fun h4 => ?_) (fun h4 => ?_)
    ·rw [Bool.or_eq_true, decide_eq_true_eq, decide_eq_true_eq] at h4
     have hgl := guess_less (pw_pos _) z5 z4 hG0 hG1 hv1p z2 (by omega)
     refine jE <| jF <| jA <| kx [(12, (gO (G - 1)))] [] (zM <| zE (oSb (G - 1)) <| zM <| zZ) ?_
     refine jA <| kx [(13, (gO (R + (v.getD (b.length - 1) 0))))] [] (zM <| zM <| zM <| zE (oSb (b.length - 1)) <| zE (oXl kY (b.length - 1) (0 : Nat)) <| zE (xX uG) <| zE (cZ gK yY (v.getD (b.length - 1) 0)) <| zE (qP (R + (v.getD (b.length - 1) 0))) <| zM <| zZ) ?_
     refine jA <| kx [(135, (vb (decide (1000000000 ≤ (((R + (v.getD (b.length - 1) 0)) : Nat) : Int)))))] [] (zM <| zE oGe <| zZ) ?_
     refine jV rfl (fun h5 => ?_) (fun h5 => ?_)
     ·replace h5 := of_decide_eq_true h5
      refine kB ?_
      refine pjoin_exit (id := 2) (α := Nat × Nat) (Q := fun _ _ => True) (St := fun (G, R) => ⟨[(4, (.own 1 152 1 ((u0 ++ [0]).length - b.length))), (6, (aL (eD b))), (7, (.own 0 152 1 ((u0 ++ [0]).length))), (8, (vl 152 1 jC v)), (9, (kD b.length)), (10, (kD j)), (12, (gO G))], [(0, some (bm jC u)), (1, some (bm jC q))]⟩) (I := fun (G, R) => G < 1000000000 ∧ val (u.drop j) / val v ≤ G ∧ G ≤ val (u.drop j) / val v + 1) ?_
      exact ⟨(G - 1, R + v.getD (b.length - 1) 0), wk, (by have hd := guess_dec hgl.2 hG0; have hgb := guess_break hd z1 hg2 (by omega); exact ⟨hgb, hgl.1, guess_near z6 z3 hd hv1p (by omega) hgb (Nat.le_trans (Nat.mul_le_mul (show G - 1 ≤ 999999999 by omega) (show v.getD (b.length - 2) 0 ≤ 999999999 by omega)) (by omega))⟩)⟩
     ·replace h5 := of_decide_eq_false h5
      refine jE ?_
      exact ⟨(G - 1, R + v.getD (b.length - 1) 0), wk, (by exact ⟨guess_dec hgl.2 hG0, hgl.1, by omega, by omega⟩), (by first | omega | (dsimp only; omega))⟩
    ·refine kB ?_
     refine pjoin_exit (id := 2) (α := Nat × Nat) (Q := fun _ _ => True) (St := fun (G, R) => ⟨[(4, (.own 1 152 1 ((u0 ++ [0]).length - b.length))), (6, (aL (eD b))), (7, (.own 0 152 1 ((u0 ++ [0]).length))), (8, (vl 152 1 jC v)), (9, (kD b.length)), (10, (kD j)), (12, (gO G))], [(0, some (bm jC u)), (1, some (bm jC q))]⟩) (I := fun (G, R) => G < 1000000000 ∧ val (u.drop j) / val v ≤ G ∧ G ≤ val (u.drop j) / val v + 1) ?_
     exact ⟨(G, R), wk, (by rw [Bool.or_eq_false_iff, decide_eq_false_iff_not, decide_eq_false_iff_not] at h4; exact ⟨by omega, hG1, guess_near z6 z3 hG0 hv1p (by omega) (by omega) (by omega)⟩)⟩
   ·rintro ⟨G, R⟩ ⟨hG, hG1, hG2⟩
    have hjn : j + b.length < (u0 ++ [0]).length := by omega
    refine jA <| kx [(14, (kD 0)), (15, (gO 0))] [] (zM <| zM <| zZ) ?_
    refine jA <| jA <| kx [(136, (kD b.length)), (137, (kD 0))] [] (zM <| zM <| zZ) ?_
    refine jF <| uT (α := Nat × List Nat × Nat × Nat) (fun (i, u2, bo, ca) => ⟨[(4, (.own 1 152 1 ((u0 ++ [0]).length - b.length))), (6, (aL (eD b))), (7, (.own 0 152 1 ((u0 ++ [0]).length))), (8, (vl 152 1 jC v)), (9, (kD b.length)), (10, (kD j)), (12, (gO G)), (14, (vi ((bo : Nat) : Int))), (15, (gO ca)), (136, (kD b.length)), (137, (kD i))], [(0, some (bm jC u2)), (1, some (bm jC q))]⟩) (fun (i, u2, bo, ca) => u2.length = (u0 ++ [0]).length ∧ Dig u2 ∧ u2.take j = u.take j ∧ u2.drop (j + i) = u.drop (j + i) ∧ i ≤ b.length ∧ bo ≤ 1 ∧ ca < 1000000000 ∧ val ((u2.drop j).take i) + G * val (v.take i) = val ((u.drop j).take i) + pw i * (ca + bo)) (fun (i, u2, bo, ca) => b.length - i) (0, u, 0, 0) wk ⟨vP, hu, rfl, rfl, Nat.zero_le _, Nat.zero_le _, by decide, by simp [val]⟩ ?_
    rintro ⟨i, u2, bo, ca⟩ ⟨hl2, hd2, ht2, hd2', hin, hbo, hca, hv2⟩
    have hgi := hvd.getD i
    have hgu := hd2.getD (i + j)
    have hpq : G * v.getD i 0 ≤ 999999999 * 999999999 := Nat.mul_le_mul (by omega) (by omega)
    refine jA <| kx [(138, (vb (decide (((i : Nat) : Int) < ((b.length : Nat) : Int)))))] [] (zE qI <| zZ) ?_
    refine jA <| jV rfl (fun h6 => ?_) (fun h6 => ?_)
    ·replace h6 := of_decide_eq_true h6
     have hi : i < b.length := by omega
     refine jE <| jA <| jF <| jA <| kx [(16, (kD i))] [] (zM <| zM <| zZ) ?_
     refine jA <| kx [(17, (gO ((G * (v.getD i 0)) + ca)))] [] (zM <| zM <| zM <| zE (oXl kY i (0 : Nat)) <| zE (xX uG) <| zE (cZ gK yY (v.getD i 0)) <| zE (oMl (G * (v.getD i 0))) <| zM <| zE (qP ((G * (v.getD i 0)) + ca)) <| zM <| zZ) ?_
     refine jA <| kx [(15, (gO (((G * (v.getD i 0)) + ca) / 1000000000)))] [] (zM <| zE (oQu (((G * (v.getD i 0)) + ca) / 1000000000)) <| zM <| zZ) ?_
     refine jA <| kx [(18, (vi (((((u2.getD (i + j) 0) : Nat) : Int) - ((bo : Nat) : Int)) - (((((G * (v.getD i 0)) + ca) % 1000000000) : Nat) : Int))))] [] (zM <| zM <| zM <| zE (qP (i + j)) <| zE (oXo kY (i + j)) <| zR (oLp uG (i + j) (0 : Nat)) <| zE (cZ gK in2 (u2.getD (i + j) 0)) <| zM <| zE (fT ((((u2.getD (i + j) 0) : Nat) : Int) - ((bo : Nat) : Int))) <| zM <| zE (iM (((G * (v.getD i 0)) + ca) % 1000000000)) <| zE (cZ nW in2 (((G * (v.getD i 0)) + ca) % 1000000000)) <| zE (fT (((((u2.getD (i + j) 0) : Nat) : Int) - ((bo : Nat) : Int)) - (((((G * (v.getD i 0)) + ca) % 1000000000) : Nat) : Int))) <| zM <| zZ) ?_
     refine jA <| kx [(14, (kD 0))] [] (zM <| zZ) ?_
     refine jA <| jA <| kx [(165, (vb (decide ((((((u2.getD (i + j) 0) : Nat) : Int) - ((bo : Nat) : Int)) - (((((G * (v.getD i 0)) + ca) % 1000000000) : Nat) : Int)) < 0))))] [] (zM <| zE qI <| zZ) ?_
     refine jV rfl (fun h7 => ?_) (fun h7 => ?_)
     ·replace h7 := of_decide_eq_true h7
      refine kx [(14, (kD 1)), (18, (vi ((((((u2.getD (i + j) 0) : Nat) : Int) - ((bo : Nat) : Int)) - (((((G * (v.getD i 0)) + ca) % 1000000000) : Nat) : Int)) + 1000000000)))] [] (zM <| zE (zAd ((((((u2.getD (i + j) 0) : Nat) : Int) - ((bo : Nat) : Int)) - (((((G * (v.getD i 0)) + ca) % 1000000000) : Nat) : Int)) + 1000000000)) <| zM <| zM <| zZ) ?_
      refine kx [] [(0, some (bm jC (u2.set (i + j) ((u2.getD (i + j) 0 + 1000000000) - bo - (G * v.getD i 0 + ca) % 1000000000))))] (zM <| zM <| zM <| zE (qP (i + j)) <| zM <| zE (cZ un2 gW ((u2.getD (i + j) 0 + 1000000000) - bo - (G * v.getD i 0 + ca) % 1000000000) (hr := by exact (wu32 (by omega) (by omega) (by omega)))) <| zE (oXo kY (i + j)) <| zT (oSp uG (i + j) ((u2.getD (i + j) 0 + 1000000000) - bo - (G * v.getD i 0 + ca) % 1000000000)) <| zZ) ?_
      refine kx [(137, (kD (i + 1)))] [] (zE (qP (i + 1)) <| zM <| zZ) ?_
      exact ⟨(i + 1, u2.set (i + j) ((u2.getD (i + j) 0 + 1000000000) - bo - (G * v.getD i 0 + ca) % 1000000000), 1, (G * v.getD i 0 + ca) / 1000000000), wk, (by obtain ⟨q1, q2, q3, q4, q5⟩ := msub_step (v := v) (L := (u0 ++ [0]).length) (e := (u2.getD (i + j) 0 + 1000000000) - bo - (G * v.getD i 0 + ca) % 1000000000) (borrow' := 1) hjn hi hl2 vP hd2 ht2 hd2' hv2 rfl (by omega) (by omega); exact ⟨q1, q2, q3, q4, by omega, by omega, by omega, q5⟩), (by first | omega | (dsimp only; omega))⟩
     ·replace h7 := of_decide_eq_false h7
      refine jE <| kx [] [(0, some (bm jC (u2.set (i + j) (u2.getD (i + j) 0 - bo - (G * v.getD i 0 + ca) % 1000000000))))] (zM <| zM <| zM <| zE (qP (i + j)) <| zM <| zE (cZ un2 gW (u2.getD (i + j) 0 - bo - (G * v.getD i 0 + ca) % 1000000000) (hr := by exact (wu32 (by omega) (by omega) (by omega)))) <| zE (oXo kY (i + j)) <| zT (oSp uG (i + j) (u2.getD (i + j) 0 - bo - (G * v.getD i 0 + ca) % 1000000000)) <| zZ) ?_
      refine kx [(137, (kD (i + 1)))] [] (zE (qP (i + 1)) <| zM <| zZ) ?_
      exact ⟨(i + 1, u2.set (i + j) (u2.getD (i + j) 0 - bo - (G * v.getD i 0 + ca) % 1000000000), 0, (G * v.getD i 0 + ca) / 1000000000), wk, (by obtain ⟨q1, q2, q3, q4, q5⟩ := msub_step (v := v) (L := (u0 ++ [0]).length) (e := u2.getD (i + j) 0 - bo - (G * v.getD i 0 + ca) % 1000000000) (borrow' := 0) hjn hi hl2 vP hd2 ht2 hd2' hv2 rfl (by omega) (by omega); exact ⟨q1, q2, q3, q4, by omega, by omega, by omega, q5⟩), (by first | omega | (dsimp only; omega))⟩
    ·replace h6 := of_decide_eq_false h6
     have hie : i = b.length := by omega
     rw [hie] at hd2' hv2 hin
     obtain ⟨m1, m2, m3⟩ := msub_end hu hd2 hvd hvl hW hG1 hG2 hd2' hv2
     refine kB <| jA <| kx [(19, (vi (((((u2.getD (j + b.length) 0) : Nat) : Int) - ((bo : Nat) : Int)) - ((ca : Nat) : Int))))] [] (zM <| zM <| zM <| zE (qP (j + b.length)) <| zE (oXo kY (j + b.length)) <| zR (oLp uG (j + b.length) (0 : Nat)) <| zE (cZ gK in2 (u2.getD (j + b.length) 0)) <| zM <| zE (fT ((((u2.getD (j + b.length) 0) : Nat) : Int) - ((bo : Nat) : Int))) <| zM <| zE (cZ nW in2 ca) <| zE (fT (((((u2.getD (j + b.length) 0) : Nat) : Int) - ((bo : Nat) : Int)) - ((ca : Nat) : Int))) <| zM <| zZ) ?_
     refine jA <| jA <| kx [(189, (vb (decide ((((((u2.getD (j + b.length) 0) : Nat) : Int) - ((bo : Nat) : Int)) - ((ca : Nat) : Int)) < 0))))] [] (zM <| zE qI <| zZ) ?_
     refine jV rfl (fun h8 => ?_) (fun h8 => ?_)
     ·replace h8 := of_decide_eq_true h8
      obtain ⟨n1, n2, r, n3, n4, n5⟩ := m2 (by omega)
      refine jA <| kx [] [(0, some (bm jC (u2.set (j + b.length) 999999999)))] (zM <| zM <| zM <| zE (qP (j + b.length)) <| zM <| zE (zAd ((((((u2.getD (j + b.length) 0) : Nat) : Int) - ((bo : Nat) : Int)) - ((ca : Nat) : Int)) + 1000000000)) <| zE (cZ un2 gW 999999999 (hr := by exact (wu32 (by omega) (by omega) (by omega)))) <| zE (oXo kY (j + b.length)) <| zT (oSp uG (j + b.length) 999999999) <| zZ) ?_
      refine jA <| kx [(12, (gO (G - 1)))] [] (zM <| zE (oSb (G - 1)) <| zM <| zZ) ?_
      refine jA <| kx [(20, (aL 0))] [] (zM <| zZ) ?_
      refine jA <| jA <| kx [(200, (kD b.length)), (201, (kD 0))] [] (zM <| zM <| zZ) ?_
      refine jF <| uT (α := Nat × List Nat × Nat) (fun (i, u3, c) => ⟨[(4, (.own 1 152 1 ((u0 ++ [0]).length - b.length))), (6, (aL (eD b))), (7, (.own 0 152 1 ((u0 ++ [0]).length))), (8, (vl 152 1 jC v)), (9, (kD b.length)), (10, (kD j)), (12, (gO (G - 1))), (20, (aL c)), (200, (kD b.length)), (201, (kD i))], [(0, some (bm jC u3)), (1, some (bm jC q))]⟩) (fun (i, u3, c) => u3.length = (u0 ++ [0]).length ∧ Dig u3 ∧ u3.take j = (u2.set (j + b.length) 999999999).take j ∧ u3.drop (j + i) = (u2.set (j + b.length) 999999999).drop (j + i) ∧ i ≤ b.length ∧ c ≤ 1 ∧ val ((u3.drop j).take i) + pw i * c = val (((u2.set (j + b.length) 999999999).drop j).take i) + val (v.take i)) (fun (i, u3, c) => b.length - i) (0, u2.set (j + b.length) 999999999, 0) wk ⟨by simpa using hl2, hd2.set _ (by decide), rfl, rfl, Nat.zero_le _, Nat.zero_le _, by simp [val]⟩ ?_
      rintro ⟨i, u3, c⟩ ⟨hl3, hd3, ht3, hd3', hin, hc, hv3⟩
      have hgi := hvd.getD i
      have hgu := hd3.getD (i + j)
      have hgt := hd3.getD (j + b.length)
      refine jA <| kx [(202, (vb (decide (((i : Nat) : Int) < ((b.length : Nat) : Int)))))] [] (zE qI <| zZ) ?_
      refine jA <| jV rfl (fun h9 => ?_) (fun h9 => ?_)
      ·replace h9 := of_decide_eq_true h9
       have hi : i < b.length := by omega
       refine jE <| jA <| jF <| jA <| kx [(21, (kD i))] [] (zM <| zM <| zZ) ?_
       refine jA <| kd [(22, (aL (((u3.getD (i + j) 0) + (v.getD i 0)) + c)))] [] mo (wM <| wM <| wM <| wE (qP (i + j)) <| wE (oXo kY (i + j)) <| wR (oLp uG (i + j) (0 : Nat)) <| wM <| wM <| wE (oXl kY i (0 : Nat)) <| wE (xX uG) <| wE (qP ((u3.getD (i + j) 0) + (v.getD i 0))) <| wM <| wE (qP (((u3.getD (i + j) 0) + (v.getD i 0)) + c)) <| wM <| wZ) ?_
       refine jA <| kx [(20, (aL 0))] [] (zM <| zZ) ?_
       refine jA <| jA <| kx [(218, (vb (decide (1000000000 ≤ (((((u3.getD (i + j) 0) + (v.getD i 0)) + c) : Nat) : Int)))))] [] (zM <| zE oGe <| zZ) ?_
       refine jV rfl (fun h10 => ?_) (fun h10 => ?_)
       ·replace h10 := of_decide_eq_true h10
        refine kx [(20, (aL 1)), (22, (aL ((((u3.getD (i + j) 0) + (v.getD i 0)) + c) - 1000000000)))] [] (zM <| zE (oSb ((((u3.getD (i + j) 0) + (v.getD i 0)) + c) - 1000000000)) <| zM <| zM <| zZ) ?_
        refine kx [] [(0, some (bm jC (u3.set (i + j) ((((u3.getD (i + j) 0) + (v.getD i 0)) + c) - 1000000000))))] (zM <| zM <| zM <| zE (qP (i + j)) <| zM <| zE (oXo kY (i + j)) <| zT (oSp uG (i + j) ((((u3.getD (i + j) 0) + (v.getD i 0)) + c) - 1000000000)) <| zZ) ?_
        refine kx [(201, (kD (i + 1)))] [] (zE (qP (i + 1)) <| zM <| zZ) ?_
        exact ⟨(i + 1, u3.set (i + j) (u3.getD (i + j) 0 + v.getD i 0 + c - 1000000000), 1), wk, (by obtain ⟨q1, q2, q3, q4, q5⟩ := addb_step (v := v) (L := (u0 ++ [0]).length) (s := u3.getD (i + j) 0 + v.getD i 0 + c) (e := u3.getD (i + j) 0 + v.getD i 0 + c - 1000000000) (c' := 1) hjn hi hl3 (by simpa using hl2) hd3 ht3 hd3' hv3 rfl (by omega) (by omega); exact ⟨q1, q2, q3, q4, by omega, by omega, q5⟩), (by first | omega | (dsimp only; omega))⟩
       ·replace h10 := of_decide_eq_false h10
        refine jE <| kx [] [(0, some (bm jC (u3.set (i + j) (((u3.getD (i + j) 0) + (v.getD i 0)) + c))))] (zM <| zM <| zM <| zE (qP (i + j)) <| zM <| zE (oXo kY (i + j)) <| zT (oSp uG (i + j) (((u3.getD (i + j) 0) + (v.getD i 0)) + c)) <| zZ) ?_
        refine kx [(201, (kD (i + 1)))] [] (zE (qP (i + 1)) <| zM <| zZ) ?_
        exact ⟨(i + 1, u3.set (i + j) (u3.getD (i + j) 0 + v.getD i 0 + c), 0), wk, (by obtain ⟨q1, q2, q3, q4, q5⟩ := addb_step (v := v) (L := (u0 ++ [0]).length) (s := u3.getD (i + j) 0 + v.getD i 0 + c) (e := u3.getD (i + j) 0 + v.getD i 0 + c) (c' := 0) hjn hi hl3 (by simpa using hl2) hd3 ht3 hd3' hv3 rfl (by omega) (by omega); exact ⟨q1, q2, q3, q4, by omega, by omega, q5⟩), (by first | omega | (dsimp only; omega))⟩
      ·replace h9 := of_decide_eq_false h9
       have hie2 : i = b.length := by omega
       rw [hie2] at hd3' hv3 hin
       refine kB <| kx [] [(0, some (bm jC (u3.set (j + b.length) (((u3.getD (j + b.length) 0) + c) % 1000000000))))] (zM <| zM <| zM <| zE (qP (j + b.length)) <| zM <| zM <| zM <| zE (qP (j + b.length)) <| zE (oXo kY (j + b.length)) <| zR (oLp uG (j + b.length) (0 : Nat)) <| zM <| zE (qP ((u3.getD (j + b.length) 0) + c)) <| zE (iM (((u3.getD (j + b.length) 0) + c) % 1000000000)) <| zE (oXo kY (j + b.length)) <| zT (oSp uG (j + b.length) (((u3.getD (j + b.length) 0) + c) % 1000000000)) <| zZ) ?_
       refine kx [] [(1, some (bm jC (q.set j (G - 1))))] (zM <| zM <| zM <| zE (cZ nW gW (G - 1)) <| zE (oXo kY j) <| zT (oSp uG j (G - 1)) <| zZ) ?_
       refine kx [(10, (vi (((j : Nat) : Int) - 1)))] [] (zM <| zE (fT (((j : Nat) : Int) - 1)) <| zM <| zZ) ?_
       exact ⟨(j, u3.set (j + b.length) ((u3.getD (j + b.length) 0 + c) % 1000000000), q.set j (G - 1)), wk, (by obtain ⟨p1, p2⟩ := neg_end hd3 hvd hvl (by omega) (by omega) (hl2.trans vP.symm) (hl3.trans vP.symm) ht2 hd2' hW hc ht3 hd3' hv3 n3 n4 n5 hU; exact ⟨by simpa using hl3, hd3.set _ (Nat.mod_lt _ (by decide)), by simpa using hql, hqd.set _ (by omega), by omega, p1, p2⟩), (by first | omega | (dsimp only; omega))⟩
     ·replace h8 := of_decide_eq_false h8
      obtain ⟨n1, n2, n3⟩ := m3 (by omega)
      refine kx [] [(0, some (bm jC (u2.set (j + b.length) 0)))] (zM <| zM <| zM <| zE (qP (j + b.length)) <| zM <| zE (cZ un2 gW 0 (hr := by exact (wu32 (by omega) (by omega) (by omega)))) <| zE (oXo kY (j + b.length)) <| zT (oSp uG (j + b.length) 0) <| zZ) ?_
      refine kx [] [(1, some (bm jC (q.set j G)))] (zM <| zM <| zM <| zE (cZ nW gW G) <| zE (oXo kY j) <| zT (oSp uG j G) <| zZ) ?_
      refine kx [(10, (vi (((j : Nat) : Int) - 1)))] [] (zM <| zE (fT (((j : Nat) : Int) - 1)) <| zM <| zZ) ?_
      exact ⟨(j, u2.set (j + b.length) 0, q.set j G), wk, (by obtain ⟨p1, p2⟩ := pos_end hu hvd hvl (by omega) (by omega) (hl2.trans vP.symm) ht2 hd2' hW n2 n3 hU; exact ⟨by simpa using hl2, hd2.set _ (by decide), by simpa using hql, hqd.set _ (by omega), by omega, p1, p2⟩), (by first | omega | (dsimp only; omega))⟩
  ·replace h2 := of_decide_eq_false h2
   obtain rfl : k = 0 := by omega
   obtain ⟨e1, e2⟩ := scl_div hdb (by omega) (by rw [hvv] at hU; exact hU) (by rw [hvv] at hW; exact hW)
   rw [List.drop_zero] at hW
   refine kB <| jA <| kJ (uV (t := 7) (k := 0) (es := List.map jC u) rfl rfl (vK _ _ (fun _ => rfl)) (uS _ _ vP) (xG _ _ (fun _ => rfl) vP)) ?_
   refine kx [(5, (vl 152 1 jC (ofNat (val (ofNat (val (List.take b.length u))) / (eD b)))))] [] (zM <| zM <| zE (e_slc (l := 0) (h := b.length) (kl := .i64) (kh := .i64) (es' := List.map jC (List.take b.length u)) (by exact rfl) kY (by exact rfl) (by exact rfl) (by exact rfl) (Nat.zero_le _) (by simp only [List.length_map]; omega) (by rw [List.drop_zero, List.map_take])) <| zE (kA (t_trim (List.take b.length u) (hu.take _) (by rw [List.length_take]; omega))) <| zM <| zE (kA (t_short (ofNat (val (List.take b.length u))) (eD b) (kR _) (by omega) (by omega) (Nat.le_trans (ofNat_val_len (hu.take _)) (by rw [List.length_take]; omega)))) <| zM <| zE uZ <| zE uZ <| zM <| zZ) ?_
   refine jA <| kJ (uV (t := 4) (k := 1) (es := List.map jC q) rfl rfl (vK _ _ (fun _ => rfl)) (uS _ _ hql) (xG _ _ (fun _ => rfl) hql)) ?_
   refine kx [(4, (vl 152 1 jC (ofNat (val q)))), (5, (vl 152 1 jC (ofNat (val (ofNat (val (List.take b.length u))) / (eD b)))))] [] (zM <| zE (kA (t_trim q hqd (by omega))) <| zM <| zM <| zM <| zZ) ?_
   refine jJ ⟨_, (.tmp (d := (.sl 152 1 (List.map jC (ofNat (val q))))) rfl (.tmp (d := (.sl 152 1 (List.map jC (ofNat (val (ofNat (val (List.take b.length u))) / (eD b)))))) rfl .nil)), ?_⟩
   rw [← e1, ← e2, kQ, val_take_of_lt (Nat.lt_trans hW (by rw [← hvl]; exact xO hvd))]; rfl
end Go.Proofs.YtbecgnplakngdaaGreat
namespace Go.Proofs.YtbecgnplakngdaaGreat
open Go.Fid
set_option maxRecDepth 4000
set_option linter.unusedVariables false
set_option linter.unusedSimpArgs false
theorem cb145 : callB Tryz.prog 145 = true := by kernel_rfl
theorem cb151 : callB Tryz.prog 151 = true := by kernel_rfl
theorem cb186 : callB Tryz.prog 186 = true := by kernel_rfl
theorem t_over (a b : List Nat) (ha : gS a) (hb : gS b) (hb0 : 0 < val b) (hla : a.length ≤ 1099511627776) (hlb : b.length ≤ 1099511627776) : kH Tryz.prog 186 [(.sl 152 1 (List.map jC a)), (.sl 152 1 (List.map jC b))] (.tup [(.sl 152 1 (List.map jC (ofNat (val a / val b)))), (.sl 152 1 (List.map jC (ofNat (val a % val b))))]) := by
 refine jP Tryz.func186 rfl cb186 rfl ?_
 show uK _ _ _ _ ⟨[(0, (vl 152 1 jC a)), (1, (vl 152 1 jC b))], []⟩
 refine jA <| kx [] [] (zE (oNl 152 1) <| zE (oNl 152 1) <| zZ) ?_
 refine jA <| jA <| kx [(15, (vb (decide ((xE ((val a : Nat) : Int) ((val b : Nat) : Int)) < 0))))] [] (zM <| zM <| zE (kA (t_compare a b ha hb (by omega))) <| zE qI <| zZ) ?_
 refine jV rfl (fun h1 => ?_) (fun h1 => ?_)
 ·replace h1 := of_decide_eq_true h1
  refine jA <| kx [(4, (vl 152 1 jC [])), (5, (vl 152 1 jC a))] [] (zM <| zE (oNl 152 1) <| zM <| zZ) ?_
  refine jJ ⟨_, (.tmp (d := (.sl 152 1 (List.map jC []))) rfl (.tmp (d := (.sl 152 1 (List.map jC a))) rfl .nil)), ?_⟩
  have hlt := cmpI_neg h1
  rw [Nat.div_eq_of_lt hlt, Nat.mod_eq_of_lt hlt, vR, ← can_eq ha]; rfl
 ·replace h1 := of_decide_eq_false h1
  refine jE <| jA <| kx [(6, (gO (yX a))), (7, (vb (cO a)))] [] (zM <| zE (kA (t_word a ha.1)) <| zM <| zE uZ <| zE uZ <| zM <| zM <| zZ) ?_
  refine jA <| kx [(8, (gO (yX b))), (9, (vb (cO b)))] [] (zM <| zE (kA (t_word b hb.1)) <| zM <| zE uZ <| zE uZ <| zM <| zM <| zZ) ?_
  refine jA <| jA <| kx [(30, (vb ((cO a) && (cO b))))] [] ?_ ?_
  ·refine zM <| zE (oV (vb (cO a)) (xI (by kernel_rfl))) <| ?_
   rcases hb2 : (cO a) with _ | _
   ·exact zK <| zE iL <| zZ
   ·exact zM <| zE oPa <| zZ
  refine jV (b := ((cO a) && (cO b))) rfl (fun h3 => ?_) (fun h3 => ?_)
  ·obtain ⟨w1, w2, w3⟩ := word_both ha.1 h3
   have w4 : yX a / yX b < 18446744073709551616 := Nat.lt_of_le_of_lt (Nat.div_le_self _ _) (by omega)
   have w5 : yX a % yX b < 18446744073709551616 := Nat.lt_of_le_of_lt (Nat.mod_le _ _) (by omega)
   refine jA <| kd [(4, (vl 152 1 jC (ofNat ((yX a) / (yX b))))), (5, (vl 152 1 jC (ofNat ((yX a) % (yX b)))))] [] mo (wM <| wM <| wE (oQu ((yX a) / (yX b))) <| wE (kA (t_split ((yX a) / (yX b)) (by omega))) <| wM <| wM <| wE (iM ((yX a) % (yX b))) <| wE (kA (t_split ((yX a) % (yX b)) (by omega))) <| wM <| wM <| wZ) ?_
   refine jJ ⟨_, (.tmp (d := (.sl 152 1 (List.map jC (ofNat ((yX a) / (yX b)))))) rfl (.tmp (d := (.sl 152 1 (List.map jC (ofNat ((yX a) % (yX b)))))) rfl .nil)), ?_⟩
   rw [w1, w2]; rfl
  ·refine jE <| jA <| jA <| kx [(41, (vb (((b.length : Nat) : Int) == 1)))] [] (zM <| zE (dD kY) <| zE cB <| zZ) ?_
   refine jV (b := (((b.length : Nat) : Int) == 1)) rfl (fun h4 => ?_) (fun h4 => ?_)
   ·replace h4 := eq_of_beq h4
    have hv1 := val_len1 (b := b) (by omega)
    have hg := hb.1.getD 0
    have w5 : val a % b.getD 0 0 < 4294967296 := Nat.lt_trans (Nat.mod_lt _ (by omega)) (by omega)
    refine jA <| kx [(10, (vl 152 1 jC (ofNat (val a / (b.getD 0 0))))), (11, (aL (val a % (b.getD 0 0))))] [] (zM <| zM <| zE (oXl kY 0 (0 : Nat)) <| zE (xX uG) <| zE (kA (t_short a (b.getD 0 0) ha.1 (by omega) (by omega) (by omega))) <| zM <| zE uZ <| zE uZ <| zM <| zM <| zZ) ?_
    refine jA <| kx [(4, (vl 152 1 jC (ofNat (val a / (b.getD 0 0))))), (5, (vl 152 1 jC (ofNat (val a % (b.getD 0 0)))))] [] (zM <| zM <| zE (cZ gK yY (val a % (b.getD 0 0))) <| zE (kA (t_split (val a % (b.getD 0 0)) (by omega))) <| zM <| zM <| zZ) ?_
    refine jJ ⟨_, (.tmp (d := (.sl 152 1 (List.map jC (ofNat (val a / (b.getD 0 0)))))) rfl (.tmp (d := (.sl 152 1 (List.map jC (ofNat (val a % (b.getD 0 0)))))) rfl .nil)), ?_⟩
    rw [hv1]; rfl
   ·replace h4 := ne_of_beq_false h4
    have hbl := val_pos_len hb0
    refine jE <| jA <| kx [(4, (vl 152 1 jC (ofNat (val a / val b)))), (5, (vl 152 1 jC (ofNat (val a % val b))))] [] (zM <| zM <| zE (kA (t_long a b ha hb (by omega) (cmpI_nn h1) (by omega))) <| zE uZ <| zE uZ <| zM <| zM <| zZ) ?_
    refine jJ ⟨_, (.tmp (d := (.sl 152 1 (List.map jC (ofNat (val a / val b))))) rfl (.tmp (d := (.sl 152 1 (List.map jC (ofNat (val a % val b))))) rfl .nil)), ?_⟩
    rfl
theorem t_divideI (x y : jK) (hx : x.gs.length ≤ 1099511627776) (hy : y.gs.length ≤ 1099511627776) (hy0 : kI y ≠ 0) : kH Tryz.prog 151 [(jZ x), (jZ y)] (.tup [(jZ (kT ((kI x).fdiv (kI y)))), (jZ (kT ((kI x).fmod (kI y)))), (.val (.int .i64 (0)))]) := by
 have hgx := qV x
 have hlx := gU x
 have hgy := qV y
 have hly := gU y
 have hn : 0 < val (qB y) := by have := iP y; omega
 have hq := len_quo (qB x) hgx (val (qB y))
 have hr := len_rem (qB x) hgx (val (qB y))
 have hrn := Nat.mod_lt (val (qB x)) hn
 refine jP Tryz.func151 rfl cb151 rfl ?_
 show uK _ _ _ _ ⟨[(0, (.d (jZ x))), (1, (.d (jZ y)))], []⟩
 refine jA <| kx [(2, (.ref 0 0)), (3, (.ref 1 0)), (4, (.ref 2 0)), (5, (.ref 3 0))] [(0, some (bx (jZ x))), (1, some (bx (jZ y))), (2, some (bx (jZ (jK.mk false [])))), (3, some (bx (jZ (jK.mk false []))))] (zN (vS 0) <| zN (vS 1) <| zN (qW 2 nN nR) <| zN (qW 3 nN nR) <| zM <| zZ) ?_
 refine jA <| kd [(7, (vl 152 1 jC (qB x))), (8, (vl 152 1 jC (qB y)))] [] mo (wR (kF kK) <| wE (kA (mA x (by omega))) <| wR (kF kK) <| wE (kA (mA y (by omega))) <| wM <| wM <| wZ) ?_
 refine jA <| jA <| kx [(17, (vb ((((qB y).length : Nat) : Int) == 0)))] [] (zM <| zE (dD kY (L := (qB y))) <| zE cB <| zZ) ?_
 refine jV (b := ((((qB y).length : Nat) : Int) == 0)) rfl (fun h1 => ?_) (fun h1 => ?_)
 ·replace h1 := eq_of_beq h1
  exact absurd (toZ_nil h1) hy0
 ·replace h1 := ne_of_beq_false h1
  refine jE <| jA <| kx [(9, (vl 152 1 jC (ofNat (val (qB x) / val (qB y))))), (10, (vl 152 1 jC (ofNat (val (qB x) % val (qB y)))))] [] (zM <| zM <| zE (kA (t_over (qB x) (qB y) hgx hgy (by omega) (by omega) (by omega))) <| zM <| zE uZ <| zE uZ <| zM <| zM <| zZ) ?_
  refine jA <| kx [(10, (vl 152 1 jC (ofNat (val (qB x) % val (qB y)))))] [] (zM <| zE (kA (t_clone (ofNat (val (qB x) % val (qB y))) (by omega))) <| zM <| zZ) ?_
  refine jA <| jA <| kx [(37, (vb (decide (0 < (((ofNat (val (qB x) % val (qB y))).length : Nat) : Int)) && !(x.neg == y.neg))))] [] ?_ ?_
  ·refine zM <| zE (dD kY (L := (ofNat (val (qB x) % val (qB y))))) <| zE aG <| zE (oV (vb (decide (0 < (((ofNat (val (qB x) % val (qB y))).length : Nat) : Int)))) (xI (by kernel_rfl))) <| ?_
   rcases hb2 : (decide (0 < (((ofNat (val (qB x) % val (qB y))).length : Nat) : Int))) with _ | _
   ·replace hb2 := of_decide_eq_false hb2
    exact zK <| zK <| zK <| zK <| zK <| zE iL <| zZ
   ·replace hb2 := of_decide_eq_true hb2
    exact zE (kS zC) <| zR (uF sh4) <| zE (kS zC) <| zR (uF sh4) <| zE (oNb bo4) <| zE oPa <| zZ
  refine jV rfl (fun h3 => ?_) (fun h3 => ?_)
  ·have e1 : (ofNat (val (ofNat (val (qB x) / val (qB y))) + val [1])).length ≤ 1099511627777 := uW (by rw [kQ, dP]; have := ofNat_lt_pw (val (qB x) / val (qB y)); have h3 : pw (ofNat (val (qB x) / val (qB y))).length ≤ pw 1099511627776 := nZ (by omega); have h4 := pw_lt (show 1099511627776 < 1099511627777 by decide); omega)
   have e2 := sub_len (b := ofNat (val (qB x) % val (qB y))) hgy.1
   rw [Bool.and_eq_true, decide_eq_true_eq, Bool.not_eq_true', beq_eq_false_iff_ne] at h3
   obtain ⟨k1, k2⟩ := h3
   have k3 : 0 < val (qB x) % val (qB y) := by have := dH (qU (val (qB x) % val (qB y))) (by omega); rwa [kQ] at this
   obtain ⟨d1, d2⟩ := div_other hn k2 k3
   refine kx [(9, (vl 152 1 jC (ofNat (val (ofNat (val (qB x) / val (qB y))) + val [1])))), (10, (vl 152 1 jC (ofNat (val (qB y) - val (ofNat (val (qB x) % val (qB y)))))))] [] (zM <| zE (nO kY xK gI) <| zE (kA (t_plus (ofNat (val (qB x) / val (qB y))) [1] (kR _) (gH.2 ⟨by decide, nK⟩) (by omega) (by decide))) <| zM <| zM <| zE (kA (t_minus (qB y) (ofNat (val (qB x) % val (qB y))) hgy.1 (kR _) (by rw [kQ]; omega) (by omega))) <| zM <| zM <| zZ) ?_
   refine jA <| kd [(6, (kD 0))] [(2, some (bx (jZ (zL (!(x.neg == y.neg)) (val (ofNat (val (ofNat (val (qB x) / val (qB y))) + val [1]))))))), (3, some (bx (jZ (zL y.neg (val (ofNat (val (qB y) - val (ofNat (val (qB x) % val (qB y))))))))))] mo (wE (kS zC) <| wR (uF sh4) <| wE (kS zC) <| wR (uF sh4) <| wE (oNb bo4) <| wM <| wE (kA (eK (!(x.neg == y.neg)) (ofNat (val (ofNat (val (qB x) / val (qB y))) + val [1])) (kR _) (by omega))) <| wE (kS zC) <| wR (uF sh4) <| wM <| wE (kA (eK y.neg (ofNat (val (qB y) - val (ofNat (val (qB x) % val (qB y))))) (kR _) (by omega))) <| wT (kW kK) <| wT (kW kK) <| wM <| wZ) ?_
   refine jJ ⟨_, (qC (cs := (bx (jZ (zL (!(x.neg == y.neg)) (val (ofNat (val (ofNat (val (qB x) / val (qB y))) + val [1]))))))) (d := (jZ (zL (!(x.neg == y.neg)) (val (ofNat (val (ofNat (val (qB x) / val (qB y))) + val [1])))))) rfl rfl kK rfl rfl (qC (cs := (bx (jZ (zL y.neg (val (ofNat (val (qB y) - val (ofNat (val (qB x) % val (qB y)))))))))) (d := (jZ (zL y.neg (val (ofNat (val (qB y) - val (ofNat (val (qB x) % val (qB y))))))))) rfl rfl kK rfl rfl (.tmp (d := (.val (.int .i64 (0)))) rfl .nil))), ?_⟩
   unfold kI
   rw [d1, d2]
   simp only [kQ, dP]
   rfl
  ·obtain ⟨d1, d2⟩ := div_same (b := x.neg) (c := y.neg) (m := val (qB x)) hn (by rw [Bool.and_eq_false_iff, decide_eq_false_iff_not, Bool.not_eq_false', beq_iff_eq] at h3; rcases h3 with k | k; right; have := eS (n := val (qB x) % val (qB y)); omega; exact .inl k)
   refine jE <| jA <| kd [(6, (kD 0))] [(2, some (bx (jZ (zL (!(x.neg == y.neg)) (val (ofNat (val (qB x) / val (qB y)))))))), (3, some (bx (jZ (zL y.neg (val (ofNat (val (qB x) % val (qB y))))))))] mo (wE (kS zC) <| wR (uF sh4) <| wE (kS zC) <| wR (uF sh4) <| wE (oNb bo4) <| wM <| wE (kA (eK (!(x.neg == y.neg)) (ofNat (val (qB x) / val (qB y))) (kR _) (by omega))) <| wE (kS zC) <| wR (uF sh4) <| wM <| wE (kA (eK y.neg (ofNat (val (qB x) % val (qB y))) (kR _) (by omega))) <| wT (kW kK) <| wT (kW kK) <| wM <| wZ) ?_
   refine jJ ⟨_, (qC (cs := (bx (jZ (zL (!(x.neg == y.neg)) (val (ofNat (val (qB x) / val (qB y)))))))) (d := (jZ (zL (!(x.neg == y.neg)) (val (ofNat (val (qB x) / val (qB y))))))) rfl rfl kK rfl rfl (qC (cs := (bx (jZ (zL y.neg (val (ofNat (val (qB x) % val (qB y)))))))) (d := (jZ (zL y.neg (val (ofNat (val (qB x) % val (qB y))))))) rfl rfl kK rfl rfl (.tmp (d := (.val (.int .i64 (0)))) rfl .nil))), ?_⟩
   unfold kI
   rw [d1, d2]
   simp only [kQ]
   rfl
theorem t_gcdI (x y : jK) (hx : x.gs.length ≤ 1099511627776) (hy : y.gs.length ≤ 1099511627776) : kH Tryz.prog 145 [(jZ x), (jZ y)] (jZ (kT ((Int.gcd (kI x) (kI y) : Nat) : Int))) := by
 have hgx := qV x
 have hlx := gU x
 have hgy := qV y
 have hly := gU y
 refine jP Tryz.func145 rfl cb145 rfl ?_
 show uK _ _ _ _ ⟨[(0, (.d (jZ x))), (1, (.d (jZ y)))], []⟩
 refine jA <| kx [(2, (.ref 0 0)), (3, (.ref 1 0)), (4, (.ref 2 0))] [(0, some (bx (jZ x))), (1, some (bx (jZ y))), (2, some (bx (jZ (jK.mk false []))))] (zN (vS 0) <| zN (vS 1) <| zN (qW 2 nN nR) <| zZ) ?_
 refine jA <| kd [(5, (vl 152 1 jC (qB x))), (6, (vl 152 1 jC (qB y)))] [] mo (wR (kF kK) <| wE (kA (mA x (by omega))) <| wR (kF kK) <| wE (kA (mA y (by omega))) <| wM <| wM <| wZ) ?_
 refine jA <| jF <| uT (α := List Nat × List Nat) (fun (a, b) => ⟨[(4, (.ref 2 0)), (5, (vl 152 1 jC a)), (6, (vl 152 1 jC b))], [(2, some (bx (jZ (jK.mk false []))))]⟩) (fun (a, b) => gS a ∧ gS b ∧ a.length ≤ 1099511627776 ∧ b.length ≤ 1099511627776 ∧ Nat.gcd (val a) (val b) = Int.gcd (kI x) (kI y)) (fun (a, b) => val b) (qB x, qB y) wk ⟨hgx, hgy, by omega, by omega, gcd_toZ x y⟩ ?_
 rintro ⟨a, b⟩ ⟨ha, hb, hla, hlb, hg⟩
 refine jA <| jA <| kx [(19, (vb (decide (0 < ((b.length : Nat) : Int)))))] [] (zM <| zE (dD kY) <| zE aG <| zZ) ?_
 refine jV (b := decide (0 < ((b.length : Nat) : Int))) rfl (fun h1 => ?_) (fun h1 => ?_)
 ·replace h1 := of_decide_eq_true h1
  have hb0 := dH hb (by omega)
  refine jE <| jF <| jA <| kx [(7, (gO (yX a))), (8, (vb (cO a)))] [] (zM <| zE (kA (t_word a ha.1)) <| zM <| zE uZ <| zE uZ <| zM <| zM <| zZ) ?_
  refine jA <| kx [(9, (gO (yX b))), (10, (vb (cO b)))] [] (zM <| zE (kA (t_word b hb.1)) <| zM <| zE uZ <| zE uZ <| zM <| zM <| zZ) ?_
  refine jA <| jA <| kx [(33, (vb ((cO a) && (cO b))))] [] ?_ ?_
  ·refine zM <| zE (oV (vb (cO a)) (xI (by kernel_rfl))) <| ?_
   rcases hb2 : (cO a) with _ | _
   ·exact zK <| zE iL <| zZ
   ·exact zM <| zE oPa <| zZ
  refine jV (b := ((cO a) && (cO b))) rfl (fun h3 => ?_) (fun h3 => ?_)
  ·obtain ⟨w1, w2, w3⟩ := word_both ha.1 h3
   have w4 : val b < 1000000000000000000 := by rw [Bool.and_eq_true] at h3; exact val_len2 hb.1 (of_decide_eq_true h3.2)
   refine jA <| jF <| uT (α := Nat × Nat) (fun (m, n) => ⟨[(4, (.ref 2 0)), (7, (gO m)), (9, (gO n))], [(2, some (bx (jZ (jK.mk false []))))]⟩) (fun (m, n) => m < 1000000000000000000 ∧ n < 1000000000000000000 ∧ Nat.gcd m n = Int.gcd (kI x) (kI y)) (fun (m, n) => n) (yX a, yX b) wk ⟨by omega, by omega, by rw [w1, w2]; exact hg⟩ ?_
   rintro ⟨m, n⟩ ⟨hm, hn, hg2⟩
   refine jA <| jA <| kx [(35, (vb (decide (0 < ((n : Nat) : Int)))))] [] (zM <| zE aG <| zZ) ?_
   refine jV (b := decide (0 < ((n : Nat) : Int))) rfl (fun h4 => ?_) (fun h4 => ?_)
   ·replace h4 := of_decide_eq_true h4
    refine jE <| jF <| kd [(7, (gO n)), (9, (gO (m % n)))] [] mo (wM <| wM <| wM <| wE (iM (m % n)) <| wM <| wM <| wZ) ?_
    exact ⟨(n, m % n), wk, ⟨hn, Nat.lt_of_le_of_lt (Nat.mod_le _ _) hm, by rw [← hg2, Nat.gcd_comm, ← Nat.gcd_rec, Nat.gcd_comm]⟩, (by dsimp only; exact Nat.mod_lt _ (by omega))⟩
   ·replace h4 := of_decide_eq_false h4
    obtain rfl : n = 0 := by omega
    rw [Nat.gcd_zero_right] at hg2
    refine kB <| jA <| kx [] [(2, some (bx (jZ (zL false (val (ofNat m))))))] (zM <| zE (kA (t_split m (by omega))) <| zE (kA (eK false (ofNat m) (kR _) (Nat.le_trans (aE (by omega)) (by decide)))) <| zT (kW kK) <| zZ) ?_
    refine jJ ⟨_, (qC (cs := (bx (jZ (zL false (val (ofNat m)))))) (d := (jZ (zL false (val (ofNat m))))) rfl rfl kK rfl rfl .nil), ?_⟩
    rw [← hg2, kQ, mkI_false]; rfl
  ·refine jE <| jA <| kx [(12, (vl 152 1 jC (ofNat (val a % val b))))] [] (zM <| zM <| zE (kA (t_over a b ha hb hb0 (by omega) (by omega))) <| zM <| zE uZ <| zE uZ <| zM <| zM <| zZ) ?_
   refine kx [(5, (vl 152 1 jC b)), (6, (vl 152 1 jC (ofNat (val a % val b))))] [] (zM <| zM <| zM <| zM <| zZ) ?_
   exact ⟨(b, ofNat (val a % val b)), wk, ⟨hb, qU _, hlb, Nat.le_trans (len_rem a ha _) hla, by rw [kQ, ← hg, Nat.gcd_comm, ← Nat.gcd_rec, Nat.gcd_comm]⟩, (by dsimp only; rw [kQ]; exact Nat.mod_lt _ hb0)⟩
 ·replace h1 := of_decide_eq_false h1
  have hb1 : b = [] := List.eq_nil_of_length_eq_zero (by omega)
  rw [hb1, val_nil, Nat.gcd_zero_right] at hg
  refine kB <| jA <| kx [] [(2, some (bx (jZ (zL false (val a)))))] (zM <| zE (kA (t_clone a (by omega))) <| zE (kA (eK false a ha.1 (by omega))) <| zT (kW kK) <| zZ) ?_
  refine jJ ⟨_, (qC (cs := (bx (jZ (zL false (val a))))) (d := (jZ (zL false (val a)))) rfl rfl kK rfl rfl .nil), ?_⟩
  rw [← hg, mkI_false]; rfl
end Go.Proofs.YtbecgnplakngdaaGreat
