/- Part 17 of a proof: rules, plain facts, and functions walked. -/
import Derived.Test.YtihgdjljnaekmaaGreatM16
namespace Go.Proofs.YtihgdjljnaekmaaGreat
open Go.Fid
set_option maxRecDepth 4000
set_option linter.unusedVariables false
set_option linter.unusedSimpArgs false
theorem cb197 : callB Tryz.prog 197 = true := by kernel_rfl
theorem in2 : intB Tryz.prog 2 = some .i64 := by kernel_rfl
theorem un2 : (Tryz.prog.underlying 2).isSome = true := by kernel_rfl
set_option maxHeartbeats 4000000 in
theorem t_long (a b : List Nat) (hda : zC a) (hdb : zC b) (hb2 : 2 ≤ b.length) (hba : val b ≤ val a) (hla : a.length ≤ 1099511627776) : jZ Tryz.prog 197 [(.sl 135 1 (List.map jD a)), (.sl 135 1 (List.map jD b))] (.tup [(.sl 135 1 (List.map jD (ofNat (val a / val b)))), (.sl 135 1 (List.map jD (ofNat (val a % val b))))]) := by
 have hab := len_of_le hda hdb hba
 have hsc := eW hdb (by omega)
 have htp := aB hdb (by omega)
 have hds : Dig [nW b] := xQ.2 ⟨by omega, zY⟩
 have hbp : 0 < val b := by have := val_top hdb.1 (by omega); have h2 := Nat.mul_le_mul_right (pw (b.length - 1)) htp.1; have h3 := pw_pos (b.length - 1); rw [Nat.succ_mul] at h2; omega
 obtain ⟨u0, hue⟩ : ∃ u0, u0 = ofNat (val a * val [nW b]) := ⟨_, rfl⟩
 obtain ⟨v, hve⟩ : ∃ v, v = ofNat (val b * val [nW b]) := ⟨_, rfl⟩
 have hu0 : Dig u0 := by rw [hue]; exact jY _
 have hvd : Dig v := by rw [hve]; exact jY _
 have hvl : v.length = b.length := by rw [hve, nS]; exact scl_len hdb (by omega)
 have hvv : val v = val b * nW b := by rw [hve, nS]; exact jX _
 have hu0v : val u0 = val a * nW b := by rw [hue, nS]; exact jX _
 have hu0l : a.length ≤ u0.length ∧ u0.length ≤ a.length + 1 := by rw [hue, nS]; exact scl_lenA hda hdb (by omega)
 have hLU : (u0 ++ [0]).length = u0.length + 1 := by simp
 have hcv : zC v := by rw [hve]; exact kO _
 have hv1p : 0 < v.getD (b.length - 1) 0 := by rw [← hvl]; exact (aB hcv (by omega)).1
 have hpv : pw (b.length - 1) ≤ val v := by have h1 := val_top hvd (by omega); rw [hvl] at h1; have h2 := Nat.mul_le_mul_right (pw (b.length - 1)) hv1p; omega
 refine jL Tryz.func197 rfl cb197 rfl ?_
 show qS _ _ _ _ ⟨[(0, (vl 135 1 jD a)), (1, (vl 135 1 jD b))], []⟩
 refine jA <| kx [] [] (zE (oNl 135 1) <| zE (oNl 135 1) <| zZ) ?_
 refine jA <| kx [(6, (dC (nW b)))] [] (zM <| zM <| zE (xA kC) <| zE (oSb (b.length - 1)) <| zE (yO kC (b.length - 1) (0 : Nat)) <| zE (nB qD) <| zE (yV vZ xC (b.getD (b.length - 1) 0)) <| zE (qQ ((b.getD (b.length - 1) 0) + 1)) <| zE (oQu (nW b) (hr := by exact (quo_u64 1000000000 (b.getD (b.length - 1) 0 + 1) (by decide)))) <| zE (yV zU zP (nW b)) <| zM <| zZ) ?_
 refine jA <| kx [(7, (.own 0 135 1 u0.length))] [(0, some (bm jD u0))] (zM <| zM <| zE (aA kC uU xP) <| zN (oCo 0 (hue ▸ o_times a [nW b] hda.1 hds (by omega) (by simp) (by rw [nS]; exact Nat.mul_pos (by omega) hsc.1))) <| zM <| zZ) ?_
 refine jA <| kx [(8, (vl 135 1 jD v))] [] (zM <| zM <| zE (aA kC uU xP) <| zE (kD (hve ▸ t_times b [nW b] hdb.1 hds (by omega) (by simp))) <| zM <| zZ) ?_
 refine jA <| kx [(9, (jQ b.length))] [] (zM <| zE (oLn kC b.length (hr := by exact (by simp [hvl]))) <| zM <| zZ) ?_
 refine jA <| kf [(7, (.own 0 135 1 ((u0 ++ [0]).length)))] [(0, some (bm jD (u0 ++ [0])))] (zM <| zE (aA kC uU xP) <| zA jD u0 [0] rfl kC uU gB <| zM <| zF) ?_
 refine jA <| jA <| kx [(50, (vb (decide ((((u0 ++ [0]).length : Nat) : Int) ≤ ((a.length : Nat) : Int)))))] [] (zM <| zE (oLo kC) <| zM <| zE (xA kC) <| zE oLe <| zZ) ?_
 refine jG rfl (fun h1 => ?_) (fun h1 => ?_)
 ·replace h1 := of_decide_eq_true h1
  exfalso; simp at h1; omega
 ·replace h1 := of_decide_eq_false h1
  refine jF <| jA <| kx [(4, (.own 1 135 1 ((u0 ++ [0]).length - b.length)))] [(1, some (bm jD (List.replicate ((u0 ++ [0]).length - b.length) 0)))] (zM <| zE (oLo kC) <| zM <| zE (oSb ((u0 ++ [0]).length - b.length)) <| zH (oMk 1 jD (0 : Nat) ((u0 ++ [0]).length - b.length) ((u0 ++ [0]).length - b.length) kC uU xP gB) <| zM <| zZ) ?_
  refine jA <| jA <| kx [(10, (vi ((((u0 ++ [0]).length - b.length : Nat) : Int) - 1)))] [] (zM <| zE (oLo kC) <| zM <| zE (oSb ((u0 ++ [0]).length - b.length)) <| zE (zSb ((((u0 ++ [0]).length - b.length : Nat) : Int) - 1)) <| zM <| zZ) ?_
  refine jH <| kH (α := Nat × List Nat × List Nat) (fun (k, u, q) => ⟨[(4, (.own 1 135 1 ((u0 ++ [0]).length - b.length))), (6, (dC (nW b))), (7, (.own 0 135 1 ((u0 ++ [0]).length))), (8, (vl 135 1 jD v)), (9, (jQ b.length)), (10, (vi (((k : Nat) : Int) - 1)))], [(0, some (bm jD u)), (1, some (bm jD q))]⟩) (fun (k, u, q) => u.length = (u0 ++ [0]).length ∧ Dig u ∧ q.length = (u0 ++ [0]).length - b.length ∧ Dig q ∧ k ≤ (u0 ++ [0]).length - b.length ∧ val u + val v * (pw k * val (q.drop k)) = val a * nW b ∧ val (u.drop k) < val v) (fun (k, u, q) => k) ((u0 ++ [0]).length - b.length, u0 ++ [0], List.replicate ((u0 ++ [0]).length - b.length) 0) wk ⟨rfl, fQ.2 ⟨hu0, xQ.2 ⟨by decide, zY⟩⟩, by simp, vX _, Nat.le_refl _, by simp [mG, val, hu0v], by have := long_start hu0 hvl hb2 (by omega) hpv; rw [hLU]; exact this⟩ ?_
  rintro ⟨k, u, q⟩ ⟨qU, hu, hql, hqd, hk, hU, hW⟩
  refine jA <| jA <| kx [(65, (vb (decide (0 ≤ (((k : Nat) : Int) - 1)))))] [] (zM <| zE oGe <| zZ) ?_
  refine jG (b := decide (0 ≤ (((k : Nat) : Int) - 1))) rfl (fun h2 => ?_) (fun h2 => ?_)
  ·replace h2 := of_decide_eq_true h2
   obtain ⟨j, rfl⟩ : ∃ j, k = j + 1 := ⟨k - 1, by omega⟩
   rw [show (((j + 1 : Nat) : Int) - 1) = ((j : Nat) : Int) from by omega]
   have hg1 := hu.getD (j + b.length)
   have hg2 := hu.getD (j + b.length - 1)
   have hg3 := hu.getD (j + b.length - 2)
   have hg4 := hvd.getD (b.length - 1)
   have hg5 := hvd.getD (b.length - 2)
   obtain ⟨z1, z2, z3, z4, z5, z6⟩ := window_tops hu hvd hvl hb2 hW
   obtain ⟨hwz, hww⟩ := window hvd hvl hW
   refine jF <| jA <| jH <| jA <| kd [(10, (jQ j)), (11, (xX (((u.getD (j + b.length) 0) * 1000000000) + (u.getD ((j + b.length) - 1) 0))))] [] mo (wM <| wM <| wM <| wE (qQ (j + b.length)) <| wR ⟨(bm jD u), e_clo (t_at u (j + b.length)) (by exact rfl) (by exact rfl) (by exact rfl) (.o (.d .nil)) (uO jD u (fun _ => rfl)) (uS _ _ qU) (vE _ _ (fun _ => rfl) qU), by kernel_rfl⟩ <| wE (yV vZ xC (u.getD (j + b.length) 0)) <| wE (oMl ((u.getD (j + b.length) 0) * 1000000000)) <| wM <| wM <| wM <| wE (qQ (j + b.length)) <| wE (oSb ((j + b.length) - 1)) <| wE (dT kC ((j + b.length) - 1)) <| wR (oLp qD ((j + b.length) - 1) (0 : Nat)) <| wE (yV vZ xC (u.getD ((j + b.length) - 1) 0)) <| wE (qQ (((u.getD (j + b.length) 0) * 1000000000) + (u.getD ((j + b.length) - 1) 0))) <| wM <| wZ) ?_
   refine jA <| kd [(12, (xX ((((u.getD (j + b.length) 0) * 1000000000) + (u.getD ((j + b.length) - 1) 0)) / (v.getD (b.length - 1) 0)))), (13, (xX ((((u.getD (j + b.length) 0) * 1000000000) + (u.getD ((j + b.length) - 1) 0)) % (v.getD (b.length - 1) 0))))] [] mo (wM <| wM <| wM <| wE (oSb (b.length - 1)) <| wE (yO kC (b.length - 1) (0 : Nat)) <| wE (nB qD) <| wE (yV vZ xC (v.getD (b.length - 1) 0)) <| wE (oQu ((((u.getD (j + b.length) 0) * 1000000000) + (u.getD ((j + b.length) - 1) 0)) / (v.getD (b.length - 1) 0))) <| wM <| wM <| wM <| wE (oSb (b.length - 1)) <| wE (yO kC (b.length - 1) (0 : Nat)) <| wE (nB qD) <| wE (yV vZ xC (v.getD (b.length - 1) 0)) <| wE (oRe ((((u.getD (j + b.length) 0) * 1000000000) + (u.getD ((j + b.length) - 1) 0)) % (v.getD (b.length - 1) 0))) <| wM <| wM <| wZ) ?_
   refine pwp_seqjoin (α := Nat × Nat) (fun (G, R) => ⟨[(4, (.own 1 135 1 ((u0 ++ [0]).length - b.length))), (6, (dC (nW b))), (7, (.own 0 135 1 ((u0 ++ [0]).length))), (8, (vl 135 1 jD v)), (9, (jQ b.length)), (10, (jQ j)), (12, (xX G))], [(0, some (bm jD u)), (1, some (bm jD q))]⟩) (fun (G, R) => G < 1000000000 ∧ val (u.drop j) / val v ≤ G ∧ G ≤ val (u.drop j) / val v + 1) ?_ ?_
   ·refine kH (α := Nat × Nat) (fun (G, R) => ⟨[(4, (.own 1 135 1 ((u0 ++ [0]).length - b.length))), (6, (dC (nW b))), (7, (.own 0 135 1 ((u0 ++ [0]).length))), (8, (vl 135 1 jD v)), (9, (jQ b.length)), (10, (jQ j)), (12, (xX G)), (13, (xX R))], [(0, some (bm jD u)), (1, some (bm jD q))]⟩) (fun (G, R) => G * (v.getD (b.length - 1) 0) + R = (u.getD (j + b.length) 0 * 1000000000 + u.getD (j + b.length - 1) 0) ∧ val (u.drop j) / val v ≤ G ∧ R < 1000000000 ∧ G ≤ 1999999999) (fun (G, R) => G) ((u.getD (j + b.length) 0 * 1000000000 + u.getD (j + b.length - 1) 0) / v.getD (b.length - 1) 0, (u.getD (j + b.length) 0 * 1000000000 + u.getD (j + b.length - 1) 0) % v.getD (b.length - 1) 0) wk ⟨by rw [Nat.mul_comm]; exact Nat.div_add_mod _ _, guess_first0 z5 z4 hv1p hg3, Nat.lt_trans (Nat.mod_lt _ hv1p) hg4, guess_top hv1p z1 hg2⟩ ?_
    rintro ⟨G, R⟩ ⟨hG0, hG1, hR, hGb⟩
    have hpq : G * v.getD (b.length - 2) 0 ≤ 1999999999 * 999999999 := Nat.mul_le_mul hGb (by omega)
    refine jA <| jA <| kd [(123, (vb (decide (1000000000 ≤ ((G : Nat) : Int)) || decide (((((R * 1000000000) + (u.getD ((j + b.length) - 2) 0)) : Nat) : Int) < (((G * (v.getD (b.length - 2) 0)) : Nat) : Int)))))] [] mo ?_ ?_
    ·refine wM <| wE oGe <| wE (oV (vb (decide (1000000000 ≤ ((G : Nat) : Int)))) (kP (by kernel_rfl))) <| ?_
     rcases hb3 : (decide (1000000000 ≤ ((G : Nat) : Int))) with _ | _
     ·replace hb3 := of_decide_eq_false hb3
      exact wM <| wM <| wM <| wE (oSb (b.length - 2)) <| wE (yO kC (b.length - 2) (0 : Nat)) <| wE (nB qD) <| wE (yV vZ xC (v.getD (b.length - 2) 0)) <| wE (oMl (G * (v.getD (b.length - 2) 0))) <| wM <| wE (oMl (R * 1000000000)) <| wM <| wM <| wM <| wE (qQ (j + b.length)) <| wE (oSb ((j + b.length) - 2)) <| wE (dT kC ((j + b.length) - 2)) <| wR (oLp qD ((j + b.length) - 2) (0 : Nat)) <| wE (yV vZ xC (u.getD ((j + b.length) - 2) 0)) <| wE (qQ ((R * 1000000000) + (u.getD ((j + b.length) - 2) 0))) <| wE mZ <| wE nI <| wZ
     ·replace hb3 := of_decide_eq_true hb3
      exact wK <| wK <| wK <| wK <| wK <| wK <| wK <| wK <| wK <| wK <| wK <| wK <| wK <| wK <| wK <| wK <| wK <| wK <| wK <| wK <| wE vR <| wZ
    refine jG rfl (fun h4 => ?_) (fun h4 => ?_)
    ·rw [Bool.or_eq_true, decide_eq_true_eq, decide_eq_true_eq] at h4
     have hgl := guess_less (pw_pos _) z5 z4 hG0 hG1 hv1p z2 (by omega)
     refine jF <| jH <| jA <| kx [(12, (xX (G - 1)))] [] (zM <| zE (oSb (G - 1)) <| zM <| zZ) ?_
     refine jA <| kx [(13, (xX (R + (v.getD (b.length - 1) 0))))] [] (zM <| zM <| zM <| zE (oSb (b.length - 1)) <| zE (yO kC (b.length - 1) (0 : Nat)) <| zE (nB qD) <| zE (yV vZ xC (v.getD (b.length - 1) 0)) <| zE (qQ (R + (v.getD (b.length - 1) 0))) <| zM <| zZ) ?_
     refine jA <| kx [(135, (vb (decide (1000000000 ≤ (((R + (v.getD (b.length - 1) 0)) : Nat) : Int)))))] [] (zM <| zE oGe <| zZ) ?_
     refine jG rfl (fun h5 => ?_) (fun h5 => ?_)
     ·replace h5 := of_decide_eq_true h5
      refine jW ?_
      refine pjoin_exit (id := 2) (α := Nat × Nat) (Q := fun _ _ => True) (St := fun (G, R) => ⟨[(4, (.own 1 135 1 ((u0 ++ [0]).length - b.length))), (6, (dC (nW b))), (7, (.own 0 135 1 ((u0 ++ [0]).length))), (8, (vl 135 1 jD v)), (9, (jQ b.length)), (10, (jQ j)), (12, (xX G))], [(0, some (bm jD u)), (1, some (bm jD q))]⟩) (I := fun (G, R) => G < 1000000000 ∧ val (u.drop j) / val v ≤ G ∧ G ≤ val (u.drop j) / val v + 1) ?_
      exact ⟨(G - 1, R + v.getD (b.length - 1) 0), wk, (by have hd := guess_dec hgl.2 hG0; have hgb := guess_break hd z1 hg2 (by omega); exact ⟨hgb, hgl.1, guess_near z6 z3 hd hv1p (by omega) hgb (Nat.le_trans (Nat.mul_le_mul (show G - 1 ≤ 999999999 by omega) (show v.getD (b.length - 2) 0 ≤ 999999999 by omega)) (by omega))⟩)⟩
     ·replace h5 := of_decide_eq_false h5
      refine jF ?_
      exact ⟨(G - 1, R + v.getD (b.length - 1) 0), wk, (by exact ⟨guess_dec hgl.2 hG0, hgl.1, by omega, by omega⟩), (by first | omega | (dsimp only; omega))⟩
    ·refine jW ?_
     refine pjoin_exit (id := 2) (α := Nat × Nat) (Q := fun _ _ => True) (St := fun (G, R) => ⟨[(4, (.own 1 135 1 ((u0 ++ [0]).length - b.length))), (6, (dC (nW b))), (7, (.own 0 135 1 ((u0 ++ [0]).length))), (8, (vl 135 1 jD v)), (9, (jQ b.length)), (10, (jQ j)), (12, (xX G))], [(0, some (bm jD u)), (1, some (bm jD q))]⟩) (I := fun (G, R) => G < 1000000000 ∧ val (u.drop j) / val v ≤ G ∧ G ≤ val (u.drop j) / val v + 1) ?_
     exact ⟨(G, R), wk, (by rw [Bool.or_eq_false_iff, decide_eq_false_iff_not, decide_eq_false_iff_not] at h4; exact ⟨by omega, hG1, guess_near z6 z3 hG0 hv1p (by omega) (by omega) (by omega)⟩)⟩
   ·rintro ⟨G, R⟩ ⟨hG, hG1, hG2⟩
    have hjn : j + b.length < (u0 ++ [0]).length := by omega
    refine jA <| kx [(14, (jQ 0)), (15, (xX 0))] [] (zM <| zM <| zZ) ?_
    refine jA <| jA <| kx [(136, (jQ b.length)), (137, (jQ 0))] [] (zM <| zM <| zZ) ?_
    refine jH <| kH (α := Nat × List Nat × Nat × Nat) (fun (i, u2, bo, ca) => ⟨[(4, (.own 1 135 1 ((u0 ++ [0]).length - b.length))), (6, (dC (nW b))), (7, (.own 0 135 1 ((u0 ++ [0]).length))), (8, (vl 135 1 jD v)), (9, (jQ b.length)), (10, (jQ j)), (12, (xX G)), (14, (vi ((bo : Nat) : Int))), (15, (xX ca)), (136, (jQ b.length)), (137, (jQ i))], [(0, some (bm jD u2)), (1, some (bm jD q))]⟩) (fun (i, u2, bo, ca) => u2.length = (u0 ++ [0]).length ∧ Dig u2 ∧ u2.take j = u.take j ∧ u2.drop (j + i) = u.drop (j + i) ∧ i ≤ b.length ∧ bo ≤ 1 ∧ ca < 1000000000 ∧ val ((u2.drop j).take i) + G * val (v.take i) = val ((u.drop j).take i) + pw i * (ca + bo)) (fun (i, u2, bo, ca) => b.length - i) (0, u, 0, 0) wk ⟨qU, hu, rfl, rfl, Nat.zero_le _, Nat.zero_le _, by decide, by simp [val]⟩ ?_
    rintro ⟨i, u2, bo, ca⟩ ⟨hl2, hd2, ht2, hd2', hin, hbo, hca, hv2⟩
    have hgi := hvd.getD i
    have hgu := hd2.getD (i + j)
    have hpq : G * v.getD i 0 ≤ 999999999 * 999999999 := Nat.mul_le_mul (by omega) (by omega)
    refine jA <| kx [(138, (vb (decide (((i : Nat) : Int) < ((b.length : Nat) : Int)))))] [] (zE uP <| zZ) ?_
    refine jA <| jG rfl (fun h6 => ?_) (fun h6 => ?_)
    ·replace h6 := of_decide_eq_true h6
     have hi : i < b.length := by omega
     refine jF <| jA <| jH <| jA <| kx [(16, (jQ i))] [] (zM <| zM <| zZ) ?_
     refine jA <| kx [(17, (xX ((G * (v.getD i 0)) + ca)))] [] (zM <| zM <| zM <| zE (yO kC i (0 : Nat)) <| zE (nB qD) <| zE (yV vZ xC (v.getD i 0)) <| zE (oMl (G * (v.getD i 0))) <| zM <| zE (qQ ((G * (v.getD i 0)) + ca)) <| zM <| zZ) ?_
     refine jA <| kx [(15, (xX (((G * (v.getD i 0)) + ca) / 1000000000)))] [] (zM <| zE (oQu (((G * (v.getD i 0)) + ca) / 1000000000)) <| zM <| zZ) ?_
     refine jA <| kx [(18, (vi (((((u2.getD (i + j) 0) : Nat) : Int) - ((bo : Nat) : Int)) - (((((G * (v.getD i 0)) + ca) % 1000000000) : Nat) : Int))))] [] (zM <| zM <| zM <| zE (qQ (i + j)) <| zE (dT kC (i + j)) <| zR (oLp qD (i + j) (0 : Nat)) <| zE (yV vZ in2 (u2.getD (i + j) 0)) <| zM <| zE (zSb ((((u2.getD (i + j) 0) : Nat) : Int) - ((bo : Nat) : Int))) <| zM <| zE (oRe (((G * (v.getD i 0)) + ca) % 1000000000)) <| zE (yV zU in2 (((G * (v.getD i 0)) + ca) % 1000000000)) <| zE (zSb (((((u2.getD (i + j) 0) : Nat) : Int) - ((bo : Nat) : Int)) - (((((G * (v.getD i 0)) + ca) % 1000000000) : Nat) : Int))) <| zM <| zZ) ?_
     refine jA <| kx [(14, (jQ 0))] [] (zM <| zZ) ?_
     refine jA <| jA <| kx [(165, (vb (decide ((((((u2.getD (i + j) 0) : Nat) : Int) - ((bo : Nat) : Int)) - (((((G * (v.getD i 0)) + ca) % 1000000000) : Nat) : Int)) < 0))))] [] (zM <| zE uP <| zZ) ?_
     refine jG rfl (fun h7 => ?_) (fun h7 => ?_)
     ·replace h7 := of_decide_eq_true h7
      refine kx [(14, (jQ 1)), (18, (vi ((((((u2.getD (i + j) 0) : Nat) : Int) - ((bo : Nat) : Int)) - (((((G * (v.getD i 0)) + ca) % 1000000000) : Nat) : Int)) + 1000000000)))] [] (zM <| zE (zAd ((((((u2.getD (i + j) 0) : Nat) : Int) - ((bo : Nat) : Int)) - (((((G * (v.getD i 0)) + ca) % 1000000000) : Nat) : Int)) + 1000000000)) <| zM <| zM <| zZ) ?_
      refine kx [] [(0, some (bm jD (u2.set (i + j) ((u2.getD (i + j) 0 + 1000000000) - bo - (G * v.getD i 0 + ca) % 1000000000))))] (zM <| zM <| zM <| zE (qQ (i + j)) <| zM <| zE (yV un2 zP ((u2.getD (i + j) 0 + 1000000000) - bo - (G * v.getD i 0 + ca) % 1000000000) (hr := by exact (wu32 (by omega) (by omega) (by omega)))) <| zE (dT kC (i + j)) <| zT (oSp qD (i + j) ((u2.getD (i + j) 0 + 1000000000) - bo - (G * v.getD i 0 + ca) % 1000000000)) <| zZ) ?_
      refine kx [(137, (jQ (i + 1)))] [] (zE (qQ (i + 1)) <| zM <| zZ) ?_
      exact ⟨(i + 1, u2.set (i + j) ((u2.getD (i + j) 0 + 1000000000) - bo - (G * v.getD i 0 + ca) % 1000000000), 1, (G * v.getD i 0 + ca) / 1000000000), wk, (by obtain ⟨q1, q2, q3, q4, q5⟩ := msub_step (v := v) (L := (u0 ++ [0]).length) (e := (u2.getD (i + j) 0 + 1000000000) - bo - (G * v.getD i 0 + ca) % 1000000000) (borrow' := 1) hjn hi hl2 qU hd2 ht2 hd2' hv2 rfl (by omega) (by omega); exact ⟨q1, q2, q3, q4, by omega, by omega, by omega, q5⟩), (by first | omega | (dsimp only; omega))⟩
     ·replace h7 := of_decide_eq_false h7
      refine jF <| kx [] [(0, some (bm jD (u2.set (i + j) (u2.getD (i + j) 0 - bo - (G * v.getD i 0 + ca) % 1000000000))))] (zM <| zM <| zM <| zE (qQ (i + j)) <| zM <| zE (yV un2 zP (u2.getD (i + j) 0 - bo - (G * v.getD i 0 + ca) % 1000000000) (hr := by exact (wu32 (by omega) (by omega) (by omega)))) <| zE (dT kC (i + j)) <| zT (oSp qD (i + j) (u2.getD (i + j) 0 - bo - (G * v.getD i 0 + ca) % 1000000000)) <| zZ) ?_
      refine kx [(137, (jQ (i + 1)))] [] (zE (qQ (i + 1)) <| zM <| zZ) ?_
      exact ⟨(i + 1, u2.set (i + j) (u2.getD (i + j) 0 - bo - (G * v.getD i 0 + ca) % 1000000000), 0, (G * v.getD i 0 + ca) / 1000000000), wk, (by obtain ⟨q1, q2, q3, q4, q5⟩ := msub_step (v := v) (L := (u0 ++ [0]).length) (e := u2.getD (i + j) 0 - bo - (G * v.getD i 0 + ca) % 1000000000) (borrow' := 0) hjn hi hl2 qU hd2 ht2 hd2' hv2 rfl (by omega) (by omega); exact ⟨q1, q2, q3, q4, by omega, by omega, by omega, q5⟩), (by first | omega | (dsimp only; omega))⟩
    ·replace h6 := of_decide_eq_false h6
     have hie : i = b.length := by omega
     rw [hie] at hd2' hv2 hin
     obtain ⟨m1, m2, m3⟩ := msub_end hu hd2 hvd hvl hW hG1 hG2 hd2' hv2
     refine jW <| jA <| kx [(19, (vi (((((u2.getD (j + b.length) 0) : Nat) : Int) - ((bo : Nat) : Int)) - ((ca : Nat) : Int))))] [] (zM <| zM <| zM <| zE (qQ (j + b.length)) <| zE (dT kC (j + b.length)) <| zR (oLp qD (j + b.length) (0 : Nat)) <| zE (yV vZ in2 (u2.getD (j + b.length) 0)) <| zM <| zE (zSb ((((u2.getD (j + b.length) 0) : Nat) : Int) - ((bo : Nat) : Int))) <| zM <| zE (yV zU in2 ca) <| zE (zSb (((((u2.getD (j + b.length) 0) : Nat) : Int) - ((bo : Nat) : Int)) - ((ca : Nat) : Int))) <| zM <| zZ) ?_
     refine jA <| jA <| kx [(189, (vb (decide ((((((u2.getD (j + b.length) 0) : Nat) : Int) - ((bo : Nat) : Int)) - ((ca : Nat) : Int)) < 0))))] [] (zM <| zE uP <| zZ) ?_
     refine jG rfl (fun h8 => ?_) (fun h8 => ?_)
     ·replace h8 := of_decide_eq_true h8
      obtain ⟨n1, n2, r, n3, n4, n5⟩ := m2 (by omega)
      refine jA <| kx [] [(0, some (bm jD (u2.set (j + b.length) 999999999)))] (zM <| zM <| zM <| zE (qQ (j + b.length)) <| zM <| zE (zAd ((((((u2.getD (j + b.length) 0) : Nat) : Int) - ((bo : Nat) : Int)) - ((ca : Nat) : Int)) + 1000000000)) <| zE (yV un2 zP 999999999 (hr := by exact (wu32 (by omega) (by omega) (by omega)))) <| zE (dT kC (j + b.length)) <| zT (oSp qD (j + b.length) 999999999) <| zZ) ?_
      refine jA <| kx [(12, (xX (G - 1)))] [] (zM <| zE (oSb (G - 1)) <| zM <| zZ) ?_
      refine jA <| kx [(20, (dC 0))] [] (zM <| zZ) ?_
      refine jA <| jA <| kx [(200, (jQ b.length)), (201, (jQ 0))] [] (zM <| zM <| zZ) ?_
      refine jH <| kH (α := Nat × List Nat × Nat) (fun (i, u3, c) => ⟨[(4, (.own 1 135 1 ((u0 ++ [0]).length - b.length))), (6, (dC (nW b))), (7, (.own 0 135 1 ((u0 ++ [0]).length))), (8, (vl 135 1 jD v)), (9, (jQ b.length)), (10, (jQ j)), (12, (xX (G - 1))), (20, (dC c)), (200, (jQ b.length)), (201, (jQ i))], [(0, some (bm jD u3)), (1, some (bm jD q))]⟩) (fun (i, u3, c) => u3.length = (u0 ++ [0]).length ∧ Dig u3 ∧ u3.take j = (u2.set (j + b.length) 999999999).take j ∧ u3.drop (j + i) = (u2.set (j + b.length) 999999999).drop (j + i) ∧ i ≤ b.length ∧ c ≤ 1 ∧ val ((u3.drop j).take i) + pw i * c = val (((u2.set (j + b.length) 999999999).drop j).take i) + val (v.take i)) (fun (i, u3, c) => b.length - i) (0, u2.set (j + b.length) 999999999, 0) wk ⟨by simpa using hl2, hd2.set _ (by decide), rfl, rfl, Nat.zero_le _, Nat.zero_le _, by simp [val]⟩ ?_
      rintro ⟨i, u3, c⟩ ⟨hl3, hd3, ht3, hd3', hin, hc, hv3⟩
      have hgi := hvd.getD i
      have hgu := hd3.getD (i + j)
      have hgt := hd3.getD (j + b.length)
      refine jA <| kx [(202, (vb (decide (((i : Nat) : Int) < ((b.length : Nat) : Int)))))] [] (zE uP <| zZ) ?_
      refine jA <| jG rfl (fun h9 => ?_) (fun h9 => ?_)
      ·replace h9 := of_decide_eq_true h9
       have hi : i < b.length := by omega
       refine jF <| jA <| jH <| jA <| kx [(21, (jQ i))] [] (zM <| zM <| zZ) ?_
       refine jA <| kd [(22, (dC (((u3.getD (i + j) 0) + (v.getD i 0)) + c)))] [] mo (wM <| wM <| wM <| wE (qQ (i + j)) <| wE (dT kC (i + j)) <| wR (oLp qD (i + j) (0 : Nat)) <| wM <| wM <| wE (yO kC i (0 : Nat)) <| wE (nB qD) <| wE (qQ ((u3.getD (i + j) 0) + (v.getD i 0))) <| wM <| wE (qQ (((u3.getD (i + j) 0) + (v.getD i 0)) + c)) <| wM <| wZ) ?_
       refine jA <| kx [(20, (dC 0))] [] (zM <| zZ) ?_
       refine jA <| jA <| kx [(218, (vb (decide (1000000000 ≤ (((((u3.getD (i + j) 0) + (v.getD i 0)) + c) : Nat) : Int)))))] [] (zM <| zE oGe <| zZ) ?_
       refine jG rfl (fun h10 => ?_) (fun h10 => ?_)
       ·replace h10 := of_decide_eq_true h10
        refine kx [(20, (dC 1)), (22, (dC ((((u3.getD (i + j) 0) + (v.getD i 0)) + c) - 1000000000)))] [] (zM <| zE (oSb ((((u3.getD (i + j) 0) + (v.getD i 0)) + c) - 1000000000)) <| zM <| zM <| zZ) ?_
        refine kx [] [(0, some (bm jD (u3.set (i + j) ((((u3.getD (i + j) 0) + (v.getD i 0)) + c) - 1000000000))))] (zM <| zM <| zM <| zE (qQ (i + j)) <| zM <| zE (dT kC (i + j)) <| zT (oSp qD (i + j) ((((u3.getD (i + j) 0) + (v.getD i 0)) + c) - 1000000000)) <| zZ) ?_
        refine kx [(201, (jQ (i + 1)))] [] (zE (qQ (i + 1)) <| zM <| zZ) ?_
        exact ⟨(i + 1, u3.set (i + j) (u3.getD (i + j) 0 + v.getD i 0 + c - 1000000000), 1), wk, (by obtain ⟨q1, q2, q3, q4, q5⟩ := addb_step (v := v) (L := (u0 ++ [0]).length) (s := u3.getD (i + j) 0 + v.getD i 0 + c) (e := u3.getD (i + j) 0 + v.getD i 0 + c - 1000000000) (c' := 1) hjn hi hl3 (by simpa using hl2) hd3 ht3 hd3' hv3 rfl (by omega) (by omega); exact ⟨q1, q2, q3, q4, by omega, by omega, q5⟩), (by first | omega | (dsimp only; omega))⟩
       ·replace h10 := of_decide_eq_false h10
        refine jF <| kx [] [(0, some (bm jD (u3.set (i + j) (((u3.getD (i + j) 0) + (v.getD i 0)) + c))))] (zM <| zM <| zM <| zE (qQ (i + j)) <| zM <| zE (dT kC (i + j)) <| zT (oSp qD (i + j) (((u3.getD (i + j) 0) + (v.getD i 0)) + c)) <| zZ) ?_
        refine kx [(201, (jQ (i + 1)))] [] (zE (qQ (i + 1)) <| zM <| zZ) ?_
        exact ⟨(i + 1, u3.set (i + j) (u3.getD (i + j) 0 + v.getD i 0 + c), 0), wk, (by obtain ⟨q1, q2, q3, q4, q5⟩ := addb_step (v := v) (L := (u0 ++ [0]).length) (s := u3.getD (i + j) 0 + v.getD i 0 + c) (e := u3.getD (i + j) 0 + v.getD i 0 + c) (c' := 0) hjn hi hl3 (by simpa using hl2) hd3 ht3 hd3' hv3 rfl (by omega) (by omega); exact ⟨q1, q2, q3, q4, by omega, by omega, q5⟩), (by first | omega | (dsimp only; omega))⟩
      ·replace h9 := of_decide_eq_false h9
       have hie2 : i = b.length := by omega
       rw [hie2] at hd3' hv3 hin
       refine jW <| kx [] [(0, some (bm jD (u3.set (j + b.length) (((u3.getD (j + b.length) 0) + c) % 1000000000))))] (zM <| zM <| zM <| zE (qQ (j + b.length)) <| zM <| zM <| zM <| zE (qQ (j + b.length)) <| zE (dT kC (j + b.length)) <| zR (oLp qD (j + b.length) (0 : Nat)) <| zM <| zE (qQ ((u3.getD (j + b.length) 0) + c)) <| zE (oRe (((u3.getD (j + b.length) 0) + c) % 1000000000)) <| zE (dT kC (j + b.length)) <| zT (oSp qD (j + b.length) (((u3.getD (j + b.length) 0) + c) % 1000000000)) <| zZ) ?_
       refine kx [] [(1, some (bm jD (q.set j (G - 1))))] (zM <| zM <| zM <| zE (yV zU zP (G - 1)) <| zE (dT kC j) <| zT (oSp qD j (G - 1)) <| zZ) ?_
       refine kx [(10, (vi (((j : Nat) : Int) - 1)))] [] (zM <| zE (zSb (((j : Nat) : Int) - 1)) <| zM <| zZ) ?_
       exact ⟨(j, u3.set (j + b.length) ((u3.getD (j + b.length) 0 + c) % 1000000000), q.set j (G - 1)), wk, (by obtain ⟨p1, p2⟩ := neg_end hd3 hvd hvl (by omega) (by omega) (hl2.trans qU.symm) (hl3.trans qU.symm) ht2 hd2' hW hc ht3 hd3' hv3 n3 n4 n5 hU; exact ⟨by simpa using hl3, hd3.set _ (Nat.mod_lt _ (by decide)), by simpa using hql, hqd.set _ (by omega), by omega, p1, p2⟩), (by first | omega | (dsimp only; omega))⟩
     ·replace h8 := of_decide_eq_false h8
      obtain ⟨n1, n2, n3⟩ := m3 (by omega)
      refine kx [] [(0, some (bm jD (u2.set (j + b.length) 0)))] (zM <| zM <| zM <| zE (qQ (j + b.length)) <| zM <| zE (yV un2 zP 0 (hr := by exact (wu32 (by omega) (by omega) (by omega)))) <| zE (dT kC (j + b.length)) <| zT (oSp qD (j + b.length) 0) <| zZ) ?_
      refine kx [] [(1, some (bm jD (q.set j G)))] (zM <| zM <| zM <| zE (yV zU zP G) <| zE (dT kC j) <| zT (oSp qD j G) <| zZ) ?_
      refine kx [(10, (vi (((j : Nat) : Int) - 1)))] [] (zM <| zE (zSb (((j : Nat) : Int) - 1)) <| zM <| zZ) ?_
      exact ⟨(j, u2.set (j + b.length) 0, q.set j G), wk, (by obtain ⟨p1, p2⟩ := pos_end hu hvd hvl (by omega) (by omega) (hl2.trans qU.symm) ht2 hd2' hW n2 n3 hU; exact ⟨by simpa using hl2, hd2.set _ (by decide), by simpa using hql, hqd.set _ (by omega), by omega, p1, p2⟩), (by first | omega | (dsimp only; omega))⟩
  ·replace h2 := of_decide_eq_false h2
   obtain rfl : k = 0 := by omega
   obtain ⟨e1, e2⟩ := scl_div hdb (by omega) (by rw [hvv] at hU; exact hU) (by rw [hvv] at hW; exact hW)
   rw [List.drop_zero] at hW
   refine jW <| jA <| kY (vV (t := 7) (k := 0) (es := List.map jD u) rfl rfl (uO _ _ (fun _ => rfl)) (uS _ _ qU) (vE _ _ (fun _ => rfl) qU)) ?_
   refine kx [(5, (vl 135 1 jD (ofNat (val (ofNat (val (List.take b.length u))) / (nW b)))))] [] (zM <| zM <| zE (e_slc (l := 0) (h := b.length) (kl := .i64) (kh := .i64) (es' := List.map jD (List.take b.length u)) (by exact rfl) kC (by exact rfl) (by exact rfl) (by exact rfl) (Nat.zero_le _) (by simp only [List.length_map]; omega) (by rw [List.drop_zero, List.map_take])) <| zE (kD (t_trim (List.take b.length u) (hu.take _) (by rw [List.length_take]; omega))) <| zM <| zE (kD (t_short (ofNat (val (List.take b.length u))) (nW b) (jY _) (by omega) (by omega) (Nat.le_trans (ofNat_val_len (hu.take _)) (by rw [List.length_take]; omega)))) <| zM <| zE qG <| zE qG <| zM <| zZ) ?_
   refine jA <| kY (vV (t := 4) (k := 1) (es := List.map jD q) rfl rfl (uO _ _ (fun _ => rfl)) (uS _ _ hql) (vE _ _ (fun _ => rfl) hql)) ?_
   refine kx [(4, (vl 135 1 jD (ofNat (val q)))), (5, (vl 135 1 jD (ofNat (val (ofNat (val (List.take b.length u))) / (nW b)))))] [] (zM <| zE (kD (t_trim q hqd (by omega))) <| zM <| zM <| zM <| zZ) ?_
   refine jI ⟨_, (.tmp (d := (.sl 135 1 (List.map jD (ofNat (val q))))) rfl (.tmp (d := (.sl 135 1 (List.map jD (ofNat (val (ofNat (val (List.take b.length u))) / (nW b)))))) rfl .nil)), ?_⟩
   rw [← e1, ← e2, jX, val_take_of_lt (Nat.lt_trans hW (by rw [← hvl]; exact uX hvd))]; rfl
end Go.Proofs.YtihgdjljnaekmaaGreat
namespace Go.Proofs.YtihgdjljnaekmaaGreat
open Go.Fid
set_option maxRecDepth 4000
set_option linter.unusedVariables false
set_option linter.unusedSimpArgs false
theorem cb141 : callB Tryz.prog 141 = true := by kernel_rfl
theorem cb174 : callB Tryz.prog 174 = true := by kernel_rfl
theorem cb178 : callB Tryz.prog 178 = true := by kernel_rfl
theorem t_over (a b : List Nat) (ha : zC a) (hb : zC b) (hb0 : 0 < val b) (hla : a.length ≤ 1099511627776) (hlb : b.length ≤ 1099511627776) : jZ Tryz.prog 174 [(.sl 135 1 (List.map jD a)), (.sl 135 1 (List.map jD b))] (.tup [(.sl 135 1 (List.map jD (ofNat (val a / val b)))), (.sl 135 1 (List.map jD (ofNat (val a % val b))))]) := by
 refine jL Tryz.func174 rfl cb174 rfl ?_
 show qS _ _ _ _ ⟨[(0, (vl 135 1 jD a)), (1, (vl 135 1 jD b))], []⟩
 refine jA <| kx [] [] (zE (oNl 135 1) <| zE (oNl 135 1) <| zZ) ?_
 refine jA <| jA <| kx [(15, (vb (decide ((qY ((val a : Nat) : Int) ((val b : Nat) : Int)) < 0))))] [] (zM <| zM <| zE (kD (t_compare a b ha hb (by omega))) <| zE uP <| zZ) ?_
 refine jG rfl (fun h1 => ?_) (fun h1 => ?_)
 ·replace h1 := of_decide_eq_true h1
  refine jA <| kx [(4, (vl 135 1 jD [])), (5, (vl 135 1 jD a))] [] (zM <| zE (oNl 135 1) <| zM <| zZ) ?_
  refine jI ⟨_, (.tmp (d := (.sl 135 1 (List.map jD []))) rfl (.tmp (d := (.sl 135 1 (List.map jD a))) rfl .nil)), ?_⟩
  have hlt := cmpI_neg h1
  rw [Nat.div_eq_of_lt hlt, Nat.mod_eq_of_lt hlt, uC, ← can_eq ha]; rfl
 ·replace h1 := of_decide_eq_false h1
  refine jF <| jA <| kx [(6, (xX (xL a))), (7, (vb (gN a)))] [] (zM <| zE (kD (t_word a ha.1)) <| zM <| zE qG <| zE qG <| zM <| zM <| zZ) ?_
  refine jA <| kx [(8, (xX (xL b))), (9, (vb (gN b)))] [] (zM <| zE (kD (t_word b hb.1)) <| zM <| zE qG <| zE qG <| zM <| zM <| zZ) ?_
  refine jA <| jA <| kx [(30, (vb ((gN a) && (gN b))))] [] ?_ ?_
  ·refine zM <| zE (oV (vb (gN a)) (kP (by kernel_rfl))) <| ?_
   rcases hb2 : (gN a) with _ | _
   ·exact zK <| zE oPf <| zZ
   ·exact zM <| zE oPa <| zZ
  refine jG (b := ((gN a) && (gN b))) rfl (fun h3 => ?_) (fun h3 => ?_)
  ·obtain ⟨w1, w2, w3⟩ := word_both ha.1 h3
   have w4 : xL a / xL b < 18446744073709551616 := Nat.lt_of_le_of_lt (Nat.div_le_self _ _) (by omega)
   have w5 : xL a % xL b < 18446744073709551616 := Nat.lt_of_le_of_lt (Nat.mod_le _ _) (by omega)
   refine jA <| kd [(4, (vl 135 1 jD (ofNat ((xL a) / (xL b))))), (5, (vl 135 1 jD (ofNat ((xL a) % (xL b)))))] [] mo (wM <| wM <| wE (oQu ((xL a) / (xL b))) <| wE (kD (t_split ((xL a) / (xL b)) (by omega))) <| wM <| wM <| wE (oRe ((xL a) % (xL b))) <| wE (kD (t_split ((xL a) % (xL b)) (by omega))) <| wM <| wM <| wZ) ?_
   refine jI ⟨_, (.tmp (d := (.sl 135 1 (List.map jD (ofNat ((xL a) / (xL b)))))) rfl (.tmp (d := (.sl 135 1 (List.map jD (ofNat ((xL a) % (xL b)))))) rfl .nil)), ?_⟩
   rw [w1, w2]; rfl
  ·refine jF <| jA <| jA <| kx [(41, (vb (((b.length : Nat) : Int) == 1)))] [] (zM <| zE (xA kC) <| zE gF <| zZ) ?_
   refine jG (b := (((b.length : Nat) : Int) == 1)) rfl (fun h4 => ?_) (fun h4 => ?_)
   ·replace h4 := eq_of_beq h4
    have hv1 := val_len1 (b := b) (by omega)
    have hg := hb.1.getD 0
    have w5 : val a % b.getD 0 0 < 4294967296 := Nat.lt_trans (Nat.mod_lt _ (by omega)) (by omega)
    refine jA <| kx [(10, (vl 135 1 jD (ofNat (val a / (b.getD 0 0))))), (11, (dC (val a % (b.getD 0 0))))] [] (zM <| zM <| zE (yO kC 0 (0 : Nat)) <| zE (nB qD) <| zE (kD (t_short a (b.getD 0 0) ha.1 (by omega) (by omega) (by omega))) <| zM <| zE qG <| zE qG <| zM <| zM <| zZ) ?_
    refine jA <| kx [(4, (vl 135 1 jD (ofNat (val a / (b.getD 0 0))))), (5, (vl 135 1 jD (ofNat (val a % (b.getD 0 0)))))] [] (zM <| zM <| zE (yV vZ xC (val a % (b.getD 0 0))) <| zE (kD (t_split (val a % (b.getD 0 0)) (by omega))) <| zM <| zM <| zZ) ?_
    refine jI ⟨_, (.tmp (d := (.sl 135 1 (List.map jD (ofNat (val a / (b.getD 0 0)))))) rfl (.tmp (d := (.sl 135 1 (List.map jD (ofNat (val a % (b.getD 0 0)))))) rfl .nil)), ?_⟩
    rw [hv1]; rfl
   ·replace h4 := ne_of_beq_false h4
    have hbl := val_pos_len hb0
    refine jF <| jA <| kx [(4, (vl 135 1 jD (ofNat (val a / val b)))), (5, (vl 135 1 jD (ofNat (val a % val b))))] [] (zM <| zM <| zE (kD (t_long a b ha hb (by omega) (cmpI_nn h1) (by omega))) <| zE qG <| zE qG <| zM <| zM <| zZ) ?_
    refine jI ⟨_, (.tmp (d := (.sl 135 1 (List.map jD (ofNat (val a / val b))))) rfl (.tmp (d := (.sl 135 1 (List.map jD (ofNat (val a % val b))))) rfl .nil)), ?_⟩
    rfl
theorem t_divideI (x y : kG) (hx : x.gs.length ≤ 1099511627776) (hy : y.gs.length ≤ 1099511627776) (hy0 : jS y ≠ 0) : jZ Tryz.prog 178 [(jJ x), (jJ y)] (.tup [(jJ (jR ((jS x).fdiv (jS y)))), (jJ (jR ((jS x).fmod (jS y)))), (.val (.int .i64 (0)))]) := by
 have hgx := kR x
 have hlx := xZ x
 have hgy := kR y
 have hly := xZ y
 have hn : 0 < val (jV y) := by have := fY y; omega
 have hq := len_quo (jV x) hgx (val (jV y))
 have hr := len_rem (jV x) hgx (val (jV y))
 have hrn := Nat.mod_lt (val (jV x)) hn
 refine jL Tryz.func178 rfl cb178 rfl ?_
 show qS _ _ _ _ ⟨[(0, (.d (jJ x))), (1, (.d (jJ y)))], []⟩
 refine jA <| kx [(2, (.ref 0 0)), (3, (.ref 1 0)), (4, (.ref 2 0)), (5, (.ref 3 0))] [(0, some (bx (jJ x))), (1, some (bx (jJ y))), (2, some (bx (jJ (kG.mk false [])))), (3, some (bx (jJ (kG.mk false []))))] (zN (zL 0) <| zN (zL 1) <| zN (uQ 2 uN uM) <| zN (uQ 3 uN uM) <| zM <| zZ) ?_
 refine jA <| kd [(7, (vl 135 1 jD (jV x))), (8, (vl 135 1 jD (jV y)))] [] mo (wR (kT jM) <| wE (kD (yB x (by omega))) <| wR (kT jM) <| wE (kD (yB y (by omega))) <| wM <| wM <| wZ) ?_
 refine jA <| jA <| kx [(17, (vb ((((jV y).length : Nat) : Int) == 0)))] [] (zM <| zE (xA kC (L := (jV y))) <| zE gF <| zZ) ?_
 refine jG (b := ((((jV y).length : Nat) : Int) == 0)) rfl (fun h1 => ?_) (fun h1 => ?_)
 ·replace h1 := eq_of_beq h1
  exact absurd (toZ_nil h1) hy0
 ·replace h1 := ne_of_beq_false h1
  refine jF <| jA <| kx [(9, (vl 135 1 jD (ofNat (val (jV x) / val (jV y))))), (10, (vl 135 1 jD (ofNat (val (jV x) % val (jV y)))))] [] (zM <| zM <| zE (kD (t_over (jV x) (jV y) hgx hgy (by omega) (by omega) (by omega))) <| zM <| zE qG <| zE qG <| zM <| zM <| zZ) ?_
  refine jA <| kx [(10, (vl 135 1 jD (ofNat (val (jV x) % val (jV y)))))] [] (zM <| zE (kD (t_clone (ofNat (val (jV x) % val (jV y))) (by omega))) <| zM <| zZ) ?_
  refine jA <| jA <| kx [(37, (vb (decide (0 < (((ofNat (val (jV x) % val (jV y))).length : Nat) : Int)) && !(x.neg == y.neg))))] [] ?_ ?_
  ·refine zM <| zE (xA kC (L := (ofNat (val (jV x) % val (jV y))))) <| zE mZ <| zE (oV (vb (decide (0 < (((ofNat (val (jV x) % val (jV y))).length : Nat) : Int)))) (kP (by kernel_rfl))) <| ?_
   rcases hb2 : (decide (0 < (((ofNat (val (jV x) % val (jV y))).length : Nat) : Int))) with _ | _
   ·replace hb2 := of_decide_eq_false hb2
    exact zK <| zK <| zK <| zK <| zK <| zE oPf <| zZ
   ·replace hb2 := of_decide_eq_true hb2
    exact zE (kQ uW) <| zR (kM cZ) <| zE (kQ uW) <| zR (kM cZ) <| zE (oNb bo4) <| zE oPa <| zZ
  refine jG rfl (fun h3 => ?_) (fun h3 => ?_)
  ·have e1 : (ofNat (val (ofNat (val (jV x) / val (jV y))) + val [1])).length ≤ 1099511627777 := qJ (by rw [jX, nS]; have := ofNat_lt_pw (val (jV x) / val (jV y)); have h3 : pw (ofNat (val (jV x) / val (jV y))).length ≤ pw 1099511627776 := yM (by omega); have h4 := pw_lt (show 1099511627776 < 1099511627777 by decide); omega)
   have e2 := sub_len (b := ofNat (val (jV x) % val (jV y))) hgy.1
   rw [Bool.and_eq_true, decide_eq_true_eq, Bool.not_eq_true', beq_eq_false_iff_ne] at h3
   obtain ⟨k1, k2⟩ := h3
   have k3 : 0 < val (jV x) % val (jV y) := by have := hZ (kO (val (jV x) % val (jV y))) (by omega); rwa [jX] at this
   obtain ⟨d1, d2⟩ := div_other hn k2 k3
   refine kx [(9, (vl 135 1 jD (ofNat (val (ofNat (val (jV x) / val (jV y))) + val [1])))), (10, (vl 135 1 jD (ofNat (val (jV y) - val (ofNat (val (jV x) % val (jV y)))))))] [] (zM <| zE (aA kC uU xP) <| zE (kD (t_plus (ofNat (val (jV x) / val (jV y))) [1] (jY _) (xQ.2 ⟨by decide, zY⟩) (by omega) (by decide))) <| zM <| zM <| zE (kD (t_minus (jV y) (ofNat (val (jV x) % val (jV y))) hgy.1 (jY _) (by rw [jX]; omega) (by omega))) <| zM <| zM <| zZ) ?_
   refine jA <| kd [(6, (jQ 0))] [(2, some (bx (jJ (vH (!(x.neg == y.neg)) (val (ofNat (val (ofNat (val (jV x) / val (jV y))) + val [1]))))))), (3, some (bx (jJ (vH y.neg (val (ofNat (val (jV y) - val (ofNat (val (jV x) % val (jV y))))))))))] mo (wE (kQ uW) <| wR (kM cZ) <| wE (kQ uW) <| wR (kM cZ) <| wE (oNb bo4) <| wM <| wE (kD (mC (!(x.neg == y.neg)) (ofNat (val (ofNat (val (jV x) / val (jV y))) + val [1])) (jY _) (by omega))) <| wE (kQ uW) <| wR (kM cZ) <| wM <| wE (kD (mC y.neg (ofNat (val (jV y) - val (ofNat (val (jV x) % val (jV y))))) (jY _) (by omega))) <| wT (kZ jM) <| wT (kZ jM) <| wM <| wZ) ?_
   refine jI ⟨_, (kS (cs := (bx (jJ (vH (!(x.neg == y.neg)) (val (ofNat (val (ofNat (val (jV x) / val (jV y))) + val [1]))))))) (d := (jJ (vH (!(x.neg == y.neg)) (val (ofNat (val (ofNat (val (jV x) / val (jV y))) + val [1])))))) rfl rfl jM rfl rfl (kS (cs := (bx (jJ (vH y.neg (val (ofNat (val (jV y) - val (ofNat (val (jV x) % val (jV y)))))))))) (d := (jJ (vH y.neg (val (ofNat (val (jV y) - val (ofNat (val (jV x) % val (jV y))))))))) rfl rfl jM rfl rfl (.tmp (d := (.val (.int .i64 (0)))) rfl .nil))), ?_⟩
   unfold jS
   rw [d1, d2]
   simp only [jX, nS]
   rfl
  ·obtain ⟨d1, d2⟩ := div_same (b := x.neg) (c := y.neg) (m := val (jV x)) hn (by rw [Bool.and_eq_false_iff, decide_eq_false_iff_not, Bool.not_eq_false', beq_iff_eq] at h3; rcases h3 with k | k; right; have := gS (n := val (jV x) % val (jV y)); omega; exact .inl k)
   refine jF <| jA <| kd [(6, (jQ 0))] [(2, some (bx (jJ (vH (!(x.neg == y.neg)) (val (ofNat (val (jV x) / val (jV y)))))))), (3, some (bx (jJ (vH y.neg (val (ofNat (val (jV x) % val (jV y))))))))] mo (wE (kQ uW) <| wR (kM cZ) <| wE (kQ uW) <| wR (kM cZ) <| wE (oNb bo4) <| wM <| wE (kD (mC (!(x.neg == y.neg)) (ofNat (val (jV x) / val (jV y))) (jY _) (by omega))) <| wE (kQ uW) <| wR (kM cZ) <| wM <| wE (kD (mC y.neg (ofNat (val (jV x) % val (jV y))) (jY _) (by omega))) <| wT (kZ jM) <| wT (kZ jM) <| wM <| wZ) ?_
   refine jI ⟨_, (kS (cs := (bx (jJ (vH (!(x.neg == y.neg)) (val (ofNat (val (jV x) / val (jV y)))))))) (d := (jJ (vH (!(x.neg == y.neg)) (val (ofNat (val (jV x) / val (jV y))))))) rfl rfl jM rfl rfl (kS (cs := (bx (jJ (vH y.neg (val (ofNat (val (jV x) % val (jV y)))))))) (d := (jJ (vH y.neg (val (ofNat (val (jV x) % val (jV y))))))) rfl rfl jM rfl rfl (.tmp (d := (.val (.int .i64 (0)))) rfl .nil))), ?_⟩
   unfold jS
   rw [d1, d2]
   simp only [jX]
   rfl
theorem t_gcdI (x y : kG) (hx : x.gs.length ≤ 1099511627776) (hy : y.gs.length ≤ 1099511627776) : jZ Tryz.prog 141 [(jJ x), (jJ y)] (jJ (jR ((Int.gcd (jS x) (jS y) : Nat) : Int))) := by
 have hgx := kR x
 have hlx := xZ x
 have hgy := kR y
 have hly := xZ y
 refine jL Tryz.func141 rfl cb141 rfl ?_
 show qS _ _ _ _ ⟨[(0, (.d (jJ x))), (1, (.d (jJ y)))], []⟩
 refine jA <| kx [(2, (.ref 0 0)), (3, (.ref 1 0)), (4, (.ref 2 0))] [(0, some (bx (jJ x))), (1, some (bx (jJ y))), (2, some (bx (jJ (kG.mk false []))))] (zN (zL 0) <| zN (zL 1) <| zN (uQ 2 uN uM) <| zZ) ?_
 refine jA <| kd [(5, (vl 135 1 jD (jV x))), (6, (vl 135 1 jD (jV y)))] [] mo (wR (kT jM) <| wE (kD (yB x (by omega))) <| wR (kT jM) <| wE (kD (yB y (by omega))) <| wM <| wM <| wZ) ?_
 refine jA <| jH <| kH (α := List Nat × List Nat) (fun (a, b) => ⟨[(4, (.ref 2 0)), (5, (vl 135 1 jD a)), (6, (vl 135 1 jD b))], [(2, some (bx (jJ (kG.mk false []))))]⟩) (fun (a, b) => zC a ∧ zC b ∧ a.length ≤ 1099511627776 ∧ b.length ≤ 1099511627776 ∧ Nat.gcd (val a) (val b) = Int.gcd (jS x) (jS y)) (fun (a, b) => val b) (jV x, jV y) wk ⟨hgx, hgy, by omega, by omega, gcd_toZ x y⟩ ?_
 rintro ⟨a, b⟩ ⟨ha, hb, hla, hlb, hg⟩
 refine jA <| jA <| kx [(19, (vb (decide (0 < ((b.length : Nat) : Int)))))] [] (zM <| zE (xA kC) <| zE mZ <| zZ) ?_
 refine jG (b := decide (0 < ((b.length : Nat) : Int))) rfl (fun h1 => ?_) (fun h1 => ?_)
 ·replace h1 := of_decide_eq_true h1
  have hb0 := hZ hb (by omega)
  refine jF <| jH <| jA <| kx [(7, (xX (xL a))), (8, (vb (gN a)))] [] (zM <| zE (kD (t_word a ha.1)) <| zM <| zE qG <| zE qG <| zM <| zM <| zZ) ?_
  refine jA <| kx [(9, (xX (xL b))), (10, (vb (gN b)))] [] (zM <| zE (kD (t_word b hb.1)) <| zM <| zE qG <| zE qG <| zM <| zM <| zZ) ?_
  refine jA <| jA <| kx [(33, (vb ((gN a) && (gN b))))] [] ?_ ?_
  ·refine zM <| zE (oV (vb (gN a)) (kP (by kernel_rfl))) <| ?_
   rcases hb2 : (gN a) with _ | _
   ·exact zK <| zE oPf <| zZ
   ·exact zM <| zE oPa <| zZ
  refine jG (b := ((gN a) && (gN b))) rfl (fun h3 => ?_) (fun h3 => ?_)
  ·obtain ⟨w1, w2, w3⟩ := word_both ha.1 h3
   have w4 : val b < 1000000000000000000 := by rw [Bool.and_eq_true] at h3; exact val_len2 hb.1 (of_decide_eq_true h3.2)
   refine jA <| jH <| kH (α := Nat × Nat) (fun (m, n) => ⟨[(4, (.ref 2 0)), (7, (xX m)), (9, (xX n))], [(2, some (bx (jJ (kG.mk false []))))]⟩) (fun (m, n) => m < 1000000000000000000 ∧ n < 1000000000000000000 ∧ Nat.gcd m n = Int.gcd (jS x) (jS y)) (fun (m, n) => n) (xL a, xL b) wk ⟨by omega, by omega, by rw [w1, w2]; exact hg⟩ ?_
   rintro ⟨m, n⟩ ⟨hm, hn, hg2⟩
   refine jA <| jA <| kx [(35, (vb (decide (0 < ((n : Nat) : Int)))))] [] (zM <| zE mZ <| zZ) ?_
   refine jG (b := decide (0 < ((n : Nat) : Int))) rfl (fun h4 => ?_) (fun h4 => ?_)
   ·replace h4 := of_decide_eq_true h4
    refine jF <| jH <| kd [(7, (xX n)), (9, (xX (m % n)))] [] mo (wM <| wM <| wM <| wE (oRe (m % n)) <| wM <| wM <| wZ) ?_
    exact ⟨(n, m % n), wk, ⟨hn, Nat.lt_of_le_of_lt (Nat.mod_le _ _) hm, by rw [← hg2, Nat.gcd_comm, ← Nat.gcd_rec, Nat.gcd_comm]⟩, (by dsimp only; exact Nat.mod_lt _ (by omega))⟩
   ·replace h4 := of_decide_eq_false h4
    obtain rfl : n = 0 := by omega
    rw [Nat.gcd_zero_right] at hg2
    refine jW <| jA <| kx [] [(2, some (bx (jJ (vH false (val (ofNat m))))))] (zM <| zE (kD (t_split m (by omega))) <| zE (kD (mC false (ofNat m) (jY _) (Nat.le_trans (dL (by omega)) (by decide)))) <| zT (kZ jM) <| zZ) ?_
    refine jI ⟨_, (kS (cs := (bx (jJ (vH false (val (ofNat m)))))) (d := (jJ (vH false (val (ofNat m))))) rfl rfl jM rfl rfl .nil), ?_⟩
    rw [← hg2, jX, mkI_false]; rfl
  ·refine jF <| jA <| kx [(12, (vl 135 1 jD (ofNat (val a % val b))))] [] (zM <| zM <| zE (kD (t_over a b ha hb hb0 (by omega) (by omega))) <| zM <| zE qG <| zE qG <| zM <| zM <| zZ) ?_
   refine kx [(5, (vl 135 1 jD b)), (6, (vl 135 1 jD (ofNat (val a % val b))))] [] (zM <| zM <| zM <| zM <| zZ) ?_
   exact ⟨(b, ofNat (val a % val b)), wk, ⟨hb, kO _, hlb, Nat.le_trans (len_rem a ha _) hla, by rw [jX, ← hg, Nat.gcd_comm, ← Nat.gcd_rec, Nat.gcd_comm]⟩, (by dsimp only; rw [jX]; exact Nat.mod_lt _ hb0)⟩
 ·replace h1 := of_decide_eq_false h1
  have hb1 : b = [] := List.eq_nil_of_length_eq_zero (by omega)
  rw [hb1, val_nil, Nat.gcd_zero_right] at hg
  refine jW <| jA <| kx [] [(2, some (bx (jJ (vH false (val a)))))] (zM <| zE (kD (t_clone a (by omega))) <| zE (kD (mC false a ha.1 (by omega))) <| zT (kZ jM) <| zZ) ?_
  refine jI ⟨_, (kS (cs := (bx (jJ (vH false (val a))))) (d := (jJ (vH false (val a)))) rfl rfl jM rfl rfl .nil), ?_⟩
  rw [← hg, mkI_false]; rfl
end Go.Proofs.YtihgdjljnaekmaaGreat
