/- Part 16 of a proof: rules, plain facts, and functions walked. -/
import Derived.Test.YtnajallgoaiahaaGreatDoorM15
namespace Go.Proofs.YtnajallgoaiahaaGreatDoor
open Go.Fid
set_option maxRecDepth 4000
set_option linter.unusedVariables false
set_option linter.unusedSimpArgs false
theorem cb253 : callB Tryz.prog 253 = true := by kernel_rfl
theorem in2 : intB Tryz.prog 2 = some .i64 := by kernel_rfl
theorem un2 : (Tryz.prog.underlying 2).isSome = true := by kernel_rfl
set_option maxHeartbeats 4000000 in
theorem t_long (a b : List Nat) (hda : xX a) (hdb : xX b) (hb2 : 2 ≤ b.length) (hba : val b ≤ val a) (hla : a.length ≤ 1099511627776) : jT Tryz.prog 253 [(.sl 140 1 (List.map jC a)), (.sl 140 1 (List.map jC b))] (.tup [(.sl 140 1 (List.map jC (ofNat (val a / val b)))), (.sl 140 1 (List.map jC (ofNat (val a % val b))))]) := by
 have hab := len_of_le hda hdb hba
 have hsc := aR hdb (by omega)
 have htp := bW hdb (by omega)
 have hds : Dig [cH b] := yN.2 ⟨by omega, gG⟩
 have hbp : 0 < val b := by have := val_top hdb.1 (by omega); have h2 := Nat.mul_le_mul_right (pw (b.length - 1)) htp.1; have h3 := pw_pos (b.length - 1); rw [Nat.succ_mul] at h2; omega
 obtain ⟨u0, hue⟩ : ∃ u0, u0 = ofNat (val a * val [cH b]) := ⟨_, rfl⟩
 obtain ⟨v, hve⟩ : ∃ v, v = ofNat (val b * val [cH b]) := ⟨_, rfl⟩
 have hu0 : Dig u0 := by rw [hue]; exact kL _
 have hvd : Dig v := by rw [hve]; exact kL _
 have hvl : v.length = b.length := by rw [hve, mR]; exact scl_len hdb (by omega)
 have hvv : val v = val b * cH b := by rw [hve, mR]; exact kB _
 have hu0v : val u0 = val a * cH b := by rw [hue, mR]; exact kB _
 have hu0l : a.length ≤ u0.length ∧ u0.length ≤ a.length + 1 := by rw [hue, mR]; exact scl_lenA hda hdb (by omega)
 have hLU : (u0 ++ [0]).length = u0.length + 1 := by simp
 have hcv : xX v := by rw [hve]; exact kY _
 have hv1p : 0 < v.getD (b.length - 1) 0 := by rw [← hvl]; exact (bW hcv (by omega)).1
 have hpv : pw (b.length - 1) ≤ val v := by have h1 := val_top hvd (by omega); rw [hvl] at h1; have h2 := Nat.mul_le_mul_right (pw (b.length - 1)) hv1p; omega
 refine jJ Tryz.func253 rfl cb253 rfl ?_
 show qR _ _ _ _ ⟨[(0, (vl 140 1 jC a)), (1, (vl 140 1 jC b))], []⟩
 refine jB<|kx [] [] (zE (mP 140 1)<|zE (mP 140 1)<|zZ) ?_
 refine jB<|kx [(6, (fE (cH b)))] [] (zM<|zM<|zE (vX kM)<|zE (oSb (b.length - 1))<|zE (zU kM (b.length - 1) (0 : Nat))<|zE (xI qU)<|zE (nY yD yF (b.getD (b.length - 1) 0))<|zE (vG ((b.getD (b.length - 1) 0) + 1))<|zE (oQu (cH b) (hr := by exact (quo_u64 1000000000 (b.getD (b.length - 1) 0 + 1) (by decide))))<|zE (nY gP gE (cH b))<|zM<|zZ) ?_
 refine jB<|kx [(7, (.own 0 140 1 u0.length))] [(0, some (bm jC u0))] (zM<|zM<|zE (gN kM vL xZ)<|zN (oCo 0 (hue ▸ o_times a [cH b] hda.1 hds (by omega) (by simp) (by rw [mR]; exact Nat.mul_pos (by omega) hsc.1)))<|zM<|zZ) ?_
 refine jB<|kx [(8, (vl 140 1 jC v))] [] (zM<|zM<|zE (gN kM vL xZ)<|zE (jZ (hve ▸ t_times b [cH b] hdb.1 hds (by omega) (by simp)))<|zM<|zZ) ?_
 refine jB<|kx [(9, (jN b.length))] [] (zM<|zE (oLn kM b.length (hr := by exact (by simp [hvl])))<|zM<|zZ) ?_
 refine jB<|kf [(7, (.own 0 140 1 ((u0 ++ [0]).length)))] [(0, some (bm jC (u0 ++ [0])))] (zM<|zE (gN kM vL xZ)<|zA jC u0 [0] rfl kM vL gW<|zM<|zF) ?_
 refine jB<|jB<|kx [(50, (vb (decide ((((u0 ++ [0]).length : Nat) : Int) ≤ ((a.length : Nat) : Int)))))] [] (zM<|zE (oLo kM)<|zM<|zE (vX kM)<|zE oLe<|zZ) ?_
 refine jF rfl (fun h1 => ?_) (fun h1 => ?_)
 ·replace h1 := uH h1
  exfalso; simp at h1; omega
 ·replace h1 := vB h1
  refine jD<|jB<|kx [(4, (.own 1 140 1 ((u0 ++ [0]).length - b.length)))] [(1, some (bm jC (List.replicate ((u0 ++ [0]).length - b.length) 0)))] (zM<|zE (oLo kM)<|zM<|zE (oSb ((u0 ++ [0]).length - b.length))<|zH (oMk 1 jC (0 : Nat) ((u0 ++ [0]).length - b.length) ((u0 ++ [0]).length - b.length) kM vL xZ gW)<|zM<|zZ) ?_
  refine jB<|jB<|kx [(10, (vi ((((u0 ++ [0]).length - b.length : Nat) : Int) - 1)))] [] (zM<|zE (oLo kM)<|zM<|zE (oSb ((u0 ++ [0]).length - b.length))<|zE (zSb ((((u0 ++ [0]).length - b.length : Nat) : Int) - 1))<|zM<|zZ) ?_
  refine jG<|kI (α := Nat × List Nat × List Nat) (fun (k, u, q) => ⟨[(4, (.own 1 140 1 ((u0 ++ [0]).length - b.length))), (6, (fE (cH b))), (7, (.own 0 140 1 ((u0 ++ [0]).length))), (8, (vl 140 1 jC v)), (9, (jN b.length)), (10, (vi (((k : Nat) : Int) - 1)))], [(0, some (bm jC u)), (1, some (bm jC q))]⟩) (fun (k, u, q) => u.length = (u0 ++ [0]).length ∧ Dig u ∧ q.length = (u0 ++ [0]).length - b.length ∧ Dig q ∧ k ≤ (u0 ++ [0]).length - b.length ∧ val u + val v * (pw k * val (q.drop k)) = val a * cH b ∧ val (u.drop k) < val v) (fun (k, u, q) => k) ((u0 ++ [0]).length - b.length, u0 ++ [0], List.replicate ((u0 ++ [0]).length - b.length) 0) wk ⟨rfl, bI.2 ⟨hu0, yN.2 ⟨by decide, gG⟩⟩, by simp, xU _, Nat.le_refl _, by simp [cV, val, hu0v], by have := long_start hu0 hvl hb2 (by omega) hpv; rw [hLU]; exact this⟩ ?_
  rintro ⟨k, u, q⟩ ⟨qZ, hu, hql, hqd, hk, hU, hW⟩
  refine jB<|jB<|kx [(65, (vb (decide (0 ≤ (((k : Nat) : Int) - 1)))))] [] (zM<|zE oGe<|zZ) ?_
  refine jF (b := decide (0 ≤ (((k : Nat) : Int) - 1))) rfl (fun h2 => ?_) (fun h2 => ?_)
  ·replace h2 := uH h2
   obtain ⟨j, rfl⟩ : ∃ j, k = j + 1 := ⟨k - 1, by omega⟩
   rw [show (((j + 1 : Nat) : Int) - 1) = ((j : Nat) : Int) from by omega]
   have hg1 := hu.getD (j + b.length)
   have hg2 := hu.getD (j + b.length - 1)
   have hg3 := hu.getD (j + b.length - 2)
   have hg4 := hvd.getD (b.length - 1)
   have hg5 := hvd.getD (b.length - 2)
   obtain ⟨z1, z2, z3, z4, z5, z6⟩ := window_tops hu hvd hvl hb2 hW
   obtain ⟨hwz, hww⟩ := window hvd hvl hW
   refine jD<|jB<|jG<|jB<|kd [(10, (jN j)), (11, (yS (((u.getD (j + b.length) 0) * 1000000000) + (u.getD ((j + b.length) - 1) 0))))] [] mo (wM<|wM<|wM<|wE (vG (j + b.length))<|wR ⟨(bm jC u), e_clo (t_at u (j + b.length)) (by exact rfl) (by exact rfl) (by exact rfl) (.o (.d .nil)) (uI jC u (fun _ => rfl)) (uG _ _ qZ) (vE _ _ (fun _ => rfl) qZ), by kernel_rfl⟩<|wE (nY yD yF (u.getD (j + b.length) 0))<|wE (oMl ((u.getD (j + b.length) 0) * 1000000000))<|wM<|wM<|wM<|wE (vG (j + b.length))<|wE (oSb ((j + b.length) - 1))<|wE (fJ kM ((j + b.length) - 1))<|wR (oLp qU ((j + b.length) - 1) (0 : Nat))<|wE (nY yD yF (u.getD ((j + b.length) - 1) 0))<|wE (vG (((u.getD (j + b.length) 0) * 1000000000) + (u.getD ((j + b.length) - 1) 0)))<|wM<|wZ) ?_
   refine jB<|kd [(12, (yS ((((u.getD (j + b.length) 0) * 1000000000) + (u.getD ((j + b.length) - 1) 0)) / (v.getD (b.length - 1) 0)))), (13, (yS ((((u.getD (j + b.length) 0) * 1000000000) + (u.getD ((j + b.length) - 1) 0)) % (v.getD (b.length - 1) 0))))] [] mo (wM<|wM<|wM<|wE (oSb (b.length - 1))<|wE (zU kM (b.length - 1) (0 : Nat))<|wE (xI qU)<|wE (nY yD yF (v.getD (b.length - 1) 0))<|wE (oQu ((((u.getD (j + b.length) 0) * 1000000000) + (u.getD ((j + b.length) - 1) 0)) / (v.getD (b.length - 1) 0)))<|wM<|wM<|wM<|wE (oSb (b.length - 1))<|wE (zU kM (b.length - 1) (0 : Nat))<|wE (xI qU)<|wE (nY yD yF (v.getD (b.length - 1) 0))<|wE (oRe ((((u.getD (j + b.length) 0) * 1000000000) + (u.getD ((j + b.length) - 1) 0)) % (v.getD (b.length - 1) 0)))<|wM<|wM<|wZ) ?_
   refine pwp_seqjoin (α := Nat × Nat) (fun (G, R) => ⟨[(4, (.own 1 140 1 ((u0 ++ [0]).length - b.length))), (6, (fE (cH b))), (7, (.own 0 140 1 ((u0 ++ [0]).length))), (8, (vl 140 1 jC v)), (9, (jN b.length)), (10, (jN j)), (12, (yS G))], [(0, some (bm jC u)), (1, some (bm jC q))]⟩) (fun (G, R) => G < 1000000000 ∧ val (u.drop j) / val v ≤ G ∧ G ≤ val (u.drop j) / val v + 1) ?_ ?_
   ·refine kI (α := Nat × Nat) (fun (G, R) => ⟨[(4, (.own 1 140 1 ((u0 ++ [0]).length - b.length))), (6, (fE (cH b))), (7, (.own 0 140 1 ((u0 ++ [0]).length))), (8, (vl 140 1 jC v)), (9, (jN b.length)), (10, (jN j)), (12, (yS G)), (13, (yS R))], [(0, some (bm jC u)), (1, some (bm jC q))]⟩) (fun (G, R) => G * (v.getD (b.length - 1) 0) + R = (u.getD (j + b.length) 0 * 1000000000 + u.getD (j + b.length - 1) 0) ∧ val (u.drop j) / val v ≤ G ∧ R < 1000000000 ∧ G ≤ 1999999999) (fun (G, R) => G) ((u.getD (j + b.length) 0 * 1000000000 + u.getD (j + b.length - 1) 0) / v.getD (b.length - 1) 0, (u.getD (j + b.length) 0 * 1000000000 + u.getD (j + b.length - 1) 0) % v.getD (b.length - 1) 0) wk ⟨by rw [Nat.mul_comm]; exact Nat.div_add_mod _ _, guess_first0 z5 z4 hv1p hg3, Nat.lt_trans (Nat.mod_lt _ hv1p) hg4, guess_top hv1p z1 hg2⟩ ?_
    rintro ⟨G, R⟩ ⟨hG0, hG1, hR, hGb⟩
    have hpq : G * v.getD (b.length - 2) 0 ≤ 1999999999 * 999999999 := Nat.mul_le_mul hGb (by omega)
    refine jB<|jB<|kd [(123, (vb (decide (1000000000 ≤ ((G : Nat) : Int)) || decide (((((R * 1000000000) + (u.getD ((j + b.length) - 2) 0)) : Nat) : Int) < (((G * (v.getD (b.length - 2) 0)) : Nat) : Int)))))] [] mo ?_ ?_
    ·refine wM<|wE oGe<|wE (oV (vb (decide (1000000000 ≤ ((G : Nat) : Int)))) (qH (by kernel_rfl)))<|?_
     rcases hb3 : (decide (1000000000 ≤ ((G : Nat) : Int))) with _ | _
     ·replace hb3 := vB hb3
      exact wM<|wM<|wM<|wE (oSb (b.length - 2))<|wE (zU kM (b.length - 2) (0 : Nat))<|wE (xI qU)<|wE (nY yD yF (v.getD (b.length - 2) 0))<|wE (oMl (G * (v.getD (b.length - 2) 0)))<|wM<|wE (oMl (R * 1000000000))<|wM<|wM<|wM<|wE (vG (j + b.length))<|wE (oSb ((j + b.length) - 2))<|wE (fJ kM ((j + b.length) - 2))<|wR (oLp qU ((j + b.length) - 2) (0 : Nat))<|wE (nY yD yF (u.getD ((j + b.length) - 2) 0))<|wE (vG ((R * 1000000000) + (u.getD ((j + b.length) - 2) 0)))<|wE mO<|wE aO<|wZ
     ·replace hb3 := uH hb3
      exact wK<|wK<|wK<|wK<|wK<|wK<|wK<|wK<|wK<|wK<|wK<|wK<|wK<|wK<|wK<|wK<|wK<|wK<|wK<|wK<|wE hZ<|wZ
    refine jF rfl (fun h4 => ?_) (fun h4 => ?_)
    ·rw [Bool.or_eq_true, decide_eq_true_eq, decide_eq_true_eq] at h4
     have hgl := guess_less (pw_pos _) z5 z4 hG0 hG1 hv1p z2 (by omega)
     refine jD<|jG<|jB<|kx [(12, (yS (G - 1)))] [] (zM<|zE (oSb (G - 1))<|zM<|zZ) ?_
     refine jB<|kx [(13, (yS (R + (v.getD (b.length - 1) 0))))] [] (zM<|zM<|zM<|zE (oSb (b.length - 1))<|zE (zU kM (b.length - 1) (0 : Nat))<|zE (xI qU)<|zE (nY yD yF (v.getD (b.length - 1) 0))<|zE (vG (R + (v.getD (b.length - 1) 0)))<|zM<|zZ) ?_
     refine jB<|kx [(135, (vb (decide (1000000000 ≤ (((R + (v.getD (b.length - 1) 0)) : Nat) : Int)))))] [] (zM<|zE oGe<|zZ) ?_
     refine jF rfl (fun h5 => ?_) (fun h5 => ?_)
     ·replace h5 := uH h5
      refine kC ?_
      refine pjoin_exit (id := 2) (α := Nat × Nat) (Q := fun _ _ => True) (St := fun (G, R) => ⟨[(4, (.own 1 140 1 ((u0 ++ [0]).length - b.length))), (6, (fE (cH b))), (7, (.own 0 140 1 ((u0 ++ [0]).length))), (8, (vl 140 1 jC v)), (9, (jN b.length)), (10, (jN j)), (12, (yS G))], [(0, some (bm jC u)), (1, some (bm jC q))]⟩) (I := fun (G, R) => G < 1000000000 ∧ val (u.drop j) / val v ≤ G ∧ G ≤ val (u.drop j) / val v + 1) ?_
      exact ⟨(G - 1, R + v.getD (b.length - 1) 0), wk, (by have hd := guess_dec hgl.2 hG0; have hgb := guess_break hd z1 hg2 (by omega); exact ⟨hgb, hgl.1, guess_near z6 z3 hd hv1p (by omega) hgb (Nat.le_trans (Nat.mul_le_mul (show G - 1 ≤ 999999999 by omega) (show v.getD (b.length - 2) 0 ≤ 999999999 by omega)) (by omega))⟩)⟩
     ·replace h5 := vB h5
      refine jD ?_
      exact ⟨(G - 1, R + v.getD (b.length - 1) 0), wk, (by exact ⟨guess_dec hgl.2 hG0, hgl.1, by omega, by omega⟩), (by first|omega|(dsimp only;omega))⟩
    ·refine kC ?_
     refine pjoin_exit (id := 2) (α := Nat × Nat) (Q := fun _ _ => True) (St := fun (G, R) => ⟨[(4, (.own 1 140 1 ((u0 ++ [0]).length - b.length))), (6, (fE (cH b))), (7, (.own 0 140 1 ((u0 ++ [0]).length))), (8, (vl 140 1 jC v)), (9, (jN b.length)), (10, (jN j)), (12, (yS G))], [(0, some (bm jC u)), (1, some (bm jC q))]⟩) (I := fun (G, R) => G < 1000000000 ∧ val (u.drop j) / val v ≤ G ∧ G ≤ val (u.drop j) / val v + 1) ?_
     exact ⟨(G, R), wk, (by rw [Bool.or_eq_false_iff, decide_eq_false_iff_not, decide_eq_false_iff_not] at h4; exact ⟨by omega, hG1, guess_near z6 z3 hG0 hv1p (by omega) (by omega) (by omega)⟩)⟩
   ·rintro ⟨G, R⟩ ⟨hG, hG1, hG2⟩
    have hjn : j + b.length < (u0 ++ [0]).length := by omega
    refine jB<|kx [(14, (jN 0)), (15, (yS 0))] [] (zM<|zM<|zZ) ?_
    refine jB<|jB<|kx [(136, (jN b.length)), (137, (jN 0))] [] (zM<|zM<|zZ) ?_
    refine jG<|kI (α := Nat × List Nat × Nat × Nat) (fun (i, u2, bo, ca) => ⟨[(4, (.own 1 140 1 ((u0 ++ [0]).length - b.length))), (6, (fE (cH b))), (7, (.own 0 140 1 ((u0 ++ [0]).length))), (8, (vl 140 1 jC v)), (9, (jN b.length)), (10, (jN j)), (12, (yS G)), (14, (vi ((bo : Nat) : Int))), (15, (yS ca)), (136, (jN b.length)), (137, (jN i))], [(0, some (bm jC u2)), (1, some (bm jC q))]⟩) (fun (i, u2, bo, ca) => u2.length = (u0 ++ [0]).length ∧ Dig u2 ∧ u2.take j = u.take j ∧ u2.drop (j + i) = u.drop (j + i) ∧ i ≤ b.length ∧ bo ≤ 1 ∧ ca < 1000000000 ∧ val ((u2.drop j).take i) + G * val (v.take i) = val ((u.drop j).take i) + pw i * (ca + bo)) (fun (i, u2, bo, ca) => b.length - i) (0, u, 0, 0) wk ⟨qZ, hu, rfl, rfl, Nat.zero_le _, Nat.zero_le _, by decide, by simp [val]⟩ ?_
    rintro ⟨i, u2, bo, ca⟩ ⟨hl2, hd2, ht2, hd2', hin, hbo, hca, hv2⟩
    have hgi := hvd.getD i
    have hgu := hd2.getD (i + j)
    have hpq : G * v.getD i 0 ≤ 999999999 * 999999999 := Nat.mul_le_mul (by omega) (by omega)
    refine jB<|kx [(138, (vb (decide (((i : Nat) : Int) < ((b.length : Nat) : Int)))))] [] (zE vZ<|zZ) ?_
    refine jB<|jF rfl (fun h6 => ?_) (fun h6 => ?_)
    ·replace h6 := uH h6
     have hi : i < b.length := by omega
     refine jD<|jB<|jG<|jB<|kx [(16, (jN i))] [] (zM<|zM<|zZ) ?_
     refine jB<|kx [(17, (yS ((G * (v.getD i 0)) + ca)))] [] (zM<|zM<|zM<|zE (zU kM i (0 : Nat))<|zE (xI qU)<|zE (nY yD yF (v.getD i 0))<|zE (oMl (G * (v.getD i 0)))<|zM<|zE (vG ((G * (v.getD i 0)) + ca))<|zM<|zZ) ?_
     refine jB<|kx [(15, (yS (((G * (v.getD i 0)) + ca) / 1000000000)))] [] (zM<|zE (oQu (((G * (v.getD i 0)) + ca) / 1000000000))<|zM<|zZ) ?_
     refine jB<|kx [(18, (vi (((((u2.getD (i + j) 0) : Nat) : Int) - ((bo : Nat) : Int)) - (((((G * (v.getD i 0)) + ca) % 1000000000) : Nat) : Int))))] [] (zM<|zM<|zM<|zE (vG (i + j))<|zE (fJ kM (i + j))<|zR (oLp qU (i + j) (0 : Nat))<|zE (nY yD in2 (u2.getD (i + j) 0))<|zM<|zE (zSb ((((u2.getD (i + j) 0) : Nat) : Int) - ((bo : Nat) : Int)))<|zM<|zE (oRe (((G * (v.getD i 0)) + ca) % 1000000000))<|zE (nY gP in2 (((G * (v.getD i 0)) + ca) % 1000000000))<|zE (zSb (((((u2.getD (i + j) 0) : Nat) : Int) - ((bo : Nat) : Int)) - (((((G * (v.getD i 0)) + ca) % 1000000000) : Nat) : Int)))<|zM<|zZ) ?_
     refine jB<|kx [(14, (jN 0))] [] (zM<|zZ) ?_
     refine jB<|jB<|kx [(165, (vb (decide ((((((u2.getD (i + j) 0) : Nat) : Int) - ((bo : Nat) : Int)) - (((((G * (v.getD i 0)) + ca) % 1000000000) : Nat) : Int)) < 0))))] [] (zM<|zE vZ<|zZ) ?_
     refine jF rfl (fun h7 => ?_) (fun h7 => ?_)
     ·replace h7 := uH h7
      refine kx [(14, (jN 1)), (18, (vi ((((((u2.getD (i + j) 0) : Nat) : Int) - ((bo : Nat) : Int)) - (((((G * (v.getD i 0)) + ca) % 1000000000) : Nat) : Int)) + 1000000000)))] [] (zM<|zE (zAd ((((((u2.getD (i + j) 0) : Nat) : Int) - ((bo : Nat) : Int)) - (((((G * (v.getD i 0)) + ca) % 1000000000) : Nat) : Int)) + 1000000000))<|zM<|zM<|zZ) ?_
      refine kx [] [(0, some (bm jC (u2.set (i + j) ((u2.getD (i + j) 0 + 1000000000) - bo - (G * v.getD i 0 + ca) % 1000000000))))] (zM<|zM<|zM<|zE (vG (i + j))<|zM<|zE (nY un2 gE ((u2.getD (i + j) 0 + 1000000000) - bo - (G * v.getD i 0 + ca) % 1000000000) (hr := by exact (wu32 (by omega) (by omega) (by omega))))<|zE (fJ kM (i + j))<|zT (oSp qU (i + j) ((u2.getD (i + j) 0 + 1000000000) - bo - (G * v.getD i 0 + ca) % 1000000000))<|zZ) ?_
      refine kx [(137, (jN (i + 1)))] [] (zE (vG (i + 1))<|zM<|zZ) ?_
      exact ⟨(i + 1, u2.set (i + j) ((u2.getD (i + j) 0 + 1000000000) - bo - (G * v.getD i 0 + ca) % 1000000000), 1, (G * v.getD i 0 + ca) / 1000000000), wk, (by obtain ⟨q1, q2, q3, q4, q5⟩ := msub_step (v := v) (L := (u0 ++ [0]).length) (e := (u2.getD (i + j) 0 + 1000000000) - bo - (G * v.getD i 0 + ca) % 1000000000) (borrow' := 1) hjn hi hl2 qZ hd2 ht2 hd2' hv2 rfl (by omega) (by omega); exact ⟨q1, q2, q3, q4, by omega, by omega, by omega, q5⟩), (by first|omega|(dsimp only;omega))⟩
     ·replace h7 := vB h7
      refine jD<|kx [] [(0, some (bm jC (u2.set (i + j) (u2.getD (i + j) 0 - bo - (G * v.getD i 0 + ca) % 1000000000))))] (zM<|zM<|zM<|zE (vG (i + j))<|zM<|zE (nY un2 gE (u2.getD (i + j) 0 - bo - (G * v.getD i 0 + ca) % 1000000000) (hr := by exact (wu32 (by omega) (by omega) (by omega))))<|zE (fJ kM (i + j))<|zT (oSp qU (i + j) (u2.getD (i + j) 0 - bo - (G * v.getD i 0 + ca) % 1000000000))<|zZ) ?_
      refine kx [(137, (jN (i + 1)))] [] (zE (vG (i + 1))<|zM<|zZ) ?_
      exact ⟨(i + 1, u2.set (i + j) (u2.getD (i + j) 0 - bo - (G * v.getD i 0 + ca) % 1000000000), 0, (G * v.getD i 0 + ca) / 1000000000), wk, (by obtain ⟨q1, q2, q3, q4, q5⟩ := msub_step (v := v) (L := (u0 ++ [0]).length) (e := u2.getD (i + j) 0 - bo - (G * v.getD i 0 + ca) % 1000000000) (borrow' := 0) hjn hi hl2 qZ hd2 ht2 hd2' hv2 rfl (by omega) (by omega); exact ⟨q1, q2, q3, q4, by omega, by omega, by omega, q5⟩), (by first|omega|(dsimp only;omega))⟩
    ·replace h6 := vB h6
     have hie : i = b.length := by omega
     rw [hie] at hd2' hv2 hin
     obtain ⟨m1, m2, m3⟩ := msub_end hu hd2 hvd hvl hW hG1 hG2 hd2' hv2
     refine kC<|jB<|kx [(19, (vi (((((u2.getD (j + b.length) 0) : Nat) : Int) - ((bo : Nat) : Int)) - ((ca : Nat) : Int))))] [] (zM<|zM<|zM<|zE (vG (j + b.length))<|zE (fJ kM (j + b.length))<|zR (oLp qU (j + b.length) (0 : Nat))<|zE (nY yD in2 (u2.getD (j + b.length) 0))<|zM<|zE (zSb ((((u2.getD (j + b.length) 0) : Nat) : Int) - ((bo : Nat) : Int)))<|zM<|zE (nY gP in2 ca)<|zE (zSb (((((u2.getD (j + b.length) 0) : Nat) : Int) - ((bo : Nat) : Int)) - ((ca : Nat) : Int)))<|zM<|zZ) ?_
     refine jB<|jB<|kx [(189, (vb (decide ((((((u2.getD (j + b.length) 0) : Nat) : Int) - ((bo : Nat) : Int)) - ((ca : Nat) : Int)) < 0))))] [] (zM<|zE vZ<|zZ) ?_
     refine jF rfl (fun h8 => ?_) (fun h8 => ?_)
     ·replace h8 := uH h8
      obtain ⟨n1, n2, r, n3, n4, n5⟩ := m2 (by omega)
      refine jB<|kx [] [(0, some (bm jC (u2.set (j + b.length) 999999999)))] (zM<|zM<|zM<|zE (vG (j + b.length))<|zM<|zE (zAd ((((((u2.getD (j + b.length) 0) : Nat) : Int) - ((bo : Nat) : Int)) - ((ca : Nat) : Int)) + 1000000000))<|zE (nY un2 gE 999999999 (hr := by exact (wu32 (by omega) (by omega) (by omega))))<|zE (fJ kM (j + b.length))<|zT (oSp qU (j + b.length) 999999999)<|zZ) ?_
      refine jB<|kx [(12, (yS (G - 1)))] [] (zM<|zE (oSb (G - 1))<|zM<|zZ) ?_
      refine jB<|kx [(20, (fE 0))] [] (zM<|zZ) ?_
      refine jB<|jB<|kx [(200, (jN b.length)), (201, (jN 0))] [] (zM<|zM<|zZ) ?_
      refine jG<|kI (α := Nat × List Nat × Nat) (fun (i, u3, c) => ⟨[(4, (.own 1 140 1 ((u0 ++ [0]).length - b.length))), (6, (fE (cH b))), (7, (.own 0 140 1 ((u0 ++ [0]).length))), (8, (vl 140 1 jC v)), (9, (jN b.length)), (10, (jN j)), (12, (yS (G - 1))), (20, (fE c)), (200, (jN b.length)), (201, (jN i))], [(0, some (bm jC u3)), (1, some (bm jC q))]⟩) (fun (i, u3, c) => u3.length = (u0 ++ [0]).length ∧ Dig u3 ∧ u3.take j = (u2.set (j + b.length) 999999999).take j ∧ u3.drop (j + i) = (u2.set (j + b.length) 999999999).drop (j + i) ∧ i ≤ b.length ∧ c ≤ 1 ∧ val ((u3.drop j).take i) + pw i * c = val (((u2.set (j + b.length) 999999999).drop j).take i) + val (v.take i)) (fun (i, u3, c) => b.length - i) (0, u2.set (j + b.length) 999999999, 0) wk ⟨by simpa using hl2, hd2.set _ (by decide), rfl, rfl, Nat.zero_le _, Nat.zero_le _, by simp [val]⟩ ?_
      rintro ⟨i, u3, c⟩ ⟨hl3, hd3, ht3, hd3', hin, hc, hv3⟩
      have hgi := hvd.getD i
      have hgu := hd3.getD (i + j)
      have hgt := hd3.getD (j + b.length)
      refine jB<|kx [(202, (vb (decide (((i : Nat) : Int) < ((b.length : Nat) : Int)))))] [] (zE vZ<|zZ) ?_
      refine jB<|jF rfl (fun h9 => ?_) (fun h9 => ?_)
      ·replace h9 := uH h9
       have hi : i < b.length := by omega
       refine jD<|jB<|jG<|jB<|kx [(21, (jN i))] [] (zM<|zM<|zZ) ?_
       refine jB<|kd [(22, (fE (((u3.getD (i + j) 0) + (v.getD i 0)) + c)))] [] mo (wM<|wM<|wM<|wE (vG (i + j))<|wE (fJ kM (i + j))<|wR (oLp qU (i + j) (0 : Nat))<|wM<|wM<|wE (zU kM i (0 : Nat))<|wE (xI qU)<|wE (vG ((u3.getD (i + j) 0) + (v.getD i 0)))<|wM<|wE (vG (((u3.getD (i + j) 0) + (v.getD i 0)) + c))<|wM<|wZ) ?_
       refine jB<|kx [(20, (fE 0))] [] (zM<|zZ) ?_
       refine jB<|jB<|kx [(218, (vb (decide (1000000000 ≤ (((((u3.getD (i + j) 0) + (v.getD i 0)) + c) : Nat) : Int)))))] [] (zM<|zE oGe<|zZ) ?_
       refine jF rfl (fun h10 => ?_) (fun h10 => ?_)
       ·replace h10 := uH h10
        refine kx [(20, (fE 1)), (22, (fE ((((u3.getD (i + j) 0) + (v.getD i 0)) + c) - 1000000000)))] [] (zM<|zE (oSb ((((u3.getD (i + j) 0) + (v.getD i 0)) + c) - 1000000000))<|zM<|zM<|zZ) ?_
        refine kx [] [(0, some (bm jC (u3.set (i + j) ((((u3.getD (i + j) 0) + (v.getD i 0)) + c) - 1000000000))))] (zM<|zM<|zM<|zE (vG (i + j))<|zM<|zE (fJ kM (i + j))<|zT (oSp qU (i + j) ((((u3.getD (i + j) 0) + (v.getD i 0)) + c) - 1000000000))<|zZ) ?_
        refine kx [(201, (jN (i + 1)))] [] (zE (vG (i + 1))<|zM<|zZ) ?_
        exact ⟨(i + 1, u3.set (i + j) (u3.getD (i + j) 0 + v.getD i 0 + c - 1000000000), 1), wk, (by obtain ⟨q1, q2, q3, q4, q5⟩ := addb_step (v := v) (L := (u0 ++ [0]).length) (s := u3.getD (i + j) 0 + v.getD i 0 + c) (e := u3.getD (i + j) 0 + v.getD i 0 + c - 1000000000) (c' := 1) hjn hi hl3 (by simpa using hl2) hd3 ht3 hd3' hv3 rfl (by omega) (by omega); exact ⟨q1, q2, q3, q4, by omega, by omega, q5⟩), (by first|omega|(dsimp only;omega))⟩
       ·replace h10 := vB h10
        refine jD<|kx [] [(0, some (bm jC (u3.set (i + j) (((u3.getD (i + j) 0) + (v.getD i 0)) + c))))] (zM<|zM<|zM<|zE (vG (i + j))<|zM<|zE (fJ kM (i + j))<|zT (oSp qU (i + j) (((u3.getD (i + j) 0) + (v.getD i 0)) + c))<|zZ) ?_
        refine kx [(201, (jN (i + 1)))] [] (zE (vG (i + 1))<|zM<|zZ) ?_
        exact ⟨(i + 1, u3.set (i + j) (u3.getD (i + j) 0 + v.getD i 0 + c), 0), wk, (by obtain ⟨q1, q2, q3, q4, q5⟩ := addb_step (v := v) (L := (u0 ++ [0]).length) (s := u3.getD (i + j) 0 + v.getD i 0 + c) (e := u3.getD (i + j) 0 + v.getD i 0 + c) (c' := 0) hjn hi hl3 (by simpa using hl2) hd3 ht3 hd3' hv3 rfl (by omega) (by omega); exact ⟨q1, q2, q3, q4, by omega, by omega, q5⟩), (by first|omega|(dsimp only;omega))⟩
      ·replace h9 := vB h9
       have hie2 : i = b.length := by omega
       rw [hie2] at hd3' hv3 hin
       refine kC<|kx [] [(0, some (bm jC (u3.set (j + b.length) (((u3.getD (j + b.length) 0) + c) % 1000000000))))] (zM<|zM<|zM<|zE (vG (j + b.length))<|zM<|zM<|zM<|zE (vG (j + b.length))<|zE (fJ kM (j + b.length))<|zR (oLp qU (j + b.length) (0 : Nat))<|zM<|zE (vG ((u3.getD (j + b.length) 0) + c))<|zE (oRe (((u3.getD (j + b.length) 0) + c) % 1000000000))<|zE (fJ kM (j + b.length))<|zT (oSp qU (j + b.length) (((u3.getD (j + b.length) 0) + c) % 1000000000))<|zZ) ?_
       refine kx [] [(1, some (bm jC (q.set j (G - 1))))] (zM<|zM<|zM<|zE (nY gP gE (G - 1))<|zE (fJ kM j)<|zT (oSp qU j (G - 1))<|zZ) ?_
       refine kx [(10, (vi (((j : Nat) : Int) - 1)))] [] (zM<|zE (zSb (((j : Nat) : Int) - 1))<|zM<|zZ) ?_
       exact ⟨(j, u3.set (j + b.length) ((u3.getD (j + b.length) 0 + c) % 1000000000), q.set j (G - 1)), wk, (by obtain ⟨p1, p2⟩ := neg_end hd3 hvd hvl (by omega) (by omega) (hl2.trans qZ.symm) (hl3.trans qZ.symm) ht2 hd2' hW hc ht3 hd3' hv3 n3 n4 n5 hU; exact ⟨by simpa using hl3, hd3.set _ (Nat.mod_lt _ (by decide)), by simpa using hql, hqd.set _ (by omega), by omega, p1, p2⟩), (by first|omega|(dsimp only;omega))⟩
     ·replace h8 := vB h8
      obtain ⟨n1, n2, n3⟩ := m3 (by omega)
      refine kx [] [(0, some (bm jC (u2.set (j + b.length) 0)))] (zM<|zM<|zM<|zE (vG (j + b.length))<|zM<|zE (nY un2 gE 0 (hr := by exact (wu32 (by omega) (by omega) (by omega))))<|zE (fJ kM (j + b.length))<|zT (oSp qU (j + b.length) 0)<|zZ) ?_
      refine kx [] [(1, some (bm jC (q.set j G)))] (zM<|zM<|zM<|zE (nY gP gE G)<|zE (fJ kM j)<|zT (oSp qU j G)<|zZ) ?_
      refine kx [(10, (vi (((j : Nat) : Int) - 1)))] [] (zM<|zE (zSb (((j : Nat) : Int) - 1))<|zM<|zZ) ?_
      exact ⟨(j, u2.set (j + b.length) 0, q.set j G), wk, (by obtain ⟨p1, p2⟩ := pos_end hu hvd hvl (by omega) (by omega) (hl2.trans qZ.symm) ht2 hd2' hW n2 n3 hU; exact ⟨by simpa using hl2, hd2.set _ (by decide), by simpa using hql, hqd.set _ (by omega), by omega, p1, p2⟩), (by first|omega|(dsimp only;omega))⟩
  ·replace h2 := vB h2
   obtain rfl : k = 0 := by omega
   obtain ⟨e1, e2⟩ := scl_div hdb (by omega) (by rw [hvv] at hU; exact hU) (by rw [hvv] at hW; exact hW)
   rw [List.drop_zero] at hW
   refine kC<|jB<|kH (vK (t := 7) (k := 0) (es := List.map jC u) rfl rfl (uI _ _ (fun _ => rfl)) (uG _ _ qZ) (vE _ _ (fun _ => rfl) qZ)) ?_
   refine kx [(5, (vl 140 1 jC (ofNat (val (ofNat (val (List.take b.length u))) / (cH b)))))] [] (zM<|zM<|zE (e_slc (l := 0) (h := b.length) (kl := .i64) (kh := .i64) (es' := List.map jC (List.take b.length u)) (by exact rfl) kM (by exact rfl) (by exact rfl) (by exact rfl) (Nat.zero_le _) (by simp only [List.length_map]; omega) (by rw [List.drop_zero, List.map_take]))<|zE (jZ (t_trim (List.take b.length u) (hu.take _) (by rw [List.length_take]; omega)))<|zM<|zE (jZ (t_short (ofNat (val (List.take b.length u))) (cH b) (kL _) (by omega) (by omega) (Nat.le_trans (ofNat_val_len (hu.take _)) (by rw [List.length_take]; omega))))<|zM<|zE vP<|zE vP<|zM<|zZ) ?_
   refine jB<|kH (vK (t := 4) (k := 1) (es := List.map jC q) rfl rfl (uI _ _ (fun _ => rfl)) (uG _ _ hql) (vE _ _ (fun _ => rfl) hql)) ?_
   refine kx [(4, (vl 140 1 jC (ofNat (val q)))), (5, (vl 140 1 jC (ofNat (val (ofNat (val (List.take b.length u))) / (cH b)))))] [] (zM<|zE (jZ (t_trim q hqd (by omega)))<|zM<|zM<|zM<|zZ) ?_
   refine jE ⟨_, (.tmp (d := (.sl 140 1 (List.map jC (ofNat (val q))))) rfl (.tmp (d := (.sl 140 1 (List.map jC (ofNat (val (ofNat (val (List.take b.length u))) / (cH b)))))) rfl .nil)), ?_⟩
   rw [← e1, ← e2, kB, val_take_of_lt (Nat.lt_trans hW (by rw [← hvl]; exact vQ hvd))]; rfl
theorem cb138 : callB Tryz.prog 138 = true := by kernel_rfl
theorem cb222 : callB Tryz.prog 222 = true := by kernel_rfl
theorem cb227 : callB Tryz.prog 227 = true := by kernel_rfl
theorem t_over (a b : List Nat) (ha : xX a) (hb : xX b) (hb0 : 0 < val b) (hla : a.length ≤ 1099511627776) (hlb : b.length ≤ 1099511627776) : jT Tryz.prog 222 [(.sl 140 1 (List.map jC a)), (.sl 140 1 (List.map jC b))] (.tup [(.sl 140 1 (List.map jC (ofNat (val a / val b)))), (.sl 140 1 (List.map jC (ofNat (val a % val b))))]) := by
 refine jJ Tryz.func222 rfl cb222 rfl ?_
 show qR _ _ _ _ ⟨[(0, (vl 140 1 jC a)), (1, (vl 140 1 jC b))], []⟩
 refine jB<|kx [] [] (zE (mP 140 1)<|zE (mP 140 1)<|zZ) ?_
 refine jB<|jB<|kx [(15, (vb (decide ((uX ((val a : Nat) : Int) ((val b : Nat) : Int)) < 0))))] [] (zM<|zM<|zE (jZ (t_compare a b ha hb (by omega)))<|zE vZ<|zZ) ?_
 refine jF rfl (fun h1 => ?_) (fun h1 => ?_)
 ·replace h1 := uH h1
  refine jB<|kx [(4, (vl 140 1 jC [])), (5, (vl 140 1 jC a))] [] (zM<|zE (mP 140 1)<|zM<|zZ) ?_
  refine jE ⟨_, (.tmp (d := (.sl 140 1 (List.map jC []))) rfl (.tmp (d := (.sl 140 1 (List.map jC a))) rfl .nil)), ?_⟩
  have hlt := cmpI_neg h1
  rw [Nat.div_eq_of_lt hlt, Nat.mod_eq_of_lt hlt, uF, ← can_eq ha]; rfl
 ·replace h1 := vB h1
  refine jD<|jB<|kx [(6, (yS (yH a))), (7, (vb (nQ a)))] [] (zM<|zE (jZ (t_word a ha.1))<|zM<|zE vP<|zE vP<|zM<|zM<|zZ) ?_
  refine jB<|kx [(8, (yS (yH b))), (9, (vb (nQ b)))] [] (zM<|zE (jZ (t_word b hb.1))<|zM<|zE vP<|zE vP<|zM<|zM<|zZ) ?_
  refine jB<|jB<|kx [(30, (vb ((nQ a) && (nQ b))))] [] ?_ ?_
  ·refine zM<|zE (oV (vb (nQ a)) (qH (by kernel_rfl)))<|?_
   rcases hb2 : (nQ a) with _ | _
   ·exact zK<|zE yM<|zZ
   ·exact zM<|zE aJ<|zZ
  refine jF (b := ((nQ a) && (nQ b))) rfl (fun h3 => ?_) (fun h3 => ?_)
  ·obtain ⟨w1, w2, w3⟩ := word_both ha.1 h3
   have w4 : yH a / yH b < 18446744073709551616 := Nat.lt_of_le_of_lt (Nat.div_le_self _ _) (by omega)
   have w5 : yH a % yH b < 18446744073709551616 := Nat.lt_of_le_of_lt (Nat.mod_le _ _) (by omega)
   refine jB<|kd [(4, (vl 140 1 jC (ofNat ((yH a) / (yH b))))), (5, (vl 140 1 jC (ofNat ((yH a) % (yH b)))))] [] mo (wM<|wM<|wE (oQu ((yH a) / (yH b)))<|wE (jZ (t_split ((yH a) / (yH b)) (by omega)))<|wM<|wM<|wE (oRe ((yH a) % (yH b)))<|wE (jZ (t_split ((yH a) % (yH b)) (by omega)))<|wM<|wM<|wZ) ?_
   refine jE ⟨_, (.tmp (d := (.sl 140 1 (List.map jC (ofNat ((yH a) / (yH b)))))) rfl (.tmp (d := (.sl 140 1 (List.map jC (ofNat ((yH a) % (yH b)))))) rfl .nil)), ?_⟩
   rw [w1, w2]; rfl
  ·refine jD<|jB<|jB<|kx [(41, (vb (((b.length : Nat) : Int) == 1)))] [] (zM<|zE (vX kM)<|zE gA<|zZ) ?_
   refine jF (b := (((b.length : Nat) : Int) == 1)) rfl (fun h4 => ?_) (fun h4 => ?_)
   ·replace h4 := eq_of_beq h4
    have hv1 := val_len1 (b := b) (by omega)
    have hg := hb.1.getD 0
    have w5 : val a % b.getD 0 0 < 4294967296 := Nat.lt_trans (Nat.mod_lt _ (by omega)) (by omega)
    refine jB<|kx [(10, (vl 140 1 jC (ofNat (val a / (b.getD 0 0))))), (11, (fE (val a % (b.getD 0 0))))] [] (zM<|zM<|zE (zU kM 0 (0 : Nat))<|zE (xI qU)<|zE (jZ (t_short a (b.getD 0 0) ha.1 (by omega) (by omega) (by omega)))<|zM<|zE vP<|zE vP<|zM<|zM<|zZ) ?_
    refine jB<|kx [(4, (vl 140 1 jC (ofNat (val a / (b.getD 0 0))))), (5, (vl 140 1 jC (ofNat (val a % (b.getD 0 0)))))] [] (zM<|zM<|zE (nY yD yF (val a % (b.getD 0 0)))<|zE (jZ (t_split (val a % (b.getD 0 0)) (by omega)))<|zM<|zM<|zZ) ?_
    refine jE ⟨_, (.tmp (d := (.sl 140 1 (List.map jC (ofNat (val a / (b.getD 0 0)))))) rfl (.tmp (d := (.sl 140 1 (List.map jC (ofNat (val a % (b.getD 0 0)))))) rfl .nil)), ?_⟩
    rw [hv1]; rfl
   ·replace h4 := ne_of_beq_false h4
    have hbl := val_pos_len hb0
    refine jD<|jB<|kx [(4, (vl 140 1 jC (ofNat (val a / val b)))), (5, (vl 140 1 jC (ofNat (val a % val b))))] [] (zM<|zM<|zE (jZ (t_long a b ha hb (by omega) (cmpI_nn h1) (by omega)))<|zE vP<|zE vP<|zM<|zM<|zZ) ?_
    refine jE ⟨_, (.tmp (d := (.sl 140 1 (List.map jC (ofNat (val a / val b))))) rfl (.tmp (d := (.sl 140 1 (List.map jC (ofNat (val a % val b))))) rfl .nil)), ?_⟩
    rfl
theorem t_divideI (x y : kS) (hx : x.gs.length ≤ 1099511627776) (hy : y.gs.length ≤ 1099511627776) (hy0 : jW y ≠ 0) : jT Tryz.prog 227 [(jK x), (jK y)] (.tup [(jK (kJ ((jW x).fdiv (jW y)))), (jK (kJ ((jW x).fmod (jW y)))), (.val (.int .i64 (0)))]) := by
 have hgx := qK x
 have hlx := yX x
 have hgy := qK y
 have hly := yX y
 have hn : 0 < val (kO y) := by have := bV y; omega
 have hq := len_quo (kO x) hgx (val (kO y))
 have hr := len_rem (kO x) hgx (val (kO y))
 have hrn := Nat.mod_lt (val (kO x)) hn
 refine jJ Tryz.func227 rfl cb227 rfl ?_
 show qR _ _ _ _ ⟨[(0, (.d (jK x))), (1, (.d (jK y)))], []⟩
 refine jB<|kx [(2, (.ref 0 0)), (3, (.ref 1 0)), (4, (.ref 2 0)), (5, (.ref 3 0))] [(0, some (bx (jK x))), (1, some (bx (jK y))), (2, some (bx (jK (kS.mk false [])))), (3, some (bx (jK (kS.mk false []))))] (zN (xA 0)<|zN (xA 1)<|zN (uU 2 zL zP)<|zN (uU 3 zL zP)<|zM<|zZ) ?_
 refine jB<|kd [(7, (vl 140 1 jC (kO x))), (8, (vl 140 1 jC (kO y)))] [] mo (wR (kP jV)<|wE (jZ (yZ x (by omega)))<|wR (kP jV)<|wE (jZ (yZ y (by omega)))<|wM<|wM<|wZ) ?_
 refine jB<|jB<|kx [(17, (vb ((((kO y).length : Nat) : Int) == 0)))] [] (zM<|zE (vX kM (L := (kO y)))<|zE gA<|zZ) ?_
 refine jF (b := ((((kO y).length : Nat) : Int) == 0)) rfl (fun h1 => ?_) (fun h1 => ?_)
 ·replace h1 := eq_of_beq h1
  exact absurd (toZ_nil h1) hy0
 ·replace h1 := ne_of_beq_false h1
  refine jD<|jB<|kx [(9, (vl 140 1 jC (ofNat (val (kO x) / val (kO y))))), (10, (vl 140 1 jC (ofNat (val (kO x) % val (kO y)))))] [] (zM<|zM<|zE (jZ (t_over (kO x) (kO y) hgx hgy (by omega) (by omega) (by omega)))<|zM<|zE vP<|zE vP<|zM<|zM<|zZ) ?_
  refine jB<|kx [(10, (vl 140 1 jC (ofNat (val (kO x) % val (kO y)))))] [] (zM<|zE (jZ (t_clone (ofNat (val (kO x) % val (kO y))) (by omega)))<|zM<|zZ) ?_
  refine jB<|jB<|kx [(37, (vb (decide (0 < (((ofNat (val (kO x) % val (kO y))).length : Nat) : Int)) && !(x.neg == y.neg))))] [] ?_ ?_
  ·refine zM<|zE (vX kM (L := (ofNat (val (kO x) % val (kO y)))))<|zE mO<|zE (oV (vb (decide (0 < (((ofNat (val (kO x) % val (kO y))).length : Nat) : Int)))) (qH (by kernel_rfl)))<|?_
   rcases hb2 : (decide (0 < (((ofNat (val (kO x) % val (kO y))).length : Nat) : Int))) with _ | _
   ·replace hb2 := vB hb2
    exact zK<|zK<|zK<|zK<|zK<|zE yM<|zZ
   ·replace hb2 := uH hb2
    exact zE (qD vJ)<|zR (uL sh4)<|zE (qD vJ)<|zR (uL sh4)<|zE (oNb bo4)<|zE aJ<|zZ
  refine jF rfl (fun h3 => ?_) (fun h3 => ?_)
  ·have e1 : (ofNat (val (ofNat (val (kO x) / val (kO y))) + val [1])).length ≤ 1099511627777 := qY (by rw [kB, mR]; have := fY (val (kO x) / val (kO y)); have h3 : pw (ofNat (val (kO x) / val (kO y))).length ≤ pw 1099511627776 := yY (by omega); have h4 := pw_lt (show 1099511627776 < 1099511627777 by decide); omega)
   have e2 := sub_len (b := ofNat (val (kO x) % val (kO y))) hgy.1
   rw [Bool.and_eq_true, decide_eq_true_eq, Bool.not_eq_true', beq_eq_false_iff_ne] at h3
   obtain ⟨k1, k2⟩ := h3
   have k3 : 0 < val (kO x) % val (kO y) := by have := mN (kY (val (kO x) % val (kO y))) (by omega); rwa [kB] at this
   obtain ⟨d1, d2⟩ := div_other hn k2 k3
   refine kx [(9, (vl 140 1 jC (ofNat (val (ofNat (val (kO x) / val (kO y))) + val [1])))), (10, (vl 140 1 jC (ofNat (val (kO y) - val (ofNat (val (kO x) % val (kO y)))))))] [] (zM<|zE (gN kM vL xZ)<|zE (jZ (t_plus (ofNat (val (kO x) / val (kO y))) [1] (kL _) (yN.2 ⟨by decide, gG⟩) (by omega) (by decide)))<|zM<|zM<|zE (jZ (t_minus (kO y) (ofNat (val (kO x) % val (kO y))) hgy.1 (kL _) (by rw [kB]; omega) (by omega)))<|zM<|zM<|zZ) ?_
   refine jB<|kd [(6, (jN 0))] [(2, some (bx (jK (vW (!(x.neg == y.neg)) (val (ofNat (val (ofNat (val (kO x) / val (kO y))) + val [1]))))))), (3, some (bx (jK (vW y.neg (val (ofNat (val (kO y) - val (ofNat (val (kO x) % val (kO y))))))))))] mo (wE (qD vJ)<|wR (uL sh4)<|wE (qD vJ)<|wR (uL sh4)<|wE (oNb bo4)<|wM<|wE (jZ (nU (!(x.neg == y.neg)) (ofNat (val (ofNat (val (kO x) / val (kO y))) + val [1])) (kL _) (by omega)))<|wE (qD vJ)<|wR (uL sh4)<|wM<|wE (jZ (nU y.neg (ofNat (val (kO y) - val (ofNat (val (kO x) % val (kO y))))) (kL _) (by omega)))<|wT (qM jV)<|wT (qM jV)<|wM<|wZ) ?_
   refine jE ⟨_, (kU (cs := (bx (jK (vW (!(x.neg == y.neg)) (val (ofNat (val (ofNat (val (kO x) / val (kO y))) + val [1]))))))) (d := (jK (vW (!(x.neg == y.neg)) (val (ofNat (val (ofNat (val (kO x) / val (kO y))) + val [1])))))) rfl rfl jV rfl rfl (kU (cs := (bx (jK (vW y.neg (val (ofNat (val (kO y) - val (ofNat (val (kO x) % val (kO y)))))))))) (d := (jK (vW y.neg (val (ofNat (val (kO y) - val (ofNat (val (kO x) % val (kO y))))))))) rfl rfl jV rfl rfl (.tmp (d := (.val (.int .i64 (0)))) rfl .nil))), ?_⟩
   unfold jW
   rw [d1, d2]
   simp only [kB, mR]
   rfl
  ·obtain ⟨d1, d2⟩ := div_same (b := x.neg) (c := y.neg) (m := val (kO x)) hn (by rw [Bool.and_eq_false_iff, decide_eq_false_iff_not, Bool.not_eq_false', beq_iff_eq] at h3; rcases h3 with k | k; right; have := dE (n := val (kO x) % val (kO y)); omega; exact .inl k)
   refine jD<|jB<|kd [(6, (jN 0))] [(2, some (bx (jK (vW (!(x.neg == y.neg)) (val (ofNat (val (kO x) / val (kO y)))))))), (3, some (bx (jK (vW y.neg (val (ofNat (val (kO x) % val (kO y))))))))] mo (wE (qD vJ)<|wR (uL sh4)<|wE (qD vJ)<|wR (uL sh4)<|wE (oNb bo4)<|wM<|wE (jZ (nU (!(x.neg == y.neg)) (ofNat (val (kO x) / val (kO y))) (kL _) (by omega)))<|wE (qD vJ)<|wR (uL sh4)<|wM<|wE (jZ (nU y.neg (ofNat (val (kO x) % val (kO y))) (kL _) (by omega)))<|wT (qM jV)<|wT (qM jV)<|wM<|wZ) ?_
   refine jE ⟨_, (kU (cs := (bx (jK (vW (!(x.neg == y.neg)) (val (ofNat (val (kO x) / val (kO y)))))))) (d := (jK (vW (!(x.neg == y.neg)) (val (ofNat (val (kO x) / val (kO y))))))) rfl rfl jV rfl rfl (kU (cs := (bx (jK (vW y.neg (val (ofNat (val (kO x) % val (kO y)))))))) (d := (jK (vW y.neg (val (ofNat (val (kO x) % val (kO y))))))) rfl rfl jV rfl rfl (.tmp (d := (.val (.int .i64 (0)))) rfl .nil))), ?_⟩
   unfold jW
   rw [d1, d2]
   simp only [kB]
   rfl
theorem t_gcdI (x y : kS) (hx : x.gs.length ≤ 1099511627776) (hy : y.gs.length ≤ 1099511627776) : jT Tryz.prog 138 [(jK x), (jK y)] (jK (kJ ((Int.gcd (jW x) (jW y) : Nat) : Int))) := by
 have hgx := qK x
 have hlx := yX x
 have hgy := qK y
 have hly := yX y
 refine jJ Tryz.func138 rfl cb138 rfl ?_
 show qR _ _ _ _ ⟨[(0, (.d (jK x))), (1, (.d (jK y)))], []⟩
 refine jB<|kx [(2, (.ref 0 0)), (3, (.ref 1 0)), (4, (.ref 2 0))] [(0, some (bx (jK x))), (1, some (bx (jK y))), (2, some (bx (jK (kS.mk false []))))] (zN (xA 0)<|zN (xA 1)<|zN (uU 2 zL zP)<|zZ) ?_
 refine jB<|kd [(5, (vl 140 1 jC (kO x))), (6, (vl 140 1 jC (kO y)))] [] mo (wR (kP jV)<|wE (jZ (yZ x (by omega)))<|wR (kP jV)<|wE (jZ (yZ y (by omega)))<|wM<|wM<|wZ) ?_
 refine jB<|jG<|kI (α := List Nat × List Nat) (fun (a, b) => ⟨[(4, (.ref 2 0)), (5, (vl 140 1 jC a)), (6, (vl 140 1 jC b))], [(2, some (bx (jK (kS.mk false []))))]⟩) (fun (a, b) => xX a ∧ xX b ∧ a.length ≤ 1099511627776 ∧ b.length ≤ 1099511627776 ∧ Nat.gcd (val a) (val b) = Int.gcd (jW x) (jW y)) (fun (a, b) => val b) (kO x, kO y) wk ⟨hgx, hgy, by omega, by omega, gcd_toZ x y⟩ ?_
 rintro ⟨a, b⟩ ⟨ha, hb, hla, hlb, hg⟩
 refine jB<|jB<|kx [(19, (vb (decide (0 < ((b.length : Nat) : Int)))))] [] (zM<|zE (vX kM)<|zE mO<|zZ) ?_
 refine jF (b := decide (0 < ((b.length : Nat) : Int))) rfl (fun h1 => ?_) (fun h1 => ?_)
 ·replace h1 := uH h1
  have hb0 := mN hb (by omega)
  refine jD<|jG<|jB<|kx [(7, (yS (yH a))), (8, (vb (nQ a)))] [] (zM<|zE (jZ (t_word a ha.1))<|zM<|zE vP<|zE vP<|zM<|zM<|zZ) ?_
  refine jB<|kx [(9, (yS (yH b))), (10, (vb (nQ b)))] [] (zM<|zE (jZ (t_word b hb.1))<|zM<|zE vP<|zE vP<|zM<|zM<|zZ) ?_
  refine jB<|jB<|kx [(33, (vb ((nQ a) && (nQ b))))] [] ?_ ?_
  ·refine zM<|zE (oV (vb (nQ a)) (qH (by kernel_rfl)))<|?_
   rcases hb2 : (nQ a) with _ | _
   ·exact zK<|zE yM<|zZ
   ·exact zM<|zE aJ<|zZ
  refine jF (b := ((nQ a) && (nQ b))) rfl (fun h3 => ?_) (fun h3 => ?_)
  ·obtain ⟨w1, w2, w3⟩ := word_both ha.1 h3
   have w4 : val b < 1000000000000000000 := by rw [Bool.and_eq_true] at h3; exact val_len2 hb.1 (uH h3.2)
   refine jB<|jG<|kI (α := Nat × Nat) (fun (m, n) => ⟨[(4, (.ref 2 0)), (7, (yS m)), (9, (yS n))], [(2, some (bx (jK (kS.mk false []))))]⟩) (fun (m, n) => m < 1000000000000000000 ∧ n < 1000000000000000000 ∧ Nat.gcd m n = Int.gcd (jW x) (jW y)) (fun (m, n) => n) (yH a, yH b) wk ⟨by omega, by omega, by rw [w1, w2]; exact hg⟩ ?_
   rintro ⟨m, n⟩ ⟨hm, hn, hg2⟩
   refine jB<|jB<|kx [(35, (vb (decide (0 < ((n : Nat) : Int)))))] [] (zM<|zE mO<|zZ) ?_
   refine jF (b := decide (0 < ((n : Nat) : Int))) rfl (fun h4 => ?_) (fun h4 => ?_)
   ·replace h4 := uH h4
    refine jD<|jG<|kd [(7, (yS n)), (9, (yS (m % n)))] [] mo (wM<|wM<|wM<|wE (oRe (m % n))<|wM<|wM<|wZ) ?_
    exact ⟨(n, m % n), wk, ⟨hn, Nat.lt_of_le_of_lt (Nat.mod_le _ _) hm, by rw [← hg2, Nat.gcd_comm, ← Nat.gcd_rec, Nat.gcd_comm]⟩, (by dsimp only; exact Nat.mod_lt _ (by omega))⟩
   ·replace h4 := vB h4
    obtain rfl : n = 0 := by omega
    rw [Nat.gcd_zero_right] at hg2
    refine kC<|jB<|kx [] [(2, some (bx (jK (vW false (val (ofNat m))))))] (zM<|zE (jZ (t_split m (by omega)))<|zE (jZ (nU false (ofNat m) (kL _) (Nat.le_trans (eP (by omega)) (by decide))))<|zT (qM jV)<|zZ) ?_
    refine jE ⟨_, (kU (cs := (bx (jK (vW false (val (ofNat m)))))) (d := (jK (vW false (val (ofNat m))))) rfl rfl jV rfl rfl .nil), ?_⟩
    rw [← hg2, kB, mkI_false]; rfl
  ·refine jD<|jB<|kx [(12, (vl 140 1 jC (ofNat (val a % val b))))] [] (zM<|zM<|zE (jZ (t_over a b ha hb hb0 (by omega) (by omega)))<|zM<|zE vP<|zE vP<|zM<|zM<|zZ) ?_
   refine kx [(5, (vl 140 1 jC b)), (6, (vl 140 1 jC (ofNat (val a % val b))))] [] (zM<|zM<|zM<|zM<|zZ) ?_
   exact ⟨(b, ofNat (val a % val b)), wk, ⟨hb, kY _, hlb, Nat.le_trans (len_rem a ha _) hla, by rw [kB, ← hg, Nat.gcd_comm, ← Nat.gcd_rec, Nat.gcd_comm]⟩, (by dsimp only; rw [kB]; exact Nat.mod_lt _ hb0)⟩
 ·replace h1 := vB h1
  have hb1 : b = [] := List.eq_nil_of_length_eq_zero (by omega)
  rw [hb1, val_nil, Nat.gcd_zero_right] at hg
  refine kC<|jB<|kx [] [(2, some (bx (jK (vW false (val a)))))] (zM<|zE (jZ (t_clone a (by omega)))<|zE (jZ (nU false a ha.1 (by omega)))<|zT (qM jV)<|zZ) ?_
  refine jE ⟨_, (kU (cs := (bx (jK (vW false (val a))))) (d := (jK (vW false (val a)))) rfl rfl jV rfl rfl .nil), ?_⟩
  rw [← hg, mkI_false]; rfl
end Go.Proofs.YtnajallgoaiahaaGreatDoor
