/-
  Functions walked: each takes its data to what is said. Printed by a program of ours.
-/
import Derived.Test.YtcdgmcfkhkikbaaGreatIvF
namespace Go.Proofs.YtcdgmcfkhkikbaaGreat
open Go.Fid
set_option maxRecDepth 4000
set_option linter.unusedVariables false
set_option linter.unusedSimpArgs false
theorem cb45 : callB Tryz.prog 45 = true := by kernel_rfl
theorem cb46 : callB Tryz.prog 46 = true := by kernel_rfl
theorem h_dotM (L : List (Rat × Rat)) (hL : ∀ x ∈ L, GL 16 x) (hbL : L.length ≤ 1000000) (M : List (Rat × Rat)) (hM : ∀ x ∈ M, GL 16 x) (hbM : M.length ≤ 1000000) (hne : L.length ≠ M.length) : Takes Tryz.prog 46 [(.sl 28 8 (List.map encG (List.map ofG L))), (.sl 28 8 (List.map encG (List.map ofG M)))] (.tup [(encG (RRng.mk (RRat.mk (RInt.mk false []) (RInt.mk false [])) (RRat.mk (RInt.mk false []) (RInt.mk false [])))), (.val (.int .i64 (4)))]) := by
  refine fn_intro Tryz.func46 rfl cb46 rfl ?_
  show PWp _ _ _ _ ⟨[(0, (vl 28 8 encG (List.map ofG L))), (1, (vl 28 8 encG (List.map ofG M)))], []⟩
  refine pwp_seq ?_
  refine pwp_S (S' := [(0, (vl 28 8 encG (List.map ofG L))), (1, (vl 28 8 encG (List.map ofG M))), (4, (.ref 0 0))]) (B' := [(0, some (bx (encG (RRng.mk (RRat.mk (RInt.mk false []) (RInt.mk false [])) (RRat.mk (RInt.mk false []) (RInt.mk false []))))))]) ?_ ?_
  · skip
    exact sN (n_al (cs := (bx (encG (RRng.mk (RRat.mk (RInt.mk false []) (RInt.mk false [])) (RRat.mk (RInt.mk false []) (RInt.mk false [])))))) 0 rfl ze28 zo28 rfl) rfl rfl rfl rfl <| sM (vin 0) rfl rfl <| sNil rfl rfl
  refine pwp_seq ?_
  refine pwp_seq ?_
  refine pwp_S (S' := [(0, (vl 28 8 encG (List.map ofG L))), (1, (vl 28 8 encG (List.map ofG M))), (4, (.ref 0 0)), (12, (vb (((L.length : Nat) : Int) != ((M.length : Nat) : Int))))]) (B' := [(0, some (bx (encG (RRng.mk (RRat.mk (RInt.mk false []) (RInt.mk false [])) (RRat.mk (RInt.mk false []) (RInt.mk false []))))))]) ?_ ?_
  · skip
    exact sM (vl 28 8 encG (List.map ofG L)) rfl rfl <| sE' (e_ln (r := ((L.length : Nat) : Int)) rfl el57 rfl (by simp)) rfl <| sM (vl 28 8 encG (List.map ofG M)) rfl rfl <| sE' (e_ln (r := ((M.length : Nat) : Int)) rfl el57 rfl (by simp)) rfl <| sE' (e_neq rfl rfl rfl) rfl <| sNil rfl rfl
  refine pwp_cond (b := (((L.length : Nat) : Int) != ((M.length : Nat) : Int))) rfl (fun h1 => ?_) (fun h1 => ?_)
  · skip
    replace h1 := bne_iff_ne.1 h1
    refine pwp_seq ?_
    refine pwp_S (S' := [(4, (.ref 0 0)), (5, (vin 4))]) (B' := [(0, some (bx (encG (RRng.mk (RRat.mk (RInt.mk false []) (RInt.mk false [])) (RRat.mk (RInt.mk false []) (RInt.mk false []))))))]) ?_ ?_
    · skip
      exact sE' (e_bld (pd := []) (y := (encG (RRng.mk (RRat.mk (RInt.mk false []) (RInt.mk false [])) (RRat.mk (RInt.mk false []) (RInt.mk false []))))) rfl pl28 ze28 zo28 rfl rfl rfl rfl) rfl <| sT (t_std (d := (encG (RRng.mk (RRat.mk (RInt.mk false []) (RInt.mk false [])) (RRat.mk (RInt.mk false []) (RInt.mk false []))))) (cs := (bx (encG (RRng.mk (RRat.mk (RInt.mk false []) (RInt.mk false [])) (RRat.mk (RInt.mk false []) (RInt.mk false [])))))) rfl rfl rfl sh28 rfl rfl rfl rfl) rfl rfl rfl <| sM (vin 4) rfl rfl <| sNil rfl rfl
    refine pwp_ret ⟨_, (res_a (cs := (bx (encG (RRng.mk (RRat.mk (RInt.mk false []) (RInt.mk false [])) (RRat.mk (RInt.mk false []) (RInt.mk false [])))))) (d := (encG (RRng.mk (RRat.mk (RInt.mk false []) (RInt.mk false [])) (RRat.mk (RInt.mk false []) (RInt.mk false []))))) rfl rfl sh28 rfl rfl (.tmp (d := (.val (.int .i64 (4)))) rfl .nil)), ?_⟩
    rfl
  · skip
    replace h1 := bne_eq_false_iff_eq.1 h1
    exfalso; omega

theorem h_dot (L : List (Rat × Rat)) (hL : ∀ x ∈ L, GL 16 x) (hbL : L.length ≤ 1000000) (M : List (Rat × Rat)) (hM : ∀ x ∈ M, GL 16 x) (hbM : M.length ≤ 1000000) (hlen : L.length = M.length) (hb8 : L.length ≤ 8) : Takes Tryz.prog 46 [(.sl 28 8 (List.map encG (List.map ofG L))), (.sl 28 8 (List.map encG (List.map ofG M)))] (.tup [(encG (RRng.mk (ofQ ((dotF L M L.length).1)) (ofQ ((dotF L M L.length).2)))), (.val (.int .i64 (0)))]) := by
  refine fn_intro Tryz.func46 rfl cb46 rfl ?_
  show PWp _ _ _ _ ⟨[(0, (vl 28 8 encG (List.map ofG L))), (1, (vl 28 8 encG (List.map ofG M)))], []⟩
  refine pwp_seq ?_
  refine pwp_S (S' := [(0, (vl 28 8 encG (List.map ofG L))), (1, (vl 28 8 encG (List.map ofG M))), (4, (.ref 0 0))]) (B' := [(0, some (bx (encG (RRng.mk (RRat.mk (RInt.mk false []) (RInt.mk false [])) (RRat.mk (RInt.mk false []) (RInt.mk false []))))))]) ?_ ?_
  · skip
    exact sN (n_al (cs := (bx (encG (RRng.mk (RRat.mk (RInt.mk false []) (RInt.mk false [])) (RRat.mk (RInt.mk false []) (RInt.mk false [])))))) 0 rfl ze28 zo28 rfl) rfl rfl rfl rfl <| sM (vin 0) rfl rfl <| sNil rfl rfl
  refine pwp_seq ?_
  refine pwp_seq ?_
  refine pwp_S (S' := [(0, (vl 28 8 encG (List.map ofG L))), (1, (vl 28 8 encG (List.map ofG M))), (4, (.ref 0 0)), (12, (vb (((L.length : Nat) : Int) != ((M.length : Nat) : Int))))]) (B' := [(0, some (bx (encG (RRng.mk (RRat.mk (RInt.mk false []) (RInt.mk false [])) (RRat.mk (RInt.mk false []) (RInt.mk false []))))))]) ?_ ?_
  · skip
    exact sM (vl 28 8 encG (List.map ofG L)) rfl rfl <| sE' (e_ln (r := ((L.length : Nat) : Int)) rfl el57 rfl (by simp)) rfl <| sM (vl 28 8 encG (List.map ofG M)) rfl rfl <| sE' (e_ln (r := ((M.length : Nat) : Int)) rfl el57 rfl (by simp)) rfl <| sE' (e_neq rfl rfl rfl) rfl <| sNil rfl rfl
  refine pwp_cond (b := (((L.length : Nat) : Int) != ((M.length : Nat) : Int))) rfl (fun h1 => ?_) (fun h1 => ?_)
  · skip
    replace h1 := bne_iff_ne.1 h1
    exfalso; omega
  · skip
    replace h1 := bne_eq_false_iff_eq.1 h1
    refine pwp_skip ?_
    refine pwp_seq ?_
    refine pwp_S (S' := [(0, (vl 28 8 encG (List.map ofG L))), (1, (vl 28 8 encG (List.map ofG M))), (4, (.ref 0 0)), (6, (.ref 1 0))]) (B' := [(0, some (bx (encG (RRng.mk (RRat.mk (RInt.mk false []) (RInt.mk false [])) (RRat.mk (RInt.mk false []) (RInt.mk false [])))))), (1, some (bx (encG (RRng.mk (ofQ ((0 : Int) : Rat)) (ofQ ((0 : Int) : Rat))))))]) ?_ ?_
    · skip
      exact sE' (e_cl (h_whole 0 0 (by decide) (by decide) (by decide) (by decide)) rfl rfl rfl) rfl <| sN (n_al (cs := (bx (encG (RRng.mk (RRat.mk (RInt.mk false []) (RInt.mk false [])) (RRat.mk (RInt.mk false []) (RInt.mk false [])))))) 1 rfl ze28 zo28 rfl) rfl rfl rfl rfl <| sT (t_std (d := (encG (RRng.mk (ofQ ((0 : Int) : Rat)) (ofQ ((0 : Int) : Rat))))) (cs := (bx (encG (RRng.mk (ofQ ((0 : Int) : Rat)) (ofQ ((0 : Int) : Rat)))))) rfl rfl rfl sh28 rfl rfl rfl rfl) rfl rfl rfl <| sNil rfl rfl
    refine pwp_seq ?_
    refine pwp_seq ?_
    refine pwp_S (S' := [(0, (vl 28 8 encG (List.map ofG L))), (1, (vl 28 8 encG (List.map ofG M))), (4, (.ref 0 0)), (6, (.ref 1 0)), (16, (vin L.length)), (17, (vin 0))]) (B' := [(0, some (bx (encG (RRng.mk (RRat.mk (RInt.mk false []) (RInt.mk false [])) (RRat.mk (RInt.mk false []) (RInt.mk false [])))))), (1, some (bx (encG (RRng.mk (ofQ ((0 : Int) : Rat)) (ofQ ((0 : Int) : Rat))))))]) ?_ ?_
    · skip
      exact sM (vl 28 8 encG (List.map ofG L)) rfl rfl <| sE' (e_ln (r := ((L.length : Nat) : Int)) rfl el57 rfl (by simp)) rfl <| sM (vin 0) rfl rfl <| sNil rfl rfl
    refine pwp_block ?_
    refine pwp_loop (α := Nat × Rat × Rat) (fun (i, lo, hi) => ⟨[(0, (vl 28 8 encG (List.map ofG L))), (1, (vl 28 8 encG (List.map ofG M))), (4, (.ref 0 0)), (6, (.ref 1 0)), (16, (vin L.length)), (17, (vin i))], [(0, some (bx (encG (RRng.mk (RRat.mk (RInt.mk false []) (RInt.mk false [])) (RRat.mk (RInt.mk false []) (RInt.mk false [])))))), (1, some (bx (encG (RRng.mk (ofQ lo) (ofQ hi)))))]⟩) (fun (i, lo, hi) => i ≤ L.length ∧ lo = (dotF L M i).1 ∧ hi = (dotF L M i).2) (fun (i, lo, hi) => L.length - i) (0, ((0 : Int) : Rat), ((0 : Int) : Rat)) (weak rfl rfl) ⟨Nat.zero_le _, rfl, rfl⟩ ?_
    rintro ⟨i, lo, hi⟩ ⟨hi1, hv1, hv2⟩
    have hq := dot_ql hL hM (show i ≤ 8 by omega)
    have hlo : QL lo 300 := by rw [hv1]; exact hq.1
    have hhi : QL hi 300 := by rw [hv2]; exact hq.2.1
    have hlh : lo ≤ hi := by rw [hv1, hv2]; exact hq.2.2
    refine pwp_seq ?_
    refine pwp_S (S' := [(0, (vl 28 8 encG (List.map ofG L))), (1, (vl 28 8 encG (List.map ofG M))), (4, (.ref 0 0)), (6, (.ref 1 0)), (16, (vin L.length)), (17, (vin i)), (18, (vb (decide (((i : Nat) : Int) < ((L.length : Nat) : Int)))))]) (B' := [(0, some (bx (encG (RRng.mk (RRat.mk (RInt.mk false []) (RInt.mk false [])) (RRat.mk (RInt.mk false []) (RInt.mk false [])))))), (1, some (bx (encG (RRng.mk (ofQ lo) (ofQ hi)))))]) ?_ ?_
    · skip
      exact sE' (e_lss rfl rfl rfl) rfl <| sNil rfl rfl
    refine pwp_seq ?_
    refine pwp_cond (b := decide (((i : Nat) : Int) < ((L.length : Nat) : Int))) rfl (fun h2 => ?_) (fun h2 => ?_)
    · skip
      replace h2 := of_decide_eq_true h2
      refine pwp_skip ?_
      refine pwp_seq ?_
      refine pwp_block ?_
      refine pwp_seq ?_
      refine pwp_S (S' := [(0, (vl 28 8 encG (List.map ofG L))), (1, (vl 28 8 encG (List.map ofG M))), (4, (.ref 0 0)), (6, (.ref 1 0)), (7, (vin i)), (16, (vin L.length)), (17, (vin i))]) (B' := [(0, some (bx (encG (RRng.mk (RRat.mk (RInt.mk false []) (RInt.mk false [])) (RRat.mk (RInt.mk false []) (RInt.mk false [])))))), (1, some (bx (encG (RRng.mk (ofQ lo) (ofQ hi)))))]) ?_ ?_
      · skip
        exact sM (vin i) rfl rfl <| sM (vin i) rfl rfl <| sNil rfl rfl
      refine pwp_D (S' := [(0, (vl 28 8 encG (List.map ofG L))), (1, (vl 28 8 encG (List.map ofG M))), (4, (.ref 0 0)), (6, (.ref 1 0)), (16, (vin L.length)), (17, (vin i))]) (B' := [(0, some (bx (encG (RRng.mk (RRat.mk (RInt.mk false []) (RInt.mk false [])) (RRat.mk (RInt.mk false []) (RInt.mk false [])))))), (1, some (bx (encG (RRng.mk (ofQ (lo + (mnL (((L.getD i (0, 0)).1) * ((M.getD i (0, 0)).1)) [(((L.getD i (0, 0)).1) * ((M.getD i (0, 0)).2)), (((L.getD i (0, 0)).2) * ((M.getD i (0, 0)).1)), (((L.getD i (0, 0)).2) * ((M.getD i (0, 0)).2))]))) (ofQ (hi + (mxL (((L.getD i (0, 0)).1) * ((M.getD i (0, 0)).1)) [(((L.getD i (0, 0)).1) * ((M.getD i (0, 0)).2)), (((L.getD i (0, 0)).2) * ((M.getD i (0, 0)).1)), (((L.getD i (0, 0)).2) * ((M.getD i (0, 0)).2))])))))))]) mo (by kernel_rfl) ?_ ?_
      · skip
        exact dR (e_lda (cs := (bx (encG (RRng.mk (ofQ lo) (ofQ hi))))) (y := (.d (encG (RRng.mk (ofQ lo) (ofQ hi))))) rfl rfl sh28 rfl rfl) rfl rfl rfl rfl rfl <| dM (vl 28 8 encG (List.map ofG L)) rfl rfl rfl <| dM (vin i) rfl rfl rfl <| dE' (e_ixs (j := i) (cs := (Dat.cells (encG (RRng.mk (ofQ ((L.getD i (0, 0)).1)) (ofQ ((L.getD i (0, 0)).2)))))) rfl el57 rfl rfl (by omega) (ixmap _ ofG _ _ (0, 0) (by omega))) rfl rfl <| dE' (e_lca (cs := (Dat.cells (encG (RRng.mk (ofQ ((L.getD i (0, 0)).1)) (ofQ ((L.getD i (0, 0)).2)))))) (y := (.d (encG (RRng.mk (ofQ ((L.getD i (0, 0)).1)) (ofQ ((L.getD i (0, 0)).2)))))) rfl rfl sh28 rfl rfl) rfl rfl <| dM (vl 28 8 encG (List.map ofG M)) rfl rfl rfl <| dM (vin i) rfl rfl rfl <| dE' (e_ixs (j := i) (cs := (Dat.cells (encG (RRng.mk (ofQ ((M.getD i (0, 0)).1)) (ofQ ((M.getD i (0, 0)).2)))))) rfl el57 rfl rfl (by omega) (ixmap _ ofG _ _ (0, 0) (by omega))) rfl rfl <| dE' (e_lca (cs := (Dat.cells (encG (RRng.mk (ofQ ((M.getD i (0, 0)).1)) (ofQ ((M.getD i (0, 0)).2)))))) (y := (.d (encG (RRng.mk (ofQ ((M.getD i (0, 0)).1)) (ofQ ((M.getD i (0, 0)).2)))))) rfl rfl sh28 rfl rfl) rfl rfl <| dE' (e_cl (h_mul (RRng.mk (ofQ ((L.getD i (0, 0)).1)) (ofQ ((L.getD i (0, 0)).2))) ((L.getD i (0, 0)).1) ((L.getD i (0, 0)).2) (qok_up (qok_of (gl_getD hL (by decide) i).1) (by decide)) (qok_up (qok_of (gl_getD hL (by decide) i).2.1) (by decide)) (RRng.mk (ofQ ((M.getD i (0, 0)).1)) (ofQ ((M.getD i (0, 0)).2))) ((M.getD i (0, 0)).1) ((M.getD i (0, 0)).2) (qok_up (qok_of (gl_getD hM (by decide) i).1) (by decide)) (qok_up (qok_of (gl_getD hM (by decide) i).2.1) (by decide))) rfl rfl rfl) rfl rfl <| dE' (e_cl (h_add (RRng.mk (ofQ lo) (ofQ hi)) lo hi (qok_up (qok_of hlo) (by decide)) (qok_up (qok_of hhi) (by decide)) (RRng.mk (ofQ (mnL (((L.getD i (0, 0)).1) * ((M.getD i (0, 0)).1)) [(((L.getD i (0, 0)).1) * ((M.getD i (0, 0)).2)), (((L.getD i (0, 0)).2) * ((M.getD i (0, 0)).1)), (((L.getD i (0, 0)).2) * ((M.getD i (0, 0)).2))])) (ofQ (mxL (((L.getD i (0, 0)).1) * ((M.getD i (0, 0)).1)) [(((L.getD i (0, 0)).1) * ((M.getD i (0, 0)).2)), (((L.getD i (0, 0)).2) * ((M.getD i (0, 0)).1)), (((L.getD i (0, 0)).2) * ((M.getD i (0, 0)).2))]))) (mnL (((L.getD i (0, 0)).1) * ((M.getD i (0, 0)).1)) [(((L.getD i (0, 0)).1) * ((M.getD i (0, 0)).2)), (((L.getD i (0, 0)).2) * ((M.getD i (0, 0)).1)), (((L.getD i (0, 0)).2) * ((M.getD i (0, 0)).2))]) (mxL (((L.getD i (0, 0)).1) * ((M.getD i (0, 0)).1)) [(((L.getD i (0, 0)).1) * ((M.getD i (0, 0)).2)), (((L.getD i (0, 0)).2) * ((M.getD i (0, 0)).1)), (((L.getD i (0, 0)).2) * ((M.getD i (0, 0)).2))]) (qok_up (qok_of (ql_mnL (ql_mul (k := 32) (gl_getD hL (by decide) i).1 (gl_getD hM (by decide) i).1 (by decide)) (List.forall_mem_cons.2 ⟨(ql_mul (k := 32) (gl_getD hL (by decide) i).1 (gl_getD hM (by decide) i).2.1 (by decide)), (List.forall_mem_cons.2 ⟨(ql_mul (k := 32) (gl_getD hL (by decide) i).2.1 (gl_getD hM (by decide) i).1 (by decide)), (List.forall_mem_cons.2 ⟨(ql_mul (k := 32) (gl_getD hL (by decide) i).2.1 (gl_getD hM (by decide) i).2.1 (by decide)), (fun a h => by cases h)⟩)⟩)⟩))) (by decide)) (qok_up (qok_of (ql_mxL (ql_mul (k := 32) (gl_getD hL (by decide) i).1 (gl_getD hM (by decide) i).1 (by decide)) (List.forall_mem_cons.2 ⟨(ql_mul (k := 32) (gl_getD hL (by decide) i).1 (gl_getD hM (by decide) i).2.1 (by decide)), (List.forall_mem_cons.2 ⟨(ql_mul (k := 32) (gl_getD hL (by decide) i).2.1 (gl_getD hM (by decide) i).1 (by decide)), (List.forall_mem_cons.2 ⟨(ql_mul (k := 32) (gl_getD hL (by decide) i).2.1 (gl_getD hM (by decide) i).2.1 (by decide)), (fun a h => by cases h)⟩)⟩)⟩))) (by decide))) rfl rfl rfl) rfl rfl <| dT (t_std (d := (encG (RRng.mk (ofQ (lo + (mnL (((L.getD i (0, 0)).1) * ((M.getD i (0, 0)).1)) [(((L.getD i (0, 0)).1) * ((M.getD i (0, 0)).2)), (((L.getD i (0, 0)).2) * ((M.getD i (0, 0)).1)), (((L.getD i (0, 0)).2) * ((M.getD i (0, 0)).2))]))) (ofQ (hi + (mxL (((L.getD i (0, 0)).1) * ((M.getD i (0, 0)).1)) [(((L.getD i (0, 0)).1) * ((M.getD i (0, 0)).2)), (((L.getD i (0, 0)).2) * ((M.getD i (0, 0)).1)), (((L.getD i (0, 0)).2) * ((M.getD i (0, 0)).2))])))))) (cs := (bx (encG (RRng.mk (ofQ (lo + (mnL (((L.getD i (0, 0)).1) * ((M.getD i (0, 0)).1)) [(((L.getD i (0, 0)).1) * ((M.getD i (0, 0)).2)), (((L.getD i (0, 0)).2) * ((M.getD i (0, 0)).1)), (((L.getD i (0, 0)).2) * ((M.getD i (0, 0)).2))]))) (ofQ (hi + (mxL (((L.getD i (0, 0)).1) * ((M.getD i (0, 0)).1)) [(((L.getD i (0, 0)).1) * ((M.getD i (0, 0)).2)), (((L.getD i (0, 0)).2) * ((M.getD i (0, 0)).1)), (((L.getD i (0, 0)).2) * ((M.getD i (0, 0)).2))]))))))) rfl rfl rfl sh28 rfl rfl rfl rfl) rfl rfl rfl rfl <| dNil rfl rfl (by kernel_rfl)
      refine pwp_S (S' := [(0, (vl 28 8 encG (List.map ofG L))), (1, (vl 28 8 encG (List.map ofG M))), (4, (.ref 0 0)), (6, (.ref 1 0)), (16, (vin L.length)), (17, (vin (i + 1)))]) (B' := [(0, some (bx (encG (RRng.mk (RRat.mk (RInt.mk false []) (RInt.mk false [])) (RRat.mk (RInt.mk false []) (RInt.mk false [])))))), (1, some (bx (encG (RRng.mk (ofQ (lo + (mnL (((L.getD i (0, 0)).1) * ((M.getD i (0, 0)).1)) [(((L.getD i (0, 0)).1) * ((M.getD i (0, 0)).2)), (((L.getD i (0, 0)).2) * ((M.getD i (0, 0)).1)), (((L.getD i (0, 0)).2) * ((M.getD i (0, 0)).2))]))) (ofQ (hi + (mxL (((L.getD i (0, 0)).1) * ((M.getD i (0, 0)).1)) [(((L.getD i (0, 0)).1) * ((M.getD i (0, 0)).2)), (((L.getD i (0, 0)).2) * ((M.getD i (0, 0)).1)), (((L.getD i (0, 0)).2) * ((M.getD i (0, 0)).2))])))))))]) ?_ ?_
      · skip
        exact sE' (e_add (r := (((i + 1) : Nat) : Int)) rfl rfl rfl (wi64 (by omega) (by omega) (by omega))) rfl <| sM (vin (i + 1)) rfl rfl <| sNil rfl rfl
      exact ⟨(i + 1, (lo + (mnL (((L.getD i (0, 0)).1 * (M.getD i (0, 0)).1)) [((L.getD i (0, 0)).1 * (M.getD i (0, 0)).2), ((L.getD i (0, 0)).2 * (M.getD i (0, 0)).1), ((L.getD i (0, 0)).2 * (M.getD i (0, 0)).2)])), (hi + (mxL (((L.getD i (0, 0)).1 * (M.getD i (0, 0)).1)) [((L.getD i (0, 0)).1 * (M.getD i (0, 0)).2), ((L.getD i (0, 0)).2 * (M.getD i (0, 0)).1), ((L.getD i (0, 0)).2 * (M.getD i (0, 0)).2)]))), (weak rfl rfl), ⟨by omega, by rw [hv1]; rfl, by rw [hv2]; rfl⟩, (by first | omega | (dsimp only; omega))⟩
    · skip
      replace h2 := of_decide_eq_false h2
      have hie : i = L.length := by omega
      rw [hie] at hv1 hv2
      refine pwp_exit ?_
      refine pwp_seq ?_
      refine pwp_S (S' := [(4, (.ref 0 0)), (5, (vin 0))]) (B' := [(0, some (bx (encG (RRng.mk (ofQ lo) (ofQ hi)))))]) ?_ ?_
      · skip
        exact sR (e_lda (cs := (bx (encG (RRng.mk (ofQ lo) (ofQ hi))))) (y := (.d (encG (RRng.mk (ofQ lo) (ofQ hi))))) rfl rfl sh28 rfl rfl) rfl rfl rfl rfl <| sT (t_std (d := (encG (RRng.mk (ofQ lo) (ofQ hi)))) (cs := (bx (encG (RRng.mk (ofQ lo) (ofQ hi))))) rfl rfl rfl sh28 rfl rfl rfl rfl) rfl rfl rfl <| sM (vin 0) rfl rfl <| sNil rfl rfl
      refine pwp_ret ⟨_, (res_a (cs := (bx (encG (RRng.mk (ofQ lo) (ofQ hi))))) (d := (encG (RRng.mk (ofQ lo) (ofQ hi)))) rfl rfl sh28 rfl rfl (.tmp (d := (.val (.int .i64 (0)))) rfl .nil)), ?_⟩
      rw [hv1, hv2]; rfl

theorem i_dotM (L : List (Rat × Rat)) (hL : ∀ x ∈ L, GL 16 x) (hbL : L.length ≤ 1000000) (M : List (Rat × Rat)) (hM : ∀ x ∈ M, GL 16 x) (hbM : M.length ≤ 1000000) (hne : L.length ≠ M.length) : Takes Tryz.prog 45 [(.sl 28 8 (List.map encG (List.map ofG L))), (.sl 28 8 (List.map encG (List.map ofG M)))] (.tup [(encG (RRng.mk (RRat.mk (RInt.mk false []) (RInt.mk false [])) (RRat.mk (RInt.mk false []) (RInt.mk false [])))), (.val (.int .i64 (4)))]) := by
  refine fn_intro Tryz.func45 rfl cb45 rfl ?_
  show PWp _ _ _ _ ⟨[(0, (vl 28 8 encG (List.map ofG L))), (1, (vl 28 8 encG (List.map ofG M)))], []⟩
  refine pwp_seq ?_
  refine pwp_S (S' := [(0, (vl 28 8 encG (List.map ofG L))), (1, (vl 28 8 encG (List.map ofG M))), (4, (.ref 0 0))]) (B' := [(0, some (bx (encG (RRng.mk (RRat.mk (RInt.mk false []) (RInt.mk false [])) (RRat.mk (RInt.mk false []) (RInt.mk false []))))))]) ?_ ?_
  · skip
    exact sN (n_al (cs := (bx (encG (RRng.mk (RRat.mk (RInt.mk false []) (RInt.mk false [])) (RRat.mk (RInt.mk false []) (RInt.mk false [])))))) 0 rfl ze28 zo28 rfl) rfl rfl rfl rfl <| sM (vin 0) rfl rfl <| sNil rfl rfl
  refine pwp_seq ?_
  refine pwp_seq ?_
  refine pwp_S (S' := [(0, (vl 28 8 encG (List.map ofG L))), (1, (vl 28 8 encG (List.map ofG M))), (4, (.ref 0 0)), (17, (vb false))]) (B' := [(0, some (bx (encG (RRng.mk (RRat.mk (RInt.mk false []) (RInt.mk false [])) (RRat.mk (RInt.mk false []) (RInt.mk false []))))))]) ?_ ?_
  · skip
    exact sM (vl 28 8 encG (List.map ofG L)) rfl rfl <| sE' (e_cl (by have h := i_valids (List.map ofG L) (gokl_up (gok_map hL) (by decide)) (by rw [List.length_map]; exact hbL); rw [valid_map hL] at h; exact h) rfl rfl rfl) rfl <| sE' (e_not (b := true) rfl rfl) rfl <| sM (vb false) rfl rfl <| sM (vl 28 8 encG (List.map ofG M)) rfl rfl <| sE' (e_cl (by have h := i_valids (List.map ofG M) (gokl_up (gok_map hM) (by decide)) (by rw [List.length_map]; exact hbM); rw [valid_map hM] at h; exact h) rfl rfl rfl) rfl <| sE' (e_not (b := true) rfl rfl) rfl <| sE' (e_pkf (z := (vb false)) rfl rfl rfl) rfl <| sNil rfl rfl
  refine pwp_cond (b := false) rfl (fun h => by cases h) (fun _ => ?_)
  refine pwp_skip ?_
  refine pwp_seq ?_
  refine pwp_seq ?_
  refine pwp_S (S' := [(0, (vl 28 8 encG (List.map ofG L))), (1, (vl 28 8 encG (List.map ofG M))), (4, (.ref 0 0)), (23, (vb (((L.length : Nat) : Int) != ((M.length : Nat) : Int))))]) (B' := [(0, some (bx (encG (RRng.mk (RRat.mk (RInt.mk false []) (RInt.mk false [])) (RRat.mk (RInt.mk false []) (RInt.mk false []))))))]) ?_ ?_
  · skip
    exact sM (vl 28 8 encG (List.map ofG L)) rfl rfl <| sE' (e_ln (r := ((L.length : Nat) : Int)) rfl el57 rfl (by simp)) rfl <| sM (vl 28 8 encG (List.map ofG M)) rfl rfl <| sE' (e_ln (r := ((M.length : Nat) : Int)) rfl el57 rfl (by simp)) rfl <| sE' (e_neq rfl rfl rfl) rfl <| sNil rfl rfl
  refine pwp_cond (b := (((L.length : Nat) : Int) != ((M.length : Nat) : Int))) rfl (fun h1 => ?_) (fun h1 => ?_)
  · skip
    replace h1 := bne_iff_ne.1 h1
    refine pwp_seq ?_
    refine pwp_S (S' := [(4, (.ref 0 0)), (5, (vin 4))]) (B' := [(0, some (bx (encG (RRng.mk (RRat.mk (RInt.mk false []) (RInt.mk false [])) (RRat.mk (RInt.mk false []) (RInt.mk false []))))))]) ?_ ?_
    · skip
      exact sE' (e_bld (pd := []) (y := (encG (RRng.mk (RRat.mk (RInt.mk false []) (RInt.mk false [])) (RRat.mk (RInt.mk false []) (RInt.mk false []))))) rfl pl28 ze28 zo28 rfl rfl rfl rfl) rfl <| sT (t_std (d := (encG (RRng.mk (RRat.mk (RInt.mk false []) (RInt.mk false [])) (RRat.mk (RInt.mk false []) (RInt.mk false []))))) (cs := (bx (encG (RRng.mk (RRat.mk (RInt.mk false []) (RInt.mk false [])) (RRat.mk (RInt.mk false []) (RInt.mk false [])))))) rfl rfl rfl sh28 rfl rfl rfl rfl) rfl rfl rfl <| sM (vin 4) rfl rfl <| sNil rfl rfl
    refine pwp_ret ⟨_, (res_a (cs := (bx (encG (RRng.mk (RRat.mk (RInt.mk false []) (RInt.mk false [])) (RRat.mk (RInt.mk false []) (RInt.mk false [])))))) (d := (encG (RRng.mk (RRat.mk (RInt.mk false []) (RInt.mk false [])) (RRat.mk (RInt.mk false []) (RInt.mk false []))))) rfl rfl sh28 rfl rfl (.tmp (d := (.val (.int .i64 (4)))) rfl .nil)), ?_⟩
    rfl
  · skip
    replace h1 := bne_eq_false_iff_eq.1 h1
    exfalso; omega

theorem i_dot (L : List (Rat × Rat)) (hL : ∀ x ∈ L, GL 16 x) (hbL : L.length ≤ 1000000) (M : List (Rat × Rat)) (hM : ∀ x ∈ M, GL 16 x) (hbM : M.length ≤ 1000000) (hlen : L.length = M.length) (hb8 : L.length ≤ 8) : Takes Tryz.prog 45 [(.sl 28 8 (List.map encG (List.map ofG L))), (.sl 28 8 (List.map encG (List.map ofG M)))] (.tup [(encG (RRng.mk (ofQ ((dotF L M L.length).1)) (ofQ ((dotF L M L.length).2)))), (.val (.int .i64 (0)))]) := by
  refine fn_intro Tryz.func45 rfl cb45 rfl ?_
  show PWp _ _ _ _ ⟨[(0, (vl 28 8 encG (List.map ofG L))), (1, (vl 28 8 encG (List.map ofG M)))], []⟩
  refine pwp_seq ?_
  refine pwp_S (S' := [(0, (vl 28 8 encG (List.map ofG L))), (1, (vl 28 8 encG (List.map ofG M))), (4, (.ref 0 0))]) (B' := [(0, some (bx (encG (RRng.mk (RRat.mk (RInt.mk false []) (RInt.mk false [])) (RRat.mk (RInt.mk false []) (RInt.mk false []))))))]) ?_ ?_
  · skip
    exact sN (n_al (cs := (bx (encG (RRng.mk (RRat.mk (RInt.mk false []) (RInt.mk false [])) (RRat.mk (RInt.mk false []) (RInt.mk false [])))))) 0 rfl ze28 zo28 rfl) rfl rfl rfl rfl <| sM (vin 0) rfl rfl <| sNil rfl rfl
  refine pwp_seq ?_
  refine pwp_seq ?_
  refine pwp_S (S' := [(0, (vl 28 8 encG (List.map ofG L))), (1, (vl 28 8 encG (List.map ofG M))), (4, (.ref 0 0)), (17, (vb false))]) (B' := [(0, some (bx (encG (RRng.mk (RRat.mk (RInt.mk false []) (RInt.mk false [])) (RRat.mk (RInt.mk false []) (RInt.mk false []))))))]) ?_ ?_
  · skip
    exact sM (vl 28 8 encG (List.map ofG L)) rfl rfl <| sE' (e_cl (by have h := i_valids (List.map ofG L) (gokl_up (gok_map hL) (by decide)) (by rw [List.length_map]; exact hbL); rw [valid_map hL] at h; exact h) rfl rfl rfl) rfl <| sE' (e_not (b := true) rfl rfl) rfl <| sM (vb false) rfl rfl <| sM (vl 28 8 encG (List.map ofG M)) rfl rfl <| sE' (e_cl (by have h := i_valids (List.map ofG M) (gokl_up (gok_map hM) (by decide)) (by rw [List.length_map]; exact hbM); rw [valid_map hM] at h; exact h) rfl rfl rfl) rfl <| sE' (e_not (b := true) rfl rfl) rfl <| sE' (e_pkf (z := (vb false)) rfl rfl rfl) rfl <| sNil rfl rfl
  refine pwp_cond (b := false) rfl (fun h => by cases h) (fun _ => ?_)
  refine pwp_skip ?_
  refine pwp_seq ?_
  refine pwp_seq ?_
  refine pwp_S (S' := [(0, (vl 28 8 encG (List.map ofG L))), (1, (vl 28 8 encG (List.map ofG M))), (4, (.ref 0 0)), (23, (vb (((L.length : Nat) : Int) != ((M.length : Nat) : Int))))]) (B' := [(0, some (bx (encG (RRng.mk (RRat.mk (RInt.mk false []) (RInt.mk false [])) (RRat.mk (RInt.mk false []) (RInt.mk false []))))))]) ?_ ?_
  · skip
    exact sM (vl 28 8 encG (List.map ofG L)) rfl rfl <| sE' (e_ln (r := ((L.length : Nat) : Int)) rfl el57 rfl (by simp)) rfl <| sM (vl 28 8 encG (List.map ofG M)) rfl rfl <| sE' (e_ln (r := ((M.length : Nat) : Int)) rfl el57 rfl (by simp)) rfl <| sE' (e_neq rfl rfl rfl) rfl <| sNil rfl rfl
  refine pwp_cond (b := (((L.length : Nat) : Int) != ((M.length : Nat) : Int))) rfl (fun h1 => ?_) (fun h1 => ?_)
  · skip
    replace h1 := bne_iff_ne.1 h1
    exfalso; omega
  · skip
    replace h1 := bne_eq_false_iff_eq.1 h1
    refine pwp_skip ?_
    refine pwp_seq ?_
    refine pwp_S (S' := [(0, (vl 28 8 encG (List.map ofG L))), (1, (vl 28 8 encG (List.map ofG M))), (4, (.ref 0 0)), (6, (.ref 1 0))]) (B' := [(0, some (bx (encG (RRng.mk (RRat.mk (RInt.mk false []) (RInt.mk false [])) (RRat.mk (RInt.mk false []) (RInt.mk false [])))))), (1, some (bx (encG (RRng.mk (ofQ ((0 : Int) : Rat)) (ofQ ((0 : Int) : Rat))))))]) ?_ ?_
    · skip
      exact sE' (e_cl (f_whole 0 (by decide) (by decide)) rfl rfl rfl) rfl <| sE' (e_cl (f_whole 0 (by decide) (by decide)) rfl rfl rfl) rfl <| sE' (e_bld (pd := [(0, (encR (ofQ ((0 : Int) : Rat)))), (1, (encR (ofQ ((0 : Int) : Rat))))]) (y := (encG (RRng.mk (ofQ ((0 : Int) : Rat)) (ofQ ((0 : Int) : Rat))))) rfl pl28 ze28 zo28 rfl rfl rfl rfl) rfl <| sN (n_al (cs := (bx (encG (RRng.mk (RRat.mk (RInt.mk false []) (RInt.mk false [])) (RRat.mk (RInt.mk false []) (RInt.mk false [])))))) 1 rfl ze28 zo28 rfl) rfl rfl rfl rfl <| sT (t_std (d := (encG (RRng.mk (ofQ ((0 : Int) : Rat)) (ofQ ((0 : Int) : Rat))))) (cs := (bx (encG (RRng.mk (ofQ ((0 : Int) : Rat)) (ofQ ((0 : Int) : Rat)))))) rfl rfl rfl sh28 rfl rfl rfl rfl) rfl rfl rfl <| sNil rfl rfl
    refine pwp_seq ?_
    refine pwp_seq ?_
    refine pwp_S (S' := [(0, (vl 28 8 encG (List.map ofG L))), (1, (vl 28 8 encG (List.map ofG M))), (4, (.ref 0 0)), (6, (.ref 1 0)), (29, (vin L.length)), (30, (vin 0))]) (B' := [(0, some (bx (encG (RRng.mk (RRat.mk (RInt.mk false []) (RInt.mk false [])) (RRat.mk (RInt.mk false []) (RInt.mk false [])))))), (1, some (bx (encG (RRng.mk (ofQ ((0 : Int) : Rat)) (ofQ ((0 : Int) : Rat))))))]) ?_ ?_
    · skip
      exact sM (vl 28 8 encG (List.map ofG L)) rfl rfl <| sE' (e_ln (r := ((L.length : Nat) : Int)) rfl el57 rfl (by simp)) rfl <| sM (vin 0) rfl rfl <| sNil rfl rfl
    refine pwp_block ?_
    refine pwp_loop (α := Nat × Rat × Rat) (fun (i, lo, hi) => ⟨[(0, (vl 28 8 encG (List.map ofG L))), (1, (vl 28 8 encG (List.map ofG M))), (4, (.ref 0 0)), (6, (.ref 1 0)), (29, (vin L.length)), (30, (vin i))], [(0, some (bx (encG (RRng.mk (RRat.mk (RInt.mk false []) (RInt.mk false [])) (RRat.mk (RInt.mk false []) (RInt.mk false [])))))), (1, some (bx (encG (RRng.mk (ofQ lo) (ofQ hi)))))]⟩) (fun (i, lo, hi) => i ≤ L.length ∧ lo = (dotF L M i).1 ∧ hi = (dotF L M i).2) (fun (i, lo, hi) => L.length - i) (0, ((0 : Int) : Rat), ((0 : Int) : Rat)) (weak rfl rfl) ⟨Nat.zero_le _, rfl, rfl⟩ ?_
    rintro ⟨i, lo, hi⟩ ⟨hi1, hv1, hv2⟩
    have hq := dot_ql hL hM (show i ≤ 8 by omega)
    have hlo : QL lo 300 := by rw [hv1]; exact hq.1
    have hhi : QL hi 300 := by rw [hv2]; exact hq.2.1
    have hlh : lo ≤ hi := by rw [hv1, hv2]; exact hq.2.2
    refine pwp_seq ?_
    refine pwp_S (S' := [(0, (vl 28 8 encG (List.map ofG L))), (1, (vl 28 8 encG (List.map ofG M))), (4, (.ref 0 0)), (6, (.ref 1 0)), (29, (vin L.length)), (30, (vin i)), (31, (vb (decide (((i : Nat) : Int) < ((L.length : Nat) : Int)))))]) (B' := [(0, some (bx (encG (RRng.mk (RRat.mk (RInt.mk false []) (RInt.mk false [])) (RRat.mk (RInt.mk false []) (RInt.mk false [])))))), (1, some (bx (encG (RRng.mk (ofQ lo) (ofQ hi)))))]) ?_ ?_
    · skip
      exact sE' (e_lss rfl rfl rfl) rfl <| sNil rfl rfl
    refine pwp_seq ?_
    refine pwp_cond (b := decide (((i : Nat) : Int) < ((L.length : Nat) : Int))) rfl (fun h2 => ?_) (fun h2 => ?_)
    · skip
      replace h2 := of_decide_eq_true h2
      refine pwp_skip ?_
      refine pwp_seq ?_
      refine pwp_block ?_
      refine pwp_seq ?_
      refine pwp_S (S' := [(0, (vl 28 8 encG (List.map ofG L))), (1, (vl 28 8 encG (List.map ofG M))), (4, (.ref 0 0)), (6, (.ref 1 0)), (7, (vin i)), (29, (vin L.length)), (30, (vin i))]) (B' := [(0, some (bx (encG (RRng.mk (RRat.mk (RInt.mk false []) (RInt.mk false [])) (RRat.mk (RInt.mk false []) (RInt.mk false [])))))), (1, some (bx (encG (RRng.mk (ofQ lo) (ofQ hi)))))]) ?_ ?_
      · skip
        exact sM (vin i) rfl rfl <| sM (vin i) rfl rfl <| sNil rfl rfl
      refine pwp_seq ?_
      refine pwp_D (S' := [(0, (vl 28 8 encG (List.map ofG L))), (1, (vl 28 8 encG (List.map ofG M))), (4, (.ref 0 0)), (6, (.ref 1 0)), (8, (.ref 2 0)), (29, (vin L.length)), (30, (vin i))]) (B' := [(0, some (bx (encG (RRng.mk (RRat.mk (RInt.mk false []) (RInt.mk false [])) (RRat.mk (RInt.mk false []) (RInt.mk false [])))))), (1, some (bx (encG (RRng.mk (ofQ lo) (ofQ hi))))), (2, some (bx (encG (RRng.mk (ofQ (mnL (((L.getD i (0, 0)).1) * ((M.getD i (0, 0)).1)) [(((L.getD i (0, 0)).1) * ((M.getD i (0, 0)).2)), (((L.getD i (0, 0)).2) * ((M.getD i (0, 0)).1)), (((L.getD i (0, 0)).2) * ((M.getD i (0, 0)).2))])) (ofQ (mxL (((L.getD i (0, 0)).1) * ((M.getD i (0, 0)).1)) [(((L.getD i (0, 0)).1) * ((M.getD i (0, 0)).2)), (((L.getD i (0, 0)).2) * ((M.getD i (0, 0)).1)), (((L.getD i (0, 0)).2) * ((M.getD i (0, 0)).2))]))))))]) mo (by kernel_rfl) ?_ ?_
      · skip
        exact dM (vl 28 8 encG (List.map ofG L)) rfl rfl rfl <| dM (vin i) rfl rfl rfl <| dE' (e_ixs (j := i) (cs := (Dat.cells (encG (RRng.mk (ofQ ((L.getD i (0, 0)).1)) (ofQ ((L.getD i (0, 0)).2)))))) rfl el57 rfl rfl (by omega) (ixmap _ ofG _ _ (0, 0) (by omega))) rfl rfl <| dE' (e_lca (cs := (Dat.cells (encG (RRng.mk (ofQ ((L.getD i (0, 0)).1)) (ofQ ((L.getD i (0, 0)).2)))))) (y := (.d (encG (RRng.mk (ofQ ((L.getD i (0, 0)).1)) (ofQ ((L.getD i (0, 0)).2)))))) rfl rfl sh28 rfl rfl) rfl rfl <| dM (vl 28 8 encG (List.map ofG M)) rfl rfl rfl <| dM (vin i) rfl rfl rfl <| dE' (e_ixs (j := i) (cs := (Dat.cells (encG (RRng.mk (ofQ ((M.getD i (0, 0)).1)) (ofQ ((M.getD i (0, 0)).2)))))) rfl el57 rfl rfl (by omega) (ixmap _ ofG _ _ (0, 0) (by omega))) rfl rfl <| dE' (e_lca (cs := (Dat.cells (encG (RRng.mk (ofQ ((M.getD i (0, 0)).1)) (ofQ ((M.getD i (0, 0)).2)))))) (y := (.d (encG (RRng.mk (ofQ ((M.getD i (0, 0)).1)) (ofQ ((M.getD i (0, 0)).2)))))) rfl rfl sh28 rfl rfl) rfl rfl <| dE' (e_cl (i_mul ((L.getD i (0, 0)).1) ((L.getD i (0, 0)).2) ((M.getD i (0, 0)).1) ((M.getD i (0, 0)).2) (ql_up (gl_getD hL (by decide) i).1 (by decide)) (ql_up (gl_getD hL (by decide) i).2.1 (by decide)) (ql_up (gl_getD hM (by decide) i).1 (by decide)) (ql_up (gl_getD hM (by decide) i).2.1 (by decide)) (gl_getD hL (by decide) i).2.2 (gl_getD hM (by decide) i).2.2) rfl rfl rfl) rfl rfl <| dM (.d (.tup [(encG (RRng.mk (ofQ (mnL (((L.getD i (0, 0)).1) * ((M.getD i (0, 0)).1)) [(((L.getD i (0, 0)).1) * ((M.getD i (0, 0)).2)), (((L.getD i (0, 0)).2) * ((M.getD i (0, 0)).1)), (((L.getD i (0, 0)).2) * ((M.getD i (0, 0)).2))])) (ofQ (mxL (((L.getD i (0, 0)).1) * ((M.getD i (0, 0)).1)) [(((L.getD i (0, 0)).1) * ((M.getD i (0, 0)).2)), (((L.getD i (0, 0)).2) * ((M.getD i (0, 0)).1)), (((L.getD i (0, 0)).2) * ((M.getD i (0, 0)).2))])))), (.val (.int .i64 (0)))])) rfl rfl rfl <| dE' (e_exD (d := (encG (RRng.mk (ofQ (mnL (((L.getD i (0, 0)).1) * ((M.getD i (0, 0)).1)) [(((L.getD i (0, 0)).1) * ((M.getD i (0, 0)).2)), (((L.getD i (0, 0)).2) * ((M.getD i (0, 0)).1)), (((L.getD i (0, 0)).2) * ((M.getD i (0, 0)).2))])) (ofQ (mxL (((L.getD i (0, 0)).1) * ((M.getD i (0, 0)).1)) [(((L.getD i (0, 0)).1) * ((M.getD i (0, 0)).2)), (((L.getD i (0, 0)).2) * ((M.getD i (0, 0)).1)), (((L.getD i (0, 0)).2) * ((M.getD i (0, 0)).2))]))))) rfl rfl rfl) rfl rfl <| dE' (e_exD (d := (.val (.int .i64 (0)))) rfl rfl rfl) rfl rfl <| dN (n_al (cs := (bx (encG (RRng.mk (RRat.mk (RInt.mk false []) (RInt.mk false [])) (RRat.mk (RInt.mk false []) (RInt.mk false [])))))) 2 rfl ze28 zo28 rfl) rfl rfl rfl rfl rfl rfl <| dT (t_std (d := (encG (RRng.mk (ofQ (mnL (((L.getD i (0, 0)).1) * ((M.getD i (0, 0)).1)) [(((L.getD i (0, 0)).1) * ((M.getD i (0, 0)).2)), (((L.getD i (0, 0)).2) * ((M.getD i (0, 0)).1)), (((L.getD i (0, 0)).2) * ((M.getD i (0, 0)).2))])) (ofQ (mxL (((L.getD i (0, 0)).1) * ((M.getD i (0, 0)).1)) [(((L.getD i (0, 0)).1) * ((M.getD i (0, 0)).2)), (((L.getD i (0, 0)).2) * ((M.getD i (0, 0)).1)), (((L.getD i (0, 0)).2) * ((M.getD i (0, 0)).2))]))))) (cs := (bx (encG (RRng.mk (ofQ (mnL (((L.getD i (0, 0)).1) * ((M.getD i (0, 0)).1)) [(((L.getD i (0, 0)).1) * ((M.getD i (0, 0)).2)), (((L.getD i (0, 0)).2) * ((M.getD i (0, 0)).1)), (((L.getD i (0, 0)).2) * ((M.getD i (0, 0)).2))])) (ofQ (mxL (((L.getD i (0, 0)).1) * ((M.getD i (0, 0)).1)) [(((L.getD i (0, 0)).1) * ((M.getD i (0, 0)).2)), (((L.getD i (0, 0)).2) * ((M.getD i (0, 0)).1)), (((L.getD i (0, 0)).2) * ((M.getD i (0, 0)).2))])))))) rfl rfl rfl sh28 rfl rfl rfl rfl) rfl rfl rfl rfl <| dM (vi 0) rfl rfl rfl <| dNil rfl rfl (by kernel_rfl)
      refine pwp_S (S' := [(0, (vl 28 8 encG (List.map ofG L))), (1, (vl 28 8 encG (List.map ofG M))), (4, (.ref 0 0)), (6, (.ref 1 0)), (29, (vin L.length)), (30, (vin i))]) (B' := [(0, some (bx (encG (RRng.mk (RRat.mk (RInt.mk false []) (RInt.mk false [])) (RRat.mk (RInt.mk false []) (RInt.mk false [])))))), (1, some (bx (encG (RRng.mk (ofQ (lo + (mnL (((L.getD i (0, 0)).1) * ((M.getD i (0, 0)).1)) [(((L.getD i (0, 0)).1) * ((M.getD i (0, 0)).2)), (((L.getD i (0, 0)).2) * ((M.getD i (0, 0)).1)), (((L.getD i (0, 0)).2) * ((M.getD i (0, 0)).2))]))) (ofQ (hi + (mxL (((L.getD i (0, 0)).1) * ((M.getD i (0, 0)).1)) [(((L.getD i (0, 0)).1) * ((M.getD i (0, 0)).2)), (((L.getD i (0, 0)).2) * ((M.getD i (0, 0)).1)), (((L.getD i (0, 0)).2) * ((M.getD i (0, 0)).2))])))))))]) ?_ ?_
      · skip
        exact sR (e_lda (cs := (bx (encG (RRng.mk (ofQ lo) (ofQ hi))))) (y := (.d (encG (RRng.mk (ofQ lo) (ofQ hi))))) rfl rfl sh28 rfl rfl) rfl rfl rfl rfl <| sR (e_lda (cs := (bx (encG (RRng.mk (ofQ (mnL (((L.getD i (0, 0)).1) * ((M.getD i (0, 0)).1)) [(((L.getD i (0, 0)).1) * ((M.getD i (0, 0)).2)), (((L.getD i (0, 0)).2) * ((M.getD i (0, 0)).1)), (((L.getD i (0, 0)).2) * ((M.getD i (0, 0)).2))])) (ofQ (mxL (((L.getD i (0, 0)).1) * ((M.getD i (0, 0)).1)) [(((L.getD i (0, 0)).1) * ((M.getD i (0, 0)).2)), (((L.getD i (0, 0)).2) * ((M.getD i (0, 0)).1)), (((L.getD i (0, 0)).2) * ((M.getD i (0, 0)).2))])))))) (y := (.d (encG (RRng.mk (ofQ (mnL (((L.getD i (0, 0)).1) * ((M.getD i (0, 0)).1)) [(((L.getD i (0, 0)).1) * ((M.getD i (0, 0)).2)), (((L.getD i (0, 0)).2) * ((M.getD i (0, 0)).1)), (((L.getD i (0, 0)).2) * ((M.getD i (0, 0)).2))])) (ofQ (mxL (((L.getD i (0, 0)).1) * ((M.getD i (0, 0)).1)) [(((L.getD i (0, 0)).1) * ((M.getD i (0, 0)).2)), (((L.getD i (0, 0)).2) * ((M.getD i (0, 0)).1)), (((L.getD i (0, 0)).2) * ((M.getD i (0, 0)).2))])))))) rfl rfl sh28 rfl rfl) rfl rfl rfl rfl <| sE' (e_cl (i_add lo hi (mnL (((L.getD i (0, 0)).1) * ((M.getD i (0, 0)).1)) [(((L.getD i (0, 0)).1) * ((M.getD i (0, 0)).2)), (((L.getD i (0, 0)).2) * ((M.getD i (0, 0)).1)), (((L.getD i (0, 0)).2) * ((M.getD i (0, 0)).2))]) (mxL (((L.getD i (0, 0)).1) * ((M.getD i (0, 0)).1)) [(((L.getD i (0, 0)).1) * ((M.getD i (0, 0)).2)), (((L.getD i (0, 0)).2) * ((M.getD i (0, 0)).1)), (((L.getD i (0, 0)).2) * ((M.getD i (0, 0)).2))]) (ql_up hlo (by decide)) (ql_up hhi (by decide)) (ql_up (ql_mnL (ql_mul (k := 32) (gl_getD hL (by decide) i).1 (gl_getD hM (by decide) i).1 (by decide)) (List.forall_mem_cons.2 ⟨(ql_mul (k := 32) (gl_getD hL (by decide) i).1 (gl_getD hM (by decide) i).2.1 (by decide)), (List.forall_mem_cons.2 ⟨(ql_mul (k := 32) (gl_getD hL (by decide) i).2.1 (gl_getD hM (by decide) i).1 (by decide)), (List.forall_mem_cons.2 ⟨(ql_mul (k := 32) (gl_getD hL (by decide) i).2.1 (gl_getD hM (by decide) i).2.1 (by decide)), (fun a h => by cases h)⟩)⟩)⟩)) (by decide)) (ql_up (ql_mxL (ql_mul (k := 32) (gl_getD hL (by decide) i).1 (gl_getD hM (by decide) i).1 (by decide)) (List.forall_mem_cons.2 ⟨(ql_mul (k := 32) (gl_getD hL (by decide) i).1 (gl_getD hM (by decide) i).2.1 (by decide)), (List.forall_mem_cons.2 ⟨(ql_mul (k := 32) (gl_getD hL (by decide) i).2.1 (gl_getD hM (by decide) i).1 (by decide)), (List.forall_mem_cons.2 ⟨(ql_mul (k := 32) (gl_getD hL (by decide) i).2.1 (gl_getD hM (by decide) i).2.1 (by decide)), (fun a h => by cases h)⟩)⟩)⟩)) (by decide)) hlh (mnL_le_mxL (((L.getD i (0, 0)).1) * ((M.getD i (0, 0)).1)) [(((L.getD i (0, 0)).1) * ((M.getD i (0, 0)).2)), (((L.getD i (0, 0)).2) * ((M.getD i (0, 0)).1)), (((L.getD i (0, 0)).2) * ((M.getD i (0, 0)).2))])) rfl rfl rfl) rfl <| sM (.d (.tup [(encG (RRng.mk (ofQ (lo + (mnL (((L.getD i (0, 0)).1) * ((M.getD i (0, 0)).1)) [(((L.getD i (0, 0)).1) * ((M.getD i (0, 0)).2)), (((L.getD i (0, 0)).2) * ((M.getD i (0, 0)).1)), (((L.getD i (0, 0)).2) * ((M.getD i (0, 0)).2))]))) (ofQ (hi + (mxL (((L.getD i (0, 0)).1) * ((M.getD i (0, 0)).1)) [(((L.getD i (0, 0)).1) * ((M.getD i (0, 0)).2)), (((L.getD i (0, 0)).2) * ((M.getD i (0, 0)).1)), (((L.getD i (0, 0)).2) * ((M.getD i (0, 0)).2))]))))), (.val (.int .i64 (0)))])) rfl rfl <| sE' (e_exD (d := (encG (RRng.mk (ofQ (lo + (mnL (((L.getD i (0, 0)).1) * ((M.getD i (0, 0)).1)) [(((L.getD i (0, 0)).1) * ((M.getD i (0, 0)).2)), (((L.getD i (0, 0)).2) * ((M.getD i (0, 0)).1)), (((L.getD i (0, 0)).2) * ((M.getD i (0, 0)).2))]))) (ofQ (hi + (mxL (((L.getD i (0, 0)).1) * ((M.getD i (0, 0)).1)) [(((L.getD i (0, 0)).1) * ((M.getD i (0, 0)).2)), (((L.getD i (0, 0)).2) * ((M.getD i (0, 0)).1)), (((L.getD i (0, 0)).2) * ((M.getD i (0, 0)).2))])))))) rfl rfl rfl) rfl <| sE' (e_exD (d := (.val (.int .i64 (0)))) rfl rfl rfl) rfl <| sT (t_std (d := (encG (RRng.mk (ofQ (lo + (mnL (((L.getD i (0, 0)).1) * ((M.getD i (0, 0)).1)) [(((L.getD i (0, 0)).1) * ((M.getD i (0, 0)).2)), (((L.getD i (0, 0)).2) * ((M.getD i (0, 0)).1)), (((L.getD i (0, 0)).2) * ((M.getD i (0, 0)).2))]))) (ofQ (hi + (mxL (((L.getD i (0, 0)).1) * ((M.getD i (0, 0)).1)) [(((L.getD i (0, 0)).1) * ((M.getD i (0, 0)).2)), (((L.getD i (0, 0)).2) * ((M.getD i (0, 0)).1)), (((L.getD i (0, 0)).2) * ((M.getD i (0, 0)).2))])))))) (cs := (bx (encG (RRng.mk (ofQ (lo + (mnL (((L.getD i (0, 0)).1) * ((M.getD i (0, 0)).1)) [(((L.getD i (0, 0)).1) * ((M.getD i (0, 0)).2)), (((L.getD i (0, 0)).2) * ((M.getD i (0, 0)).1)), (((L.getD i (0, 0)).2) * ((M.getD i (0, 0)).2))]))) (ofQ (hi + (mxL (((L.getD i (0, 0)).1) * ((M.getD i (0, 0)).1)) [(((L.getD i (0, 0)).1) * ((M.getD i (0, 0)).2)), (((L.getD i (0, 0)).2) * ((M.getD i (0, 0)).1)), (((L.getD i (0, 0)).2) * ((M.getD i (0, 0)).2))]))))))) rfl rfl rfl sh28 rfl rfl rfl rfl) rfl rfl rfl <| sNil rfl rfl
      refine pwp_S (S' := [(0, (vl 28 8 encG (List.map ofG L))), (1, (vl 28 8 encG (List.map ofG M))), (4, (.ref 0 0)), (6, (.ref 1 0)), (29, (vin L.length)), (30, (vin (i + 1)))]) (B' := [(0, some (bx (encG (RRng.mk (RRat.mk (RInt.mk false []) (RInt.mk false [])) (RRat.mk (RInt.mk false []) (RInt.mk false [])))))), (1, some (bx (encG (RRng.mk (ofQ (lo + (mnL (((L.getD i (0, 0)).1) * ((M.getD i (0, 0)).1)) [(((L.getD i (0, 0)).1) * ((M.getD i (0, 0)).2)), (((L.getD i (0, 0)).2) * ((M.getD i (0, 0)).1)), (((L.getD i (0, 0)).2) * ((M.getD i (0, 0)).2))]))) (ofQ (hi + (mxL (((L.getD i (0, 0)).1) * ((M.getD i (0, 0)).1)) [(((L.getD i (0, 0)).1) * ((M.getD i (0, 0)).2)), (((L.getD i (0, 0)).2) * ((M.getD i (0, 0)).1)), (((L.getD i (0, 0)).2) * ((M.getD i (0, 0)).2))])))))))]) ?_ ?_
      · skip
        exact sE' (e_add (r := (((i + 1) : Nat) : Int)) rfl rfl rfl (wi64 (by omega) (by omega) (by omega))) rfl <| sM (vin (i + 1)) rfl rfl <| sNil rfl rfl
      exact ⟨(i + 1, (lo + (mnL (((L.getD i (0, 0)).1 * (M.getD i (0, 0)).1)) [((L.getD i (0, 0)).1 * (M.getD i (0, 0)).2), ((L.getD i (0, 0)).2 * (M.getD i (0, 0)).1), ((L.getD i (0, 0)).2 * (M.getD i (0, 0)).2)])), (hi + (mxL (((L.getD i (0, 0)).1 * (M.getD i (0, 0)).1)) [((L.getD i (0, 0)).1 * (M.getD i (0, 0)).2), ((L.getD i (0, 0)).2 * (M.getD i (0, 0)).1), ((L.getD i (0, 0)).2 * (M.getD i (0, 0)).2)]))), (weak rfl rfl), ⟨by omega, by rw [hv1]; rfl, by rw [hv2]; rfl⟩, (by first | omega | (dsimp only; omega))⟩
    · skip
      replace h2 := of_decide_eq_false h2
      have hie : i = L.length := by omega
      rw [hie] at hv1 hv2
      refine pwp_exit ?_
      refine pwp_seq ?_
      refine pwp_S (S' := [(4, (.ref 0 0)), (5, (vin 0))]) (B' := [(0, some (bx (encG (RRng.mk (ofQ lo) (ofQ hi)))))]) ?_ ?_
      · skip
        exact sR (e_lda (cs := (bx (encG (RRng.mk (ofQ lo) (ofQ hi))))) (y := (.d (encG (RRng.mk (ofQ lo) (ofQ hi))))) rfl rfl sh28 rfl rfl) rfl rfl rfl rfl <| sT (t_std (d := (encG (RRng.mk (ofQ lo) (ofQ hi)))) (cs := (bx (encG (RRng.mk (ofQ lo) (ofQ hi))))) rfl rfl rfl sh28 rfl rfl rfl rfl) rfl rfl rfl <| sM (vin 0) rfl rfl <| sNil rfl rfl
      refine pwp_ret ⟨_, (res_a (cs := (bx (encG (RRng.mk (ofQ lo) (ofQ hi))))) (d := (encG (RRng.mk (ofQ lo) (ofQ hi)))) rfl rfl sh28 rfl rfl (.tmp (d := (.val (.int .i64 (0)))) rfl .nil)), ?_⟩
      rw [hv1, hv2]; rfl

theorem i_dotA (l : List RRng) (hl : ∀ a ∈ l, GOk 16 a) (hbl : l.length ≤ 1000000) (m : List RRng) (hm : ∀ a ∈ m, GOk 16 a) (hbm : m.length ≤ 1000000) (hk : List.all l validG = false) : Takes Tryz.prog 45 [(.sl 28 8 (List.map encG l)), (.sl 28 8 (List.map encG m))] (.tup [(encG (RRng.mk (RRat.mk (RInt.mk false []) (RInt.mk false [])) (RRat.mk (RInt.mk false []) (RInt.mk false [])))), (.val (.int .i64 (1)))]) := by
  refine fn_intro Tryz.func45 rfl cb45 rfl ?_
  show PWp _ _ _ _ ⟨[(0, (vl 28 8 encG l)), (1, (vl 28 8 encG m))], []⟩
  refine pwp_seq ?_
  refine pwp_S (S' := [(0, (vl 28 8 encG l)), (1, (vl 28 8 encG m)), (4, (.ref 0 0))]) (B' := [(0, some (bx (encG (RRng.mk (RRat.mk (RInt.mk false []) (RInt.mk false [])) (RRat.mk (RInt.mk false []) (RInt.mk false []))))))]) ?_ ?_
  · skip
    exact sN (n_al (cs := (bx (encG (RRng.mk (RRat.mk (RInt.mk false []) (RInt.mk false [])) (RRat.mk (RInt.mk false []) (RInt.mk false [])))))) 0 rfl ze28 zo28 rfl) rfl rfl rfl rfl <| sM (vin 0) rfl rfl <| sNil rfl rfl
  refine pwp_seq ?_
  refine pwp_seq ?_
  refine pwp_S (S' := [(0, (vl 28 8 encG l)), (1, (vl 28 8 encG m)), (4, (.ref 0 0)), (17, (vb true))]) (B' := [(0, some (bx (encG (RRng.mk (RRat.mk (RInt.mk false []) (RInt.mk false [])) (RRat.mk (RInt.mk false []) (RInt.mk false []))))))]) ?_ ?_
  · skip
    exact sM (vl 28 8 encG l) rfl rfl <| sE' (e_cl (by have h := i_valids l (gokl_up hl (by decide)) hbl; rw [show List.all l validG = false from hk] at h; exact h) rfl rfl rfl) rfl <| sE' (e_not (b := false) rfl rfl) rfl <| sM (vb true) rfl rfl <| sK rfl rfl rfl <| sK rfl rfl rfl <| sK rfl rfl rfl <| sE' (e_pkt (z := (vb true)) rfl rfl rfl) rfl <| sNil rfl rfl
  refine pwp_cond (b := true) rfl (fun _ => ?_) (fun h => by cases h)
  refine pwp_seq ?_
  refine pwp_S (S' := [(4, (.ref 0 0)), (5, (vin 1))]) (B' := [(0, some (bx (encG (RRng.mk (RRat.mk (RInt.mk false []) (RInt.mk false [])) (RRat.mk (RInt.mk false []) (RInt.mk false []))))))]) ?_ ?_
  · skip
    exact sE' (e_bld (pd := []) (y := (encG (RRng.mk (RRat.mk (RInt.mk false []) (RInt.mk false [])) (RRat.mk (RInt.mk false []) (RInt.mk false []))))) rfl pl28 ze28 zo28 rfl rfl rfl rfl) rfl <| sT (t_std (d := (encG (RRng.mk (RRat.mk (RInt.mk false []) (RInt.mk false [])) (RRat.mk (RInt.mk false []) (RInt.mk false []))))) (cs := (bx (encG (RRng.mk (RRat.mk (RInt.mk false []) (RInt.mk false [])) (RRat.mk (RInt.mk false []) (RInt.mk false [])))))) rfl rfl rfl sh28 rfl rfl rfl rfl) rfl rfl rfl <| sM (vin 1) rfl rfl <| sNil rfl rfl
  refine pwp_ret ⟨_, (res_a (cs := (bx (encG (RRng.mk (RRat.mk (RInt.mk false []) (RInt.mk false [])) (RRat.mk (RInt.mk false []) (RInt.mk false [])))))) (d := (encG (RRng.mk (RRat.mk (RInt.mk false []) (RInt.mk false [])) (RRat.mk (RInt.mk false []) (RInt.mk false []))))) rfl rfl sh28 rfl rfl (.tmp (d := (.val (.int .i64 (1)))) rfl .nil)), ?_⟩
  rfl

theorem i_dotB (L : List (Rat × Rat)) (hL : ∀ x ∈ L, GL 16 x) (hbL : L.length ≤ 1000000) (m : List RRng) (hm : ∀ a ∈ m, GOk 16 a) (hbm : m.length ≤ 1000000) (hk : List.all m validG = false) : Takes Tryz.prog 45 [(.sl 28 8 (List.map encG (List.map ofG L))), (.sl 28 8 (List.map encG m))] (.tup [(encG (RRng.mk (RRat.mk (RInt.mk false []) (RInt.mk false [])) (RRat.mk (RInt.mk false []) (RInt.mk false [])))), (.val (.int .i64 (1)))]) := by
  refine fn_intro Tryz.func45 rfl cb45 rfl ?_
  show PWp _ _ _ _ ⟨[(0, (vl 28 8 encG (List.map ofG L))), (1, (vl 28 8 encG m))], []⟩
  refine pwp_seq ?_
  refine pwp_S (S' := [(0, (vl 28 8 encG (List.map ofG L))), (1, (vl 28 8 encG m)), (4, (.ref 0 0))]) (B' := [(0, some (bx (encG (RRng.mk (RRat.mk (RInt.mk false []) (RInt.mk false [])) (RRat.mk (RInt.mk false []) (RInt.mk false []))))))]) ?_ ?_
  · skip
    exact sN (n_al (cs := (bx (encG (RRng.mk (RRat.mk (RInt.mk false []) (RInt.mk false [])) (RRat.mk (RInt.mk false []) (RInt.mk false [])))))) 0 rfl ze28 zo28 rfl) rfl rfl rfl rfl <| sM (vin 0) rfl rfl <| sNil rfl rfl
  refine pwp_seq ?_
  refine pwp_seq ?_
  refine pwp_S (S' := [(0, (vl 28 8 encG (List.map ofG L))), (1, (vl 28 8 encG m)), (4, (.ref 0 0)), (17, (vb true))]) (B' := [(0, some (bx (encG (RRng.mk (RRat.mk (RInt.mk false []) (RInt.mk false [])) (RRat.mk (RInt.mk false []) (RInt.mk false []))))))]) ?_ ?_
  · skip
    exact sM (vl 28 8 encG (List.map ofG L)) rfl rfl <| sE' (e_cl (by have h := i_valids (List.map ofG L) (gokl_up (gok_map hL) (by decide)) (by rw [List.length_map]; exact hbL); rw [valid_map hL] at h; exact h) rfl rfl rfl) rfl <| sE' (e_not (b := true) rfl rfl) rfl <| sM (vb false) rfl rfl <| sM (vl 28 8 encG m) rfl rfl <| sE' (e_cl (by have h := i_valids m (gokl_up hm (by decide)) hbm; rw [show List.all m validG = false from hk] at h; exact h) rfl rfl rfl) rfl <| sE' (e_not (b := false) rfl rfl) rfl <| sE' (e_pkf (z := (vb true)) rfl rfl rfl) rfl <| sNil rfl rfl
  refine pwp_cond (b := true) rfl (fun _ => ?_) (fun h => by cases h)
  refine pwp_seq ?_
  refine pwp_S (S' := [(4, (.ref 0 0)), (5, (vin 1))]) (B' := [(0, some (bx (encG (RRng.mk (RRat.mk (RInt.mk false []) (RInt.mk false [])) (RRat.mk (RInt.mk false []) (RInt.mk false []))))))]) ?_ ?_
  · skip
    exact sE' (e_bld (pd := []) (y := (encG (RRng.mk (RRat.mk (RInt.mk false []) (RInt.mk false [])) (RRat.mk (RInt.mk false []) (RInt.mk false []))))) rfl pl28 ze28 zo28 rfl rfl rfl rfl) rfl <| sT (t_std (d := (encG (RRng.mk (RRat.mk (RInt.mk false []) (RInt.mk false [])) (RRat.mk (RInt.mk false []) (RInt.mk false []))))) (cs := (bx (encG (RRng.mk (RRat.mk (RInt.mk false []) (RInt.mk false [])) (RRat.mk (RInt.mk false []) (RInt.mk false [])))))) rfl rfl rfl sh28 rfl rfl rfl rfl) rfl rfl rfl <| sM (vin 1) rfl rfl <| sNil rfl rfl
  refine pwp_ret ⟨_, (res_a (cs := (bx (encG (RRng.mk (RRat.mk (RInt.mk false []) (RInt.mk false [])) (RRat.mk (RInt.mk false []) (RInt.mk false [])))))) (d := (encG (RRng.mk (RRat.mk (RInt.mk false []) (RInt.mk false [])) (RRat.mk (RInt.mk false []) (RInt.mk false []))))) rfl rfl sh28 rfl rfl (.tmp (d := (.val (.int .i64 (1)))) rfl .nil)), ?_⟩
  rfl

end Go.Proofs.YtcdgmcfkhkikbaaGreat
