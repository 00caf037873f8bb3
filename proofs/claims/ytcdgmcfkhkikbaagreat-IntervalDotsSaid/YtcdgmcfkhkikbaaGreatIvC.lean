/-
  Functions walked: each takes its data to what is said. Printed by a program of ours.
-/
import Derived.Test.YtcdgmcfkhkikbaaGreatIvB
import Derived.Test.YtcdgmcfkhkikbaaGreatSpan
namespace Go.Proofs.YtcdgmcfkhkikbaaGreat
open Go.Fid
set_option maxRecDepth 4000
set_option linter.unusedVariables false
set_option linter.unusedSimpArgs false
theorem by26 : bytesB Tryz.prog 26 = some 64 := by kernel_rfl
theorem cb17 : callB Tryz.prog 17 = true := by kernel_rfl
theorem cb18 : callB Tryz.prog 18 = true := by kernel_rfl
theorem cb24 : callB Tryz.prog 24 = true := by kernel_rfl
theorem cb69 : callB Tryz.prog 69 = true := by kernel_rfl
theorem cb70 : callB Tryz.prog 70 = true := by kernel_rfl
theorem cb71 : callB Tryz.prog 71 = true := by kernel_rfl
theorem g_least (l : List Rat) (hl : ∀ q ∈ l, QL q 4294967296) (h0 : 0 < l.length) (hb : l.length ≤ 1000000) : Takes Tryz.prog 70 [(.sl 26 4 (List.map encR (List.map ofQ l)))] (.tup [(encR (ofQ (mnL (l.getD 0 0) l))), (.val (.int .i64 (0)))]) := by
  refine fn_intro Tryz.func70 rfl cb70 rfl ?_
  show PWp _ _ _ _ ⟨[(0, (vl 26 4 encR (List.map ofQ l)))], []⟩
  refine pwp_seq ?_
  refine pwp_S (S' := [(0, (vl 26 4 encR (List.map ofQ l))), (2, (.ref 0 0))]) (B' := [(0, some (bx (encR (RRat.mk (RInt.mk false []) (RInt.mk false [])))))]) ?_ ?_
  · skip
    exact sN (n_al (cs := (bx (encR (RRat.mk (RInt.mk false []) (RInt.mk false []))))) 0 rfl ze26 zo26 rfl) rfl rfl rfl rfl <| sM (vin 0) rfl rfl <| sNil rfl rfl
  refine pwp_seq ?_
  refine pwp_seq ?_
  refine pwp_S (S' := [(0, (vl 26 4 encR (List.map ofQ l))), (2, (.ref 0 0)), (8, (vb (((l.length : Nat) : Int) == 0)))]) (B' := [(0, some (bx (encR (RRat.mk (RInt.mk false []) (RInt.mk false [])))))]) ?_ ?_
  · skip
    exact sM (vl 26 4 encR (List.map ofQ l)) rfl rfl <| sE' (e_ln (r := ((l.length : Nat) : Int)) rfl el69 rfl (by simp)) rfl <| sE' (e_eql rfl rfl rfl) rfl <| sNil rfl rfl
  refine pwp_cond (b := (((l.length : Nat) : Int) == 0)) rfl (fun h1 => ?_) (fun h1 => ?_)
  · skip
    replace h1 := eq_of_beq h1
    exfalso; omega
  · skip
    replace h1 := ne_of_beq_false h1
    refine pwp_skip ?_
    refine pwp_seq ?_
    refine pwp_S (S' := [(0, (vl 26 4 encR (List.map ofQ l))), (2, (.ref 0 0)), (4, (.ref 1 0))]) (B' := [(0, some (bx (encR (RRat.mk (RInt.mk false []) (RInt.mk false []))))), (1, some (bx (encR (ofQ (l.getD 0 0)))))]) ?_ ?_
    · skip
      exact sM (vl 26 4 encR (List.map ofQ l)) rfl rfl <| sE' (e_ixs (j := 0) (cs := (Dat.cells (encR (ofQ (l.getD 0 0))))) rfl el69 rfl rfl (by omega) (ixmap _ ofQ _ _ 0 (by omega))) rfl <| sE' (e_lca (cs := (Dat.cells (encR (ofQ (l.getD 0 0))))) (y := (.d (encR (ofQ (l.getD 0 0))))) rfl rfl sh26 rfl rfl) rfl <| sE' (e_cl (g_value (ofQ (l.getD 0 0)) (l.getD 0 0) (qok_up (qok_of (ql_getD hl (by decide) 0)) (by decide))) rfl rfl rfl) rfl <| sN (n_al (cs := (bx (encR (RRat.mk (RInt.mk false []) (RInt.mk false []))))) 1 rfl ze26 zo26 rfl) rfl rfl rfl rfl <| sT (t_std (d := (encR (ofQ (l.getD 0 0)))) (cs := (bx (encR (ofQ (l.getD 0 0))))) rfl rfl rfl sh26 rfl rfl rfl rfl) rfl rfl rfl <| sNil rfl rfl
    refine pwp_seq ?_
    refine pwp_seq ?_
    refine pwp_S (S' := [(0, (vl 26 4 encR (List.map ofQ l))), (2, (.ref 0 0)), (4, (.ref 1 0)), (5, (vin 1))]) (B' := [(0, some (bx (encR (RRat.mk (RInt.mk false []) (RInt.mk false []))))), (1, some (bx (encR (ofQ (l.getD 0 0)))))]) ?_ ?_
    · skip
      exact sM (vin 1) rfl rfl <| sNil rfl rfl
    refine pwp_block ?_
    refine pwp_loop (α := Nat × Rat) (fun (i, b) => ⟨[(0, (vl 26 4 encR (List.map ofQ l))), (2, (.ref 0 0)), (4, (.ref 1 0)), (5, (vin i))], [(0, some (bx (encR (RRat.mk (RInt.mk false []) (RInt.mk false []))))), (1, some (bx (encR (ofQ b))))]⟩) (fun (i, b) => i ≤ l.length ∧ b = mnL (l.getD 0 0) (l.take i)) (fun (i, b) => l.length - i) (1, l.getD 0 0) (weak rfl rfl) ⟨by omega, least_start h0⟩ ?_
    rintro ⟨i, b⟩ ⟨hi, hv⟩
    have hbq : QL b 4294967296 := by rw [hv]; exact ql_mnL (ql_getD hl (by decide) 0) (fun q hq => hl q (List.mem_of_mem_take hq))
    refine pwp_seq ?_
    refine pwp_seq ?_
    refine pwp_S (S' := [(0, (vl 26 4 encR (List.map ofQ l))), (2, (.ref 0 0)), (4, (.ref 1 0)), (5, (vin i)), (17, (vb (decide (((i : Nat) : Int) < ((l.length : Nat) : Int)))))]) (B' := [(0, some (bx (encR (RRat.mk (RInt.mk false []) (RInt.mk false []))))), (1, some (bx (encR (ofQ b))))]) ?_ ?_
    · skip
      exact sM (vin i) rfl rfl <| sM (vl 26 4 encR (List.map ofQ l)) rfl rfl <| sE' (e_ln (r := ((l.length : Nat) : Int)) rfl el69 rfl (by simp)) rfl <| sE' (e_lss rfl rfl rfl) rfl <| sNil rfl rfl
    refine pwp_cond (b := decide (((i : Nat) : Int) < ((l.length : Nat) : Int))) rfl (fun h2 => ?_) (fun h2 => ?_)
    · skip
      replace h2 := of_decide_eq_true h2
      refine pwp_skip ?_
      refine pwp_seq ?_
      refine pwp_block ?_
      refine pwp_seq ?_
      refine pwp_D (S' := [(0, (vl 26 4 encR (List.map ofQ l))), (2, (.ref 0 0)), (4, (.ref 1 0)), (5, (vin i)), (26, (vb (decide ((cmpQ (l.getD i 0) b) < 0))))]) (B' := [(0, some (bx (encR (RRat.mk (RInt.mk false []) (RInt.mk false []))))), (1, some (bx (encR (ofQ b))))]) mo (by kernel_rfl) ?_ ?_
      · skip
        exact dM (vl 26 4 encR (List.map ofQ l)) rfl rfl rfl <| dM (vin i) rfl rfl rfl <| dE' (e_ixs (j := i) (cs := (Dat.cells (encR (ofQ (l.getD i 0))))) rfl el69 rfl rfl (by omega) (ixmap _ ofQ _ _ 0 (by omega))) rfl rfl <| dE' (e_lca (cs := (Dat.cells (encR (ofQ (l.getD i 0))))) (y := (.d (encR (ofQ (l.getD i 0))))) rfl rfl sh26 rfl rfl) rfl rfl <| dR (e_lda (cs := (bx (encR (ofQ b)))) (y := (.d (encR (ofQ b)))) rfl rfl sh26 rfl rfl) rfl rfl rfl rfl rfl <| dE' (e_cl (g_compare (ofQ (l.getD i 0)) (ofQ b) (l.getD i 0) b (qok_of (ql_getD hl (by decide) i)) (qok_of hbq)) rfl rfl rfl) rfl rfl <| dE' (e_lss rfl rfl rfl) rfl rfl <| dNil rfl rfl (by kernel_rfl)
      refine pwp_cond (b := decide ((cmpQ (l.getD i 0) b) < 0)) rfl (fun h3 => ?_) (fun h3 => ?_)
      · skip
        replace h3 := of_decide_eq_true h3
        refine pwp_S (S' := [(0, (vl 26 4 encR (List.map ofQ l))), (2, (.ref 0 0)), (4, (.ref 1 0)), (5, (vin i))]) (B' := [(0, some (bx (encR (RRat.mk (RInt.mk false []) (RInt.mk false []))))), (1, some (bx (encR (ofQ (l.getD i 0)))))]) ?_ ?_
        · skip
          exact sM (vl 26 4 encR (List.map ofQ l)) rfl rfl <| sM (vin i) rfl rfl <| sE' (e_ixs (j := i) (cs := (Dat.cells (encR (ofQ (l.getD i 0))))) rfl el69 rfl rfl (by omega) (ixmap _ ofQ _ _ 0 (by omega))) rfl <| sE' (e_lca (cs := (Dat.cells (encR (ofQ (l.getD i 0))))) (y := (.d (encR (ofQ (l.getD i 0))))) rfl rfl sh26 rfl rfl) rfl <| sE' (e_cl (g_value (ofQ (l.getD i 0)) (l.getD i 0) (qok_up (qok_of (ql_getD hl (by decide) i)) (by decide))) rfl rfl rfl) rfl <| sT (t_std (d := (encR (ofQ (l.getD i 0)))) (cs := (bx (encR (ofQ (l.getD i 0))))) rfl rfl rfl sh26 rfl rfl rfl rfl) rfl rfl rfl <| sNil rfl rfl
        refine pwp_S (S' := [(0, (vl 26 4 encR (List.map ofQ l))), (2, (.ref 0 0)), (4, (.ref 1 0)), (5, (vin (i + 1)))]) (B' := [(0, some (bx (encR (RRat.mk (RInt.mk false []) (RInt.mk false []))))), (1, some (bx (encR (ofQ (l.getD i 0)))))]) ?_ ?_
        · skip
          exact sM (vin i) rfl rfl <| sE' (e_add (r := (((i + 1) : Nat) : Int)) rfl rfl rfl (wi64 (by omega) (by omega) (by omega))) rfl <| sM (vin (i + 1)) rfl rfl <| sNil rfl rfl
        exact ⟨(i + 1, l.getD i 0), (weak rfl rfl), ⟨by omega, mnL_lt (by omega) hv h3⟩, (by first | omega | (dsimp only; omega))⟩
      · skip
        replace h3 := of_decide_eq_false h3
        refine pwp_skip ?_
        refine pwp_S (S' := [(0, (vl 26 4 encR (List.map ofQ l))), (2, (.ref 0 0)), (4, (.ref 1 0)), (5, (vin (i + 1)))]) (B' := [(0, some (bx (encR (RRat.mk (RInt.mk false []) (RInt.mk false []))))), (1, some (bx (encR (ofQ b))))]) ?_ ?_
        · skip
          exact sM (vin i) rfl rfl <| sE' (e_add (r := (((i + 1) : Nat) : Int)) rfl rfl rfl (wi64 (by omega) (by omega) (by omega))) rfl <| sM (vin (i + 1)) rfl rfl <| sNil rfl rfl
        exact ⟨(i + 1, b), (weak rfl rfl), ⟨by omega, mnL_ge (by omega) hv h3⟩, (by first | omega | (dsimp only; omega))⟩
    · skip
      replace h2 := of_decide_eq_false h2
      have hie : i = l.length := by omega
      rw [hie, List.take_length] at hv
      refine pwp_exit ?_
      refine pwp_seq ?_
      refine pwp_S (S' := [(2, (.ref 0 0)), (3, (vin 0))]) (B' := [(0, some (bx (encR (ofQ b))))]) ?_ ?_
      · skip
        exact sR (e_lda (cs := (bx (encR (ofQ b)))) (y := (.d (encR (ofQ b)))) rfl rfl sh26 rfl rfl) rfl rfl rfl rfl <| sT (t_std (d := (encR (ofQ b))) (cs := (bx (encR (ofQ b)))) rfl rfl rfl sh26 rfl rfl rfl rfl) rfl rfl rfl <| sM (vin 0) rfl rfl <| sNil rfl rfl
      refine pwp_ret ⟨_, (res_a (cs := (bx (encR (ofQ b)))) (d := (encR (ofQ b))) rfl rfl sh26 rfl rfl (.tmp (d := (.val (.int .i64 (0)))) rfl .nil)), ?_⟩
      rw [hv]; rfl

theorem g_greatest (l : List Rat) (hl : ∀ q ∈ l, QL q 4294967296) (h0 : 0 < l.length) (hb : l.length ≤ 1000000) : Takes Tryz.prog 69 [(.sl 26 4 (List.map encR (List.map ofQ l)))] (.tup [(encR (ofQ (mxL (l.getD 0 0) l))), (.val (.int .i64 (0)))]) := by
  refine fn_intro Tryz.func69 rfl cb69 rfl ?_
  show PWp _ _ _ _ ⟨[(0, (vl 26 4 encR (List.map ofQ l)))], []⟩
  refine pwp_seq ?_
  refine pwp_S (S' := [(0, (vl 26 4 encR (List.map ofQ l))), (2, (.ref 0 0))]) (B' := [(0, some (bx (encR (RRat.mk (RInt.mk false []) (RInt.mk false [])))))]) ?_ ?_
  · skip
    exact sN (n_al (cs := (bx (encR (RRat.mk (RInt.mk false []) (RInt.mk false []))))) 0 rfl ze26 zo26 rfl) rfl rfl rfl rfl <| sM (vin 0) rfl rfl <| sNil rfl rfl
  refine pwp_seq ?_
  refine pwp_S (S' := [(0, (vl 26 4 encR (List.map ofQ l))), (2, (.ref 0 0)), (4, (.own 1 26 4 0))]) (B' := [(0, some (bx (encR (RRat.mk (RInt.mk false []) (RInt.mk false []))))), (1, some (bxs encR []))]) ?_ ?_
  · skip
    exact sN (n_bso (pd := []) (es := List.map encR []) (cs := (bxs encR [])) 1 rfl el69 ze26 zo26 rfl rfl rfl rfl rfl rfl rfl rfl rfl) rfl rfl rfl rfl <| sM (.own 1 26 4 0) rfl rfl <| sNil rfl rfl
  refine pwp_seq ?_
  refine pwp_seq ?_
  refine pwp_S (S' := [(0, (vl 26 4 encR (List.map ofQ l))), (2, (.ref 0 0)), (4, (.own 1 26 4 0)), (5, (vin 0))]) (B' := [(0, some (bx (encR (RRat.mk (RInt.mk false []) (RInt.mk false []))))), (1, some (bxs encR []))]) ?_ ?_
  · skip
    exact sM (vin 0) rfl rfl <| sNil rfl rfl
  refine pwp_block ?_
  refine pwp_loop (α := Nat × List RRat) (fun (i, o) => ⟨[(0, (vl 26 4 encR (List.map ofQ l))), (2, (.ref 0 0)), (4, (.own 1 26 4 o.length)), (5, (vin i))], [(0, some (bx (encR (RRat.mk (RInt.mk false []) (RInt.mk false []))))), (1, some (bxs encR o))]⟩) (fun (i, o) => i ≤ l.length ∧ o = List.map ofQ (List.map (fun q => -q) (l.take i))) (fun (i, o) => l.length - i) (0, []) (weak rfl rfl) ⟨Nat.zero_le _, rfl⟩ ?_
  rintro ⟨i, o⟩ ⟨hi, hv⟩
  have hol : o.length = i := by rw [hv]; simp; omega
  refine pwp_seq ?_
  refine pwp_seq ?_
  refine pwp_S (S' := [(0, (vl 26 4 encR (List.map ofQ l))), (2, (.ref 0 0)), (4, (.own 1 26 4 o.length)), (5, (vin i)), (12, (vb (decide (((i : Nat) : Int) < ((l.length : Nat) : Int)))))]) (B' := [(0, some (bx (encR (RRat.mk (RInt.mk false []) (RInt.mk false []))))), (1, some (bxs encR o))]) ?_ ?_
  · skip
    exact sM (vin i) rfl rfl <| sM (vl 26 4 encR (List.map ofQ l)) rfl rfl <| sE' (e_ln (r := ((l.length : Nat) : Int)) rfl el69 rfl (by simp)) rfl <| sE' (e_lss rfl rfl rfl) rfl <| sNil rfl rfl
  refine pwp_cond (b := decide (((i : Nat) : Int) < ((l.length : Nat) : Int))) rfl (fun h1 => ?_) (fun h1 => ?_)
  · skip
    replace h1 := of_decide_eq_true h1
    refine pwp_skip ?_
    refine pwp_seq ?_
    refine pwp_block ?_
    refine pwp_S (S' := [(0, (vl 26 4 encR (List.map ofQ l))), (2, (.ref 0 0)), (4, (.own 1 26 4 ((o ++ [(ofQ (-(l.getD i 0)))]).length))), (5, (vin i))]) (B' := [(0, some (bx (encR (RRat.mk (RInt.mk false []) (RInt.mk false []))))), (1, some (bxs encR (o ++ [(ofQ (-(l.getD i 0)))])))]) ?_ ?_
    · skip
      exact sM (.own 1 26 4 o.length) rfl rfl <| sM (vl 26 4 encR (List.map ofQ l)) rfl rfl <| sM (vin i) rfl rfl <| sE' (e_ixs (j := i) (cs := (Dat.cells (encR (ofQ (l.getD i 0))))) rfl el69 rfl rfl (by omega) (ixmap _ ofQ _ _ 0 (by omega))) rfl <| sE' (e_lca (cs := (Dat.cells (encR (ofQ (l.getD i 0))))) (y := (.d (encR (ofQ (l.getD i 0))))) rfl rfl sh26 rfl rfl) rfl <| sE' (e_cl (g_neg (ofQ (l.getD i 0)) (l.getD i 0) (qok_up (qok_of (ql_getD hl (by decide) i)) (by decide))) rfl rfl rfl) rfl <| sE' (e_bsl (pd := [(0, (encR (ofQ (-(l.getD i 0)))))]) (es := List.map encR [(ofQ (-(l.getD i 0)))]) rfl el69 ze26 zo26 rfl rfl rfl rfl rfl rfl rfl rfl) rfl <| sAppS (m2 := (o ++ [(ofQ (-(l.getD i 0)))]).length) encR o [(ofQ (-(l.getD i 0)))] (fun _ => rfl) rfl rfl rfl rfl el69 ze26 rfl by26 rfl rfl rfl rfl (by simp only [List.length_cons, List.length_nil, maxLen]; omega) (by first | omega | (simp only [List.length_cons, List.length_nil]; omega)) (by repeat first | exact clr_nil _ | refine clr_self ?_ | refine clr_map ?_ | refine clr_bx ?_ | refine clr_d ?_) (by simp; try omega) <| sM (.own 1 26 4 ((o ++ [(ofQ (-(l.getD i 0)))]).length)) rfl rfl <| sNil rfl rfl
    refine pwp_S (S' := [(0, (vl 26 4 encR (List.map ofQ l))), (2, (.ref 0 0)), (4, (.own 1 26 4 ((o ++ [(ofQ (-(l.getD i 0)))]).length))), (5, (vin (i + 1)))]) (B' := [(0, some (bx (encR (RRat.mk (RInt.mk false []) (RInt.mk false []))))), (1, some (bxs encR (o ++ [(ofQ (-(l.getD i 0)))])))]) ?_ ?_
    · skip
      exact sM (vin i) rfl rfl <| sE' (e_add (r := (((i + 1) : Nat) : Int)) rfl rfl rfl (wi64 (by omega) (by omega) (by omega))) rfl <| sM (vin (i + 1)) rfl rfl <| sNil rfl rfl
    exact ⟨(i + 1, o ++ [ofQ (-(l.getD i 0))]), (weak rfl rfl), ⟨by omega, neg_push (by omega) hv⟩, (by first | omega | (dsimp only; omega))⟩
  · skip
    replace h1 := of_decide_eq_false h1
    have hie : i = l.length := by omega
    rw [hie, List.take_length] at hv
    subst hv
    refine pwp_exit ?_
    refine pwp_seq ?_
    refine pwp_sim (publish (t := 4) (k := 1) (es := List.map encR (List.map ofQ (List.map (fun q => -q) l))) rfl rfl (pubs_cells _ _ (fun _ => rfl)) (map_len _ _ rfl) (pubs_take encR (List.map ofQ (List.map (fun q => -q) l)) (fun _ => rfl) rfl)) ?_
    refine pwp_sim (weak (l := [(0, (vl 26 4 encR (List.map ofQ l))), (2, (.ref 0 0)), (4, (vl 26 4 encR (List.map ofQ (List.map (fun q => -q) l)))), (5, (vin i)), (12, (vb (decide (((i : Nat) : Int) < ((l.length : Nat) : Int)))))]) (b := [(0, some (bx (encR (RRat.mk (RInt.mk false []) (RInt.mk false [])))))]) rfl rfl) ?_
    refine pwp_S (S' := [(2, (.ref 0 0)), (6, (.ref 2 0)), (7, (vi 0))]) (B' := [(0, some (bx (encR (RRat.mk (RInt.mk false []) (RInt.mk false []))))), (2, some (bx (encR (ofQ (mnL ((List.map (fun q => -q) l).getD 0 0) (List.map (fun q => -q) l))))))]) ?_ ?_
    · skip
      exact sM (vl 26 4 encR (List.map ofQ (List.map (fun q => -q) l))) rfl rfl <| sE' (e_cl (g_least (List.map (fun q => -q) l) (ql_negs hl) (by first | exact h0 | simpa using h0) (by first | exact hb | simpa using hb)) rfl rfl rfl) rfl <| sM (.d (.tup [(encR (ofQ (mnL ((List.map (fun q => -q) l).getD 0 0) (List.map (fun q => -q) l)))), (.val (.int .i64 (0)))])) rfl rfl <| sE' (e_exD (d := (encR (ofQ (mnL ((List.map (fun q => -q) l).getD 0 0) (List.map (fun q => -q) l))))) rfl rfl rfl) rfl <| sE' (e_exD (d := (.val (.int .i64 (0)))) rfl rfl rfl) rfl <| sN (n_al (cs := (bx (encR (RRat.mk (RInt.mk false []) (RInt.mk false []))))) 2 rfl ze26 zo26 rfl) rfl rfl rfl rfl <| sT (t_std (d := (encR (ofQ (mnL ((List.map (fun q => -q) l).getD 0 0) (List.map (fun q => -q) l))))) (cs := (bx (encR (ofQ (mnL ((List.map (fun q => -q) l).getD 0 0) (List.map (fun q => -q) l)))))) rfl rfl rfl sh26 rfl rfl rfl rfl) rfl rfl rfl <| sM (vi 0) rfl rfl <| sNil rfl rfl
    refine pwp_seq ?_
    refine pwp_seq ?_
    refine pwp_S (S' := [(2, (.ref 0 0)), (6, (.ref 2 0)), (7, (vi 0)), (29, (vb false))]) (B' := [(0, some (bx (encR (RRat.mk (RInt.mk false []) (RInt.mk false []))))), (2, some (bx (encR (ofQ (mnL ((List.map (fun q => -q) l).getD 0 0) (List.map (fun q => -q) l))))))]) ?_ ?_
    · skip
      exact sM (vi 0) rfl rfl <| sE' (e_neq rfl rfl rfl) rfl <| sNil rfl rfl
    refine pwp_cond (b := false) rfl (fun h => by cases h) (fun _ => ?_)
    refine pwp_skip ?_
    refine pwp_seq ?_
    refine pwp_S (S' := [(2, (.ref 0 0)), (3, (vin 0))]) (B' := [(0, some (bx (encR (ofQ (-(mnL ((List.map (fun q => -q) l).getD 0 0) (List.map (fun q => -q) l)))))))]) ?_ ?_
    · skip
      exact sR (e_lda (cs := (bx (encR (ofQ (mnL ((List.map (fun q => -q) l).getD 0 0) (List.map (fun q => -q) l)))))) (y := (.d (encR (ofQ (mnL ((List.map (fun q => -q) l).getD 0 0) (List.map (fun q => -q) l)))))) rfl rfl sh26 rfl rfl) rfl rfl rfl rfl <| sE' (e_cl (g_neg (ofQ (mnL ((List.map (fun q => -q) l).getD 0 0) (List.map (fun q => -q) l))) (mnL ((List.map (fun q => -q) l).getD 0 0) (List.map (fun q => -q) l)) (qok_up (qok_of (ql_mnL (ql_getD (ql_negs hl) (by decide) 0) (ql_negs hl))) (by decide))) rfl rfl rfl) rfl <| sT (t_std (d := (encR (ofQ (-(mnL ((List.map (fun q => -q) l).getD 0 0) (List.map (fun q => -q) l)))))) (cs := (bx (encR (ofQ (-(mnL ((List.map (fun q => -q) l).getD 0 0) (List.map (fun q => -q) l))))))) rfl rfl rfl sh26 rfl rfl rfl rfl) rfl rfl rfl <| sM (vin 0) rfl rfl <| sNil rfl rfl
    refine pwp_ret ⟨_, (res_a (cs := (bx (encR (ofQ (-(mnL ((List.map (fun q => -q) l).getD 0 0) (List.map (fun q => -q) l))))))) (d := (encR (ofQ (-(mnL ((List.map (fun q => -q) l).getD 0 0) (List.map (fun q => -q) l)))))) rfl rfl sh26 rfl rfl (.tmp (d := (.val (.int .i64 (0)))) rfl .nil)), ?_⟩
    rw [← great_eq h0]; rfl

theorem h_spanned (p : Rat) (qs : List Rat) (hl : ∀ q ∈ p :: qs, QL q 4294967296) (hb : (p :: qs).length ≤ 1000000) : Takes Tryz.prog 71 [(.sl 26 4 (List.map encR (List.map ofQ (p :: qs))))] (encG (RRng.mk (ofQ (mnL p qs)) (ofQ (mxL p qs)))) := by
  have h0 : 0 < (p :: qs).length := by simp
  refine fn_intro Tryz.func71 rfl cb71 rfl ?_
  show PWp _ _ _ _ ⟨[(0, (vl 26 4 encR (List.map ofQ (p :: qs))))], []⟩
  refine pwp_seq ?_
  refine pwp_S (S' := [(0, (vl 26 4 encR (List.map ofQ (p :: qs)))), (2, (.ref 0 0))]) (B' := [(0, some (bx (encG (RRng.mk (RRat.mk (RInt.mk false []) (RInt.mk false [])) (RRat.mk (RInt.mk false []) (RInt.mk false []))))))]) ?_ ?_
  · skip
    exact sN (n_al (cs := (bx (encG (RRng.mk (RRat.mk (RInt.mk false []) (RInt.mk false [])) (RRat.mk (RInt.mk false []) (RInt.mk false [])))))) 0 rfl ze28 zo28 rfl) rfl rfl rfl rfl <| sNil rfl rfl
  refine pwp_seq ?_
  refine pwp_S (S' := [(0, (vl 26 4 encR (List.map ofQ (p :: qs)))), (2, (.ref 0 0)), (3, (.ref 1 0))]) (B' := [(0, some (bx (encG (RRng.mk (RRat.mk (RInt.mk false []) (RInt.mk false [])) (RRat.mk (RInt.mk false []) (RInt.mk false [])))))), (1, some (bx (encR (ofQ (mnL ((p :: qs).getD 0 0) (p :: qs))))))]) ?_ ?_
  · skip
    exact sM (vl 26 4 encR (List.map ofQ (p :: qs))) rfl rfl <| sE' (e_cl (g_least (p :: qs) hl (by first | exact h0 | simpa using h0) (by first | exact hb | simpa using hb)) rfl rfl rfl) rfl <| sM (.d (.tup [(encR (ofQ (mnL ((p :: qs).getD 0 0) (p :: qs)))), (.val (.int .i64 (0)))])) rfl rfl <| sE' (e_exD (d := (encR (ofQ (mnL ((p :: qs).getD 0 0) (p :: qs))))) rfl rfl rfl) rfl <| sE' (e_exD (d := (.val (.int .i64 (0)))) rfl rfl rfl) rfl <| sN (n_al (cs := (bx (encR (RRat.mk (RInt.mk false []) (RInt.mk false []))))) 1 rfl ze26 zo26 rfl) rfl rfl rfl rfl <| sT (t_std (d := (encR (ofQ (mnL ((p :: qs).getD 0 0) (p :: qs))))) (cs := (bx (encR (ofQ (mnL ((p :: qs).getD 0 0) (p :: qs)))))) rfl rfl rfl sh26 rfl rfl rfl rfl) rfl rfl rfl <| sM (vi 0) rfl rfl <| sNil rfl rfl
  refine pwp_seq ?_
  refine pwp_S (S' := [(2, (.ref 0 0)), (3, (.ref 1 0)), (5, (.ref 2 0))]) (B' := [(0, some (bx (encG (RRng.mk (RRat.mk (RInt.mk false []) (RInt.mk false [])) (RRat.mk (RInt.mk false []) (RInt.mk false [])))))), (1, some (bx (encR (ofQ (mnL ((p :: qs).getD 0 0) (p :: qs)))))), (2, some (bx (encR (ofQ (mxL ((p :: qs).getD 0 0) (p :: qs))))))]) ?_ ?_
  · skip
    exact sM (vl 26 4 encR (List.map ofQ (p :: qs))) rfl rfl <| sE' (e_cl (g_greatest (p :: qs) hl h0 hb) rfl rfl rfl) rfl <| sM (.d (.tup [(encR (ofQ (mxL ((p :: qs).getD 0 0) (p :: qs)))), (.val (.int .i64 (0)))])) rfl rfl <| sE' (e_exD (d := (encR (ofQ (mxL ((p :: qs).getD 0 0) (p :: qs))))) rfl rfl rfl) rfl <| sE' (e_exD (d := (.val (.int .i64 (0)))) rfl rfl rfl) rfl <| sN (n_al (cs := (bx (encR (RRat.mk (RInt.mk false []) (RInt.mk false []))))) 2 rfl ze26 zo26 rfl) rfl rfl rfl rfl <| sT (t_std (d := (encR (ofQ (mxL ((p :: qs).getD 0 0) (p :: qs))))) (cs := (bx (encR (ofQ (mxL ((p :: qs).getD 0 0) (p :: qs)))))) rfl rfl rfl sh26 rfl rfl rfl rfl) rfl rfl rfl <| sM (vi 0) rfl rfl <| sNil rfl rfl
  refine pwp_seq ?_
  refine pwp_S (S' := [(2, (.ref 0 0))]) (B' := [(0, some (bx (encG (RRng.mk (ofQ (mnL ((p :: qs).getD 0 0) (p :: qs))) (ofQ (mxL ((p :: qs).getD 0 0) (p :: qs)))))))]) ?_ ?_
  · skip
    exact sR (e_lda (cs := (bx (encR (ofQ (mnL ((p :: qs).getD 0 0) (p :: qs)))))) (y := (.d (encR (ofQ (mnL ((p :: qs).getD 0 0) (p :: qs)))))) rfl rfl sh26 rfl rfl) rfl rfl rfl rfl <| sR (e_lda (cs := (bx (encR (ofQ (mxL ((p :: qs).getD 0 0) (p :: qs)))))) (y := (.d (encR (ofQ (mxL ((p :: qs).getD 0 0) (p :: qs)))))) rfl rfl sh26 rfl rfl) rfl rfl rfl rfl <| sE' (e_bld (pd := [(0, (encR (ofQ (mnL ((p :: qs).getD 0 0) (p :: qs))))), (1, (encR (ofQ (mxL ((p :: qs).getD 0 0) (p :: qs)))))]) (y := (encG (RRng.mk (ofQ (mnL ((p :: qs).getD 0 0) (p :: qs))) (ofQ (mxL ((p :: qs).getD 0 0) (p :: qs)))))) rfl pl28 ze28 zo28 rfl rfl rfl rfl) rfl <| sT (t_std (d := (encG (RRng.mk (ofQ (mnL ((p :: qs).getD 0 0) (p :: qs))) (ofQ (mxL ((p :: qs).getD 0 0) (p :: qs)))))) (cs := (bx (encG (RRng.mk (ofQ (mnL ((p :: qs).getD 0 0) (p :: qs))) (ofQ (mxL ((p :: qs).getD 0 0) (p :: qs))))))) rfl rfl rfl sh28 rfl rfl rfl rfl) rfl rfl rfl <| sNil rfl rfl
  refine pwp_ret ⟨_, (res_a (cs := (bx (encG (RRng.mk (ofQ (mnL ((p :: qs).getD 0 0) (p :: qs))) (ofQ (mxL ((p :: qs).getD 0 0) (p :: qs))))))) (d := (encG (RRng.mk (ofQ (mnL ((p :: qs).getD 0 0) (p :: qs))) (ofQ (mxL ((p :: qs).getD 0 0) (p :: qs)))))) rfl rfl sh28 rfl rfl .nil), ?_⟩
  rw [← mnL_self p qs, ← mxL_self p qs]; rfl

theorem h_point (p : Rat) (hp : QL p 4294967296) : Takes Tryz.prog 24 [(encR (ofQ p))] (encG (RRng.mk (ofQ p) (ofQ p))) := by
  refine fn_intro Tryz.func24 rfl cb24 rfl ?_
  show PWp _ _ _ _ ⟨[(0, (.d (encR (ofQ p))))], []⟩
  refine pwp_seq ?_
  refine pwp_S (S' := [(1, (.ref 0 0)), (2, (.ref 1 0))]) (B' := [(0, some (bx (encR (ofQ p)))), (1, some (bx (encG (RRng.mk (RRat.mk (RInt.mk false []) (RInt.mk false [])) (RRat.mk (RInt.mk false []) (RInt.mk false []))))))]) ?_ ?_
  · skip
    exact sN (n_bx (d := (encR (ofQ p))) (cs := (bx (encR (ofQ p)))) 0 rfl rfl rfl rfl) rfl rfl rfl rfl <| sN (n_al (cs := (bx (encG (RRng.mk (RRat.mk (RInt.mk false []) (RInt.mk false [])) (RRat.mk (RInt.mk false []) (RInt.mk false [])))))) 1 rfl ze28 zo28 rfl) rfl rfl rfl rfl <| sNil rfl rfl
  refine pwp_seq ?_
  refine pwp_S (S' := [(2, (.ref 1 0))]) (B' := [(1, some (bx (encG (RRng.mk (ofQ p) (ofQ p)))))]) ?_ ?_
  · skip
    exact sR (e_lda (cs := (bx (encR (ofQ p)))) (y := (.d (encR (ofQ p)))) rfl rfl sh26 rfl rfl) rfl rfl rfl rfl <| sR (e_lda (cs := (bx (encR (ofQ p)))) (y := (.d (encR (ofQ p)))) rfl rfl sh26 rfl rfl) rfl rfl rfl rfl <| sE' (e_bld (pd := [(0, (encR (ofQ p))), (1, (encR (ofQ p)))]) (y := (encG (RRng.mk (ofQ p) (ofQ p)))) rfl pl28 ze28 zo28 rfl rfl rfl rfl) rfl <| sT (t_std (d := (encG (RRng.mk (ofQ p) (ofQ p)))) (cs := (bx (encG (RRng.mk (ofQ p) (ofQ p))))) rfl rfl rfl sh28 rfl rfl rfl rfl) rfl rfl rfl <| sNil rfl rfl
  refine pwp_ret ⟨_, (res_a (cs := (bx (encG (RRng.mk (ofQ p) (ofQ p))))) (d := (encG (RRng.mk (ofQ p) (ofQ p)))) rfl rfl sh28 rfl rfl .nil), ?_⟩
  rfl

theorem h_hull (p q r s : Rat) (hp : QL p 4294967296) (hq : QL q 4294967296) (hr : QL r 4294967296) (hs : QL s 4294967296) : Takes Tryz.prog 17 [(encG (RRng.mk (ofQ p) (ofQ q))), (encG (RRng.mk (ofQ r) (ofQ s)))] (encG (RRng.mk (ofQ (mnL p [q, r, s])) (ofQ (mxL p [q, r, s])))) := by
  refine fn_intro Tryz.func17 rfl cb17 rfl ?_
  show PWp _ _ _ _ ⟨[(0, (.d (encG (RRng.mk (ofQ p) (ofQ q))))), (1, (.d (encG (RRng.mk (ofQ r) (ofQ s)))))], []⟩
  refine pwp_seq ?_
  refine pwp_S (S' := [(2, (.ref 0 0)), (3, (.ref 1 0)), (4, (.ref 2 0))]) (B' := [(0, some (bx (encG (RRng.mk (ofQ p) (ofQ q))))), (1, some (bx (encG (RRng.mk (ofQ r) (ofQ s))))), (2, some (bx (encG (RRng.mk (RRat.mk (RInt.mk false []) (RInt.mk false [])) (RRat.mk (RInt.mk false []) (RInt.mk false []))))))]) ?_ ?_
  · skip
    exact sN (n_bx (d := (encG (RRng.mk (ofQ p) (ofQ q)))) (cs := (bx (encG (RRng.mk (ofQ p) (ofQ q))))) 0 rfl rfl rfl rfl) rfl rfl rfl rfl <| sN (n_bx (d := (encG (RRng.mk (ofQ r) (ofQ s)))) (cs := (bx (encG (RRng.mk (ofQ r) (ofQ s))))) 1 rfl rfl rfl rfl) rfl rfl rfl rfl <| sN (n_al (cs := (bx (encG (RRng.mk (RRat.mk (RInt.mk false []) (RInt.mk false [])) (RRat.mk (RInt.mk false []) (RInt.mk false [])))))) 2 rfl ze28 zo28 rfl) rfl rfl rfl rfl <| sNil rfl rfl
  refine pwp_seq ?_
  refine pwp_S (S' := [(4, (.ref 2 0))]) (B' := [(2, some (bx (encG (RRng.mk (ofQ (mnL p [q, r, s])) (ofQ (mxL p [q, r, s]))))))]) ?_ ?_
  · skip
    exact sE' (e_fldr (q := 0) rfl rfl fo28_0 rfl) rfl <| sR (e_lda (cs := (bx (encG (RRng.mk (ofQ p) (ofQ q))))) (y := (.d (encR (ofQ p)))) rfl rfl sh26 rfl rfl) rfl rfl rfl rfl <| sE' (e_fldr (q := 4) rfl rfl fo28_1 rfl) rfl <| sR (e_lda (cs := (bx (encG (RRng.mk (ofQ p) (ofQ q))))) (y := (.d (encR (ofQ q)))) rfl rfl sh26 rfl rfl) rfl rfl rfl rfl <| sE' (e_fldr (q := 0) rfl rfl fo28_0 rfl) rfl <| sR (e_lda (cs := (bx (encG (RRng.mk (ofQ r) (ofQ s))))) (y := (.d (encR (ofQ r)))) rfl rfl sh26 rfl rfl) rfl rfl rfl rfl <| sE' (e_fldr (q := 4) rfl rfl fo28_1 rfl) rfl <| sR (e_lda (cs := (bx (encG (RRng.mk (ofQ r) (ofQ s))))) (y := (.d (encR (ofQ s)))) rfl rfl sh26 rfl rfl) rfl rfl rfl rfl <| sE' (e_bsl (pd := [(0, (encR (ofQ p))), (1, (encR (ofQ q))), (2, (encR (ofQ r))), (3, (encR (ofQ s)))]) (es := List.map encR [(ofQ p), (ofQ q), (ofQ r), (ofQ s)]) rfl el69 ze26 zo26 rfl rfl rfl rfl rfl rfl rfl rfl) rfl <| sE' (e_cl (h_spanned p [q, r, s] (List.forall_mem_cons.2 ⟨hp, (List.forall_mem_cons.2 ⟨hq, (List.forall_mem_cons.2 ⟨hr, (List.forall_mem_cons.2 ⟨hs, (fun a h => by cases h)⟩)⟩)⟩)⟩) (by simp)) rfl rfl rfl) rfl <| sT (t_std (d := (encG (RRng.mk (ofQ (mnL p [q, r, s])) (ofQ (mxL p [q, r, s]))))) (cs := (bx (encG (RRng.mk (ofQ (mnL p [q, r, s])) (ofQ (mxL p [q, r, s])))))) rfl rfl rfl sh28 rfl rfl rfl rfl) rfl rfl rfl <| sNil rfl rfl
  refine pwp_ret ⟨_, (res_a (cs := (bx (encG (RRng.mk (ofQ (mnL p [q, r, s])) (ofQ (mxL p [q, r, s])))))) (d := (encG (RRng.mk (ofQ (mnL p [q, r, s])) (ofQ (mxL p [q, r, s]))))) rfl rfl sh28 rfl rfl .nil), ?_⟩
  rfl

theorem i_inside (p q r s : Rat) (hp : QL p 1073741824) (hq : QL q 1073741824) (hr : QL r 1073741824) (hs : QL s 1073741824) (hpq : p ≤ q) (hrs : r ≤ s) : Takes Tryz.prog 18 [(encG (RRng.mk (ofQ p) (ofQ q))), (encG (RRng.mk (ofQ r) (ofQ s)))] (.val (.bool ((insQ p q r s)))) := by
  refine fn_intro Tryz.func18 rfl cb18 rfl ?_
  show PWp _ _ _ _ ⟨[(0, (.d (encG (RRng.mk (ofQ p) (ofQ q))))), (1, (.d (encG (RRng.mk (ofQ r) (ofQ s)))))], []⟩
  refine pwp_seq ?_
  refine pwp_S (S' := [(2, (.ref 0 0)), (3, (.ref 1 0))]) (B' := [(0, some (bx (encG (RRng.mk (ofQ p) (ofQ q))))), (1, some (bx (encG (RRng.mk (ofQ r) (ofQ s)))))]) ?_ ?_
  · skip
    exact sN (n_bx (d := (encG (RRng.mk (ofQ p) (ofQ q)))) (cs := (bx (encG (RRng.mk (ofQ p) (ofQ q))))) 0 rfl rfl rfl rfl) rfl rfl rfl rfl <| sN (n_bx (d := (encG (RRng.mk (ofQ r) (ofQ s)))) (cs := (bx (encG (RRng.mk (ofQ r) (ofQ s))))) 1 rfl rfl rfl rfl) rfl rfl rfl rfl <| sM (vb false) rfl rfl <| sNil rfl rfl
  refine pwp_seq ?_
  refine pwp_S (S' := [(4, (vb ((true && decide ((cmpQ r p) ≤ 0)) && decide ((cmpQ q s) ≤ 0))))]) (B' := []) ?_ ?_
  · skip
    refine sR (e_lda (cs := (bx (encG (RRng.mk (ofQ p) (ofQ q))))) (y := (.d (encG (RRng.mk (ofQ p) (ofQ q))))) rfl rfl sh28 rfl rfl) rfl rfl rfl rfl <| sR (e_lda (cs := (bx (encG (RRng.mk (ofQ r) (ofQ s))))) (y := (.d (encG (RRng.mk (ofQ r) (ofQ s))))) rfl rfl sh28 rfl rfl) rfl rfl rfl rfl <| sE' (e_bsl (pd := [(0, (encG (RRng.mk (ofQ p) (ofQ q)))), (1, (encG (RRng.mk (ofQ r) (ofQ s))))]) (es := List.map encG [(RRng.mk (ofQ p) (ofQ q)), (RRng.mk (ofQ r) (ofQ s))]) rfl el57 ze28 zo28 rfl rfl rfl rfl rfl rfl rfl rfl) rfl <| sE' (e_cl (by have h := i_valids [(RRng.mk (ofQ p) (ofQ q)), (RRng.mk (ofQ r) (ofQ s))] (List.forall_mem_cons.2 ⟨(gok_up (⟨qok_self (qok_up (qok_of hp) (by decide : 1073741824 ≤ 1073741824)), qok_self (qok_up (qok_of hq) (by decide : 1073741824 ≤ 1073741824))⟩) (by decide)), (List.forall_mem_cons.2 ⟨(gok_up (⟨qok_self (qok_up (qok_of hr) (by decide : 1073741824 ≤ 1073741824)), qok_self (qok_up (qok_of hs) (by decide : 1073741824 ≤ 1073741824))⟩) (by decide)), (fun a h => by cases h)⟩)⟩) (by simp); rw [show List.all [(RRng.mk (ofQ p) (ofQ q)), (RRng.mk (ofQ r) (ofQ s))] validG = true from by simp [validG_of hpq, validG_of hrs]] at h; exact h) rfl rfl rfl) rfl <| sM (vb true) rfl rfl <| sE' (e_fldr (q := 0) rfl rfl fo28_0 rfl) rfl <| sR (e_lda (cs := (bx (encG (RRng.mk (ofQ r) (ofQ s))))) (y := (.d (encR (ofQ r)))) rfl rfl sh26 rfl rfl) rfl rfl rfl rfl <| sE' (e_fldr (q := 0) rfl rfl fo28_0 rfl) rfl <| sR (e_lda (cs := (bx (encG (RRng.mk (ofQ p) (ofQ q))))) (y := (.d (encR (ofQ p)))) rfl rfl sh26 rfl rfl) rfl rfl rfl rfl <| sE' (e_cl (f_compare (ofQ r) (ofQ p) r p (qok_up (qok_of hr) (by decide)) (qok_up (qok_of hp) (by decide))) rfl rfl rfl) rfl <| sE' (e_leq rfl rfl rfl) rfl <| sE' (e_pkta rfl rfl rfl) rfl <| sM (vb (true && decide ((cmpQ r p) ≤ 0))) rfl rfl <| ?_
    rcases hb1 : (true && decide ((cmpQ r p) ≤ 0)) with _ | _
    · skip
      exact sK rfl rfl rfl <| sK rfl rfl rfl <| sK rfl rfl rfl <| sK rfl rfl rfl <| sK rfl rfl rfl <| sK rfl rfl rfl <| sE' (e_pkf (z := (vb false)) rfl rfl rfl) rfl <| sM (vb false) rfl rfl <| sNil rfl rfl
    · skip
      exact sE' (e_fldr (q := 4) rfl rfl fo28_1 rfl) rfl <| sR (e_lda (cs := (bx (encG (RRng.mk (ofQ p) (ofQ q))))) (y := (.d (encR (ofQ q)))) rfl rfl sh26 rfl rfl) rfl rfl rfl rfl <| sE' (e_fldr (q := 4) rfl rfl fo28_1 rfl) rfl <| sR (e_lda (cs := (bx (encG (RRng.mk (ofQ r) (ofQ s))))) (y := (.d (encR (ofQ s)))) rfl rfl sh26 rfl rfl) rfl rfl rfl rfl <| sE' (e_cl (f_compare (ofQ q) (ofQ s) q s (qok_up (qok_of hq) (by decide)) (qok_up (qok_of hs) (by decide))) rfl rfl rfl) rfl <| sE' (e_leq rfl rfl rfl) rfl <| sE' (e_pkta rfl rfl rfl) rfl <| sM (vb (true && decide ((cmpQ q s) ≤ 0))) rfl rfl <| sNil rfl rfl
  refine pwp_ret ⟨_, (.tmp (d := (.val (.bool (((true && decide ((cmpQ r p) ≤ 0)) && decide ((cmpQ q s) ≤ 0)))))) rfl .nil), ?_⟩
  rw [← insQ_eq]; rfl

end Go.Proofs.YtcdgmcfkhkikbaaGreat
