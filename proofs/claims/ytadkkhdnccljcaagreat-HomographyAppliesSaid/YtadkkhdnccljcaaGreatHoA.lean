/-
  Functions walked: each takes its data to what is said. Printed by a program of ours.
-/
import Derived.Test.YtadkkhdnccljcaaGreatSemI
import Derived.Test.YtadkkhdnccljcaaGreatHom
import Derived.Test.YtadkkhdnccljcaaGreatAvo
namespace Go.Proofs.YtadkkhdnccljcaaGreat
open Go.Fid
set_option maxRecDepth 4000
set_option linter.unusedVariables false
set_option linter.unusedSimpArgs false
theorem cb45 : callB Tryz.prog 45 = true := by kernel_rfl
theorem cb96 : callB Tryz.prog 96 = true := by kernel_rfl
theorem cb112 : callB Tryz.prog 112 = true := by kernel_rfl
theorem cb113 : callB Tryz.prog 113 = true := by kernel_rfl
theorem cb123 : callB Tryz.prog 123 = true := by kernel_rfl
theorem cb129 : callB Tryz.prog 129 = true := by kernel_rfl
theorem el40 : elemB Tryz.prog 40 = some (30, 2) := by kernel_rfl
theorem d_divisorV (tau : Nat) (l : List RInt) (zs : List Int) (hl : LOk 1000000 l zs) (hb : l.length ≤ 1000000) (hv : List.all l validI = false) : Takes Tryz.prog 123 [(.sl tau 2 (List.map encI l))] (.tup [(encI (RInt.mk false [])), (.val (.bool (false)))]) := by
  have hlen := hl.len
  refine fn_intro Tryz.func123 rfl cb123 rfl ?_
  show PWp _ _ _ _ ⟨[(0, (vl tau 2 encI l))], []⟩
  refine pwp_seq <| pwp_S (S' := [(0, (vl tau 2 encI l)), (2, (.ref 0 0))]) (B' := [(0, some (bx (encI (RInt.mk false []))))]) ?_ ?_
  · exact sN (n_al (cs := (bx (encI (RInt.mk false [])))) 0 rfl ze30 zo30 rfl) rfl rfl rfl rfl <| sM (vb false) rfl rfl <| sNil rfl rfl
  refine pwp_seq <| pwp_S (S' := [(0, (vl tau 2 encI l)), (2, (.ref 0 0)), (4, (.ref 1 0))]) (B' := [(0, some (bx (encI (RInt.mk false [])))), (1, some (bx (encI (ofZ 0))))]) ?_ ?_
  · exact sE' (e_cl (t_of 0 (by decide) (by decide)) rfl rfl rfl) rfl <| sN (n_al (cs := (bx (encI (RInt.mk false [])))) 1 rfl ze30 zo30 rfl) rfl rfl rfl rfl <| sT (t_std (d := (encI (ofZ 0))) (cs := (bx (encI (ofZ 0)))) rfl rfl rfl sh30 rfl rfl rfl rfl) rfl rfl rfl <| sNil rfl rfl
  refine pwp_seq <| pwp_S (S' := [(0, (vl tau 2 encI l)), (2, (.ref 0 0)), (4, (.ref 1 0)), (5, (vin 0))]) (B' := [(0, some (bx (encI (RInt.mk false [])))), (1, some (bx (encI (ofZ 0))))]) ?_ ?_
  · exact sM (vin 0) rfl rfl <| sNil rfl rfl
  refine pwp_seq <| pwp_seq <| pwp_S (S' := [(2, (.ref 0 0)), (4, (.ref 1 0)), (5, (vin 0)), (9, (vl tau 2 encI l)), (10, (vin l.length)), (11, (vin 0))]) (B' := [(0, some (bx (encI (RInt.mk false [])))), (1, some (bx (encI (ofZ 0))))]) ?_ ?_
  · exact sM (vl tau 2 encI l) rfl rfl <| sE' (e_ln (r := ((l.length : Nat) : Int)) rfl el40 rfl (by simp)) rfl <| sM (vin 0) rfl rfl <| sNil rfl rfl
  refine pwp_block <| pwp_loop (α := Nat × Nat × Int) (fun (i, g, s) => ⟨[(2, (.ref 0 0)), (4, (.ref 1 0)), (5, (vi s)), (9, (vl tau 2 encI l)), (10, (vin l.length)), (11, (vin i))], [(0, some (bx (encI (RInt.mk false [])))), (1, some (bx (encI (ofZ ((g : Nat) : Int)))))]⟩) (fun (i, g, s) => i ≤ l.length ∧ g = gcdL (zs.take i) ∧ s = sgnL (zs.take i) ∧ (l.take i).all validI = true) (fun (i, g, s) => l.length - i) (0, 0, 0) (weak rfl rfl) ⟨Nat.zero_le _, rfl, rfl, by simp⟩ ?_
  rintro ⟨i, g, s⟩ ⟨hi, hgv, hsv, hal⟩
  have hg : IOk (ofZ ((g : Nat) : Int)) ((g : Nat) : Int) 1000000 := by rw [hgv]; exact gcdL_takelen hl.all i
  refine pwp_seq <| pwp_S (S' := [(2, (.ref 0 0)), (4, (.ref 1 0)), (5, (vi s)), (9, (vl tau 2 encI l)), (10, (vin l.length)), (11, (vin i)), (12, (vb (decide (((i : Nat) : Int) < ((l.length : Nat) : Int)))))]) (B' := [(0, some (bx (encI (RInt.mk false [])))), (1, some (bx (encI (ofZ ((g : Nat) : Int)))))]) ?_ ?_
  · exact sE' (e_lss rfl rfl rfl) rfl <| sNil rfl rfl
  refine pwp_seq <| pwp_cond (b := decide (((i : Nat) : Int) < ((l.length : Nat) : Int))) rfl (fun h1 => ?_) (fun h1 => ?_)
  · replace h1 := of_decide_eq_true h1
    refine pwp_skip <| pwp_seq <| pwp_block <| pwp_seq <| pwp_S (S' := [(2, (.ref 0 0)), (4, (.ref 1 0)), (5, (vi s)), (7, (.ref 2 0)), (9, (vl tau 2 encI l)), (10, (vin l.length)), (11, (vin i))]) (B' := [(0, some (bx (encI (RInt.mk false [])))), (1, some (bx (encI (ofZ ((g : Nat) : Int))))), (2, some (bx (encI (l.getD i (RInt.mk false [])))))]) ?_ ?_
    · exact sE' (e_ixs (j := i) (cs := (Dat.cells (encI (l.getD i (RInt.mk false []))))) rfl el40 rfl rfl (by omega) (ixm _ _ _ _ (by omega))) rfl <| sE' (e_lca (cs := (Dat.cells (encI (l.getD i (RInt.mk false []))))) (y := (.d (encI (l.getD i (RInt.mk false []))))) rfl rfl sh30 rfl rfl) rfl <| sN (n_al (cs := (bx (encI (RInt.mk false [])))) 2 rfl ze30 zo30 rfl) rfl rfl rfl rfl <| sT (t_std (d := (encI (l.getD i (RInt.mk false [])))) (cs := (bx (encI (l.getD i (RInt.mk false []))))) rfl rfl rfl sh30 rfl rfl rfl rfl) rfl rfl rfl <| sNil rfl rfl
    refine pwp_seq <| pwp_seq <| pwp_S (S' := [(2, (.ref 0 0)), (4, (.ref 1 0)), (5, (vi s)), (7, (.ref 2 0)), (9, (vl tau 2 encI l)), (10, (vin l.length)), (11, (vin i)), (17, (vb (!(validI (l.getD i (RInt.mk false []))))))]) (B' := [(0, some (bx (encI (RInt.mk false [])))), (1, some (bx (encI (ofZ ((g : Nat) : Int))))), (2, some (bx (encI (l.getD i (RInt.mk false [])))))]) ?_ ?_
    · exact sR (e_lda (cs := (bx (encI (l.getD i (RInt.mk false []))))) (y := (.d (encI (l.getD i (RInt.mk false []))))) rfl rfl sh30 rfl rfl) rfl rfl rfl rfl <| sE' (e_cl (t_valid (l.getD i (RInt.mk false [])) (Nat.le_trans (hl.get i).l (by decide))) rfl rfl rfl) rfl <| sE' (e_not rfl rfl) rfl <| sNil rfl rfl
    refine pwp_cond (b := !(validI (l.getD i (RInt.mk false [])))) rfl (fun h2 => ?_) (fun h2 => ?_)
    · refine pwp_seq <| pwp_S (S' := [(2, (.ref 0 0)), (3, (vb false))]) (B' := [(0, some (bx (encI (RInt.mk false []))))]) ?_ ?_
      · exact sE' (e_bld (pd := []) (y := (encI (RInt.mk false []))) rfl pl30 ze30 zo30 rfl rfl rfl rfl) rfl <| sT (t_std (d := (encI (RInt.mk false []))) (cs := (bx (encI (RInt.mk false [])))) rfl rfl rfl sh30 rfl rfl rfl rfl) rfl rfl rfl <| sM (vb false) rfl rfl <| sNil rfl rfl
      refine pwp_ret ⟨_, (res_a (cs := (bx (encI (RInt.mk false [])))) (d := (encI (RInt.mk false []))) rfl rfl sh30 rfl rfl (.tmp (d := (.val (.bool (false)))) rfl .nil)), ?_⟩
      rfl
    · have hvi : validI (l.getD i ⟨false, []⟩) = true := by simpa using h2
      refine pwp_skip <| pwp_seq <| pwp_S (S' := [(2, (.ref 0 0)), (4, (.ref 1 0)), (5, (vi s)), (7, (.ref 2 0)), (9, (vl tau 2 encI l)), (10, (vin l.length)), (11, (vin i))]) (B' := [(0, some (bx (encI (RInt.mk false [])))), (1, some (bx (encI (ofZ ((Int.gcd ((g : Nat) : Int) (zs.getD i 0) : Nat) : Int))))), (2, some (bx (encI (l.getD i (RInt.mk false [])))))]) ?_ ?_
      · exact sR (e_lda (cs := (bx (encI (ofZ ((g : Nat) : Int))))) (y := (.d (encI (ofZ ((g : Nat) : Int))))) rfl rfl sh30 rfl rfl) rfl rfl rfl rfl <| sR (e_lda (cs := (bx (encI (l.getD i (RInt.mk false []))))) (y := (.d (encI (l.getD i (RInt.mk false []))))) rfl rfl sh30 rfl rfl) rfl rfl rfl rfl <| sE' (e_cl (s_gcd hg (hl.get i) (by decide) (by decide)) rfl rfl rfl) rfl <| sT (t_std (d := (encI (ofZ ((Int.gcd ((g : Nat) : Int) (zs.getD i 0) : Nat) : Int)))) (cs := (bx (encI (ofZ ((Int.gcd ((g : Nat) : Int) (zs.getD i 0) : Nat) : Int))))) rfl rfl rfl sh30 rfl rfl rfl rfl) rfl rfl rfl <| sNil rfl rfl
      refine pwp_seq <| pwp_S (S' := [(2, (.ref 0 0)), (4, (.ref 1 0)), (5, (vi s)), (7, (.ref 2 0)), (9, (vl tau 2 encI l)), (10, (vin l.length)), (11, (vin i)), (23, (vb (s == 0)))]) (B' := [(0, some (bx (encI (RInt.mk false [])))), (1, some (bx (encI (ofZ ((Int.gcd ((g : Nat) : Int) (zs.getD i 0) : Nat) : Int))))), (2, some (bx (encI (l.getD i (RInt.mk false [])))))]) ?_ ?_
      · exact sM (vi s) rfl rfl <| sE' (e_eql rfl rfl rfl) rfl <| sNil rfl rfl
      refine pwp_cond (b := (s == 0)) rfl (fun h3 => ?_) (fun h3 => ?_)
      · replace h3 := eq_of_beq h3
        refine pwp_S (S' := [(2, (.ref 0 0)), (4, (.ref 1 0)), (5, (vi (signI (zs.getD i 0)))), (9, (vl tau 2 encI l)), (10, (vin l.length)), (11, (vin i))]) (B' := [(0, some (bx (encI (RInt.mk false [])))), (1, some (bx (encI (ofZ ((Int.gcd ((g : Nat) : Int) (zs.getD i 0) : Nat) : Int)))))]) ?_ ?_
        · exact sR (e_lda (cs := (bx (encI (l.getD i (RInt.mk false []))))) (y := (.d (encI (l.getD i (RInt.mk false []))))) rfl rfl sh30 rfl rfl) rfl rfl rfl rfl <| sE' (e_cl (s_sign (hl.get i) (by decide)) rfl rfl rfl) rfl <| sM (vi (signI (zs.getD i 0))) rfl rfl <| sNil rfl rfl
        refine pwp_S (S' := [(2, (.ref 0 0)), (4, (.ref 1 0)), (5, (vi (signI (zs.getD i 0)))), (9, (vl tau 2 encI l)), (10, (vin l.length)), (11, (vin (i + 1)))]) (B' := [(0, some (bx (encI (RInt.mk false [])))), (1, some (bx (encI (ofZ ((Int.gcd ((g : Nat) : Int) (zs.getD i 0) : Nat) : Int)))))]) ?_ ?_
        · exact sE' (e_add (r := (((i + 1) : Nat) : Int)) rfl rfl rfl (wi64 (by omega) (by omega) (by omega))) rfl <| sM (vin (i + 1)) rfl rfl <| sNil rfl rfl
        exact ⟨(i + 1, Int.gcd ((g : Nat) : Int) (zs.getD i 0), signI (zs.getD i 0)), (weak rfl rfl), ⟨by omega, by rw [hgv]; exact (gcdL_step (by omega)).symm, sgnL_step0 (by omega) hsv h3, all_take (d := ⟨false, []⟩) (by omega) hal hvi⟩, (by first | omega | (dsimp only; omega))⟩
      · replace h3 := ne_of_beq_false h3
        refine pwp_skip <| pwp_S (S' := [(2, (.ref 0 0)), (4, (.ref 1 0)), (5, (vi s)), (9, (vl tau 2 encI l)), (10, (vin l.length)), (11, (vin (i + 1)))]) (B' := [(0, some (bx (encI (RInt.mk false [])))), (1, some (bx (encI (ofZ ((Int.gcd ((g : Nat) : Int) (zs.getD i 0) : Nat) : Int)))))]) ?_ ?_
        · exact sE' (e_add (r := (((i + 1) : Nat) : Int)) rfl rfl rfl (wi64 (by omega) (by omega) (by omega))) rfl <| sM (vin (i + 1)) rfl rfl <| sNil rfl rfl
        exact ⟨(i + 1, Int.gcd ((g : Nat) : Int) (zs.getD i 0), s), (weak rfl rfl), ⟨by omega, by rw [hgv]; exact (gcdL_step (by omega)).symm, sgnL_step1 (by omega) hsv h3, all_take (d := ⟨false, []⟩) (by omega) hal hvi⟩, (by first | omega | (dsimp only; omega))⟩
  · replace h1 := of_decide_eq_false h1
    exfalso; have hie : i = l.length := (by omega); rw [hie, List.take_length, hv] at hal; cases hal
theorem d_divisor (tau : Nat) (l : List RInt) (zs : List Int) (hl : LOk 1000000 l zs) (hb : l.length ≤ 1000000) (hv : List.all l validI = true) : Takes Tryz.prog 123 [(.sl tau 2 (List.map encI l))] (.tup [(encI (ofZ (dvL zs))), (.val (.bool ((sgnL zs != 0))))]) := by
  have hlen := hl.len
  refine fn_intro Tryz.func123 rfl cb123 rfl ?_
  show PWp _ _ _ _ ⟨[(0, (vl tau 2 encI l))], []⟩
  refine pwp_seq <| pwp_S (S' := [(0, (vl tau 2 encI l)), (2, (.ref 0 0))]) (B' := [(0, some (bx (encI (RInt.mk false []))))]) ?_ ?_
  · exact sN (n_al (cs := (bx (encI (RInt.mk false [])))) 0 rfl ze30 zo30 rfl) rfl rfl rfl rfl <| sM (vb false) rfl rfl <| sNil rfl rfl
  refine pwp_seq <| pwp_S (S' := [(0, (vl tau 2 encI l)), (2, (.ref 0 0)), (4, (.ref 1 0))]) (B' := [(0, some (bx (encI (RInt.mk false [])))), (1, some (bx (encI (ofZ 0))))]) ?_ ?_
  · exact sE' (e_cl (t_of 0 (by decide) (by decide)) rfl rfl rfl) rfl <| sN (n_al (cs := (bx (encI (RInt.mk false [])))) 1 rfl ze30 zo30 rfl) rfl rfl rfl rfl <| sT (t_std (d := (encI (ofZ 0))) (cs := (bx (encI (ofZ 0)))) rfl rfl rfl sh30 rfl rfl rfl rfl) rfl rfl rfl <| sNil rfl rfl
  refine pwp_seq <| pwp_S (S' := [(0, (vl tau 2 encI l)), (2, (.ref 0 0)), (4, (.ref 1 0)), (5, (vin 0))]) (B' := [(0, some (bx (encI (RInt.mk false [])))), (1, some (bx (encI (ofZ 0))))]) ?_ ?_
  · exact sM (vin 0) rfl rfl <| sNil rfl rfl
  refine pwp_seq <| pwp_seq <| pwp_S (S' := [(2, (.ref 0 0)), (4, (.ref 1 0)), (5, (vin 0)), (9, (vl tau 2 encI l)), (10, (vin l.length)), (11, (vin 0))]) (B' := [(0, some (bx (encI (RInt.mk false [])))), (1, some (bx (encI (ofZ 0))))]) ?_ ?_
  · exact sM (vl tau 2 encI l) rfl rfl <| sE' (e_ln (r := ((l.length : Nat) : Int)) rfl el40 rfl (by simp)) rfl <| sM (vin 0) rfl rfl <| sNil rfl rfl
  refine pwp_block <| pwp_loop (α := Nat × Nat × Int) (fun (i, g, s) => ⟨[(2, (.ref 0 0)), (4, (.ref 1 0)), (5, (vi s)), (9, (vl tau 2 encI l)), (10, (vin l.length)), (11, (vin i))], [(0, some (bx (encI (RInt.mk false [])))), (1, some (bx (encI (ofZ ((g : Nat) : Int)))))]⟩) (fun (i, g, s) => i ≤ l.length ∧ g = gcdL (zs.take i) ∧ s = sgnL (zs.take i)) (fun (i, g, s) => l.length - i) (0, 0, 0) (weak rfl rfl) ⟨Nat.zero_le _, rfl, rfl⟩ ?_
  rintro ⟨i, g, s⟩ ⟨hi, hgv, hsv⟩
  have hg : IOk (ofZ ((g : Nat) : Int)) ((g : Nat) : Int) 1000000 := by rw [hgv]; exact gcdL_takelen hl.all i
  refine pwp_seq <| pwp_S (S' := [(2, (.ref 0 0)), (4, (.ref 1 0)), (5, (vi s)), (9, (vl tau 2 encI l)), (10, (vin l.length)), (11, (vin i)), (12, (vb (decide (((i : Nat) : Int) < ((l.length : Nat) : Int)))))]) (B' := [(0, some (bx (encI (RInt.mk false [])))), (1, some (bx (encI (ofZ ((g : Nat) : Int)))))]) ?_ ?_
  · exact sE' (e_lss rfl rfl rfl) rfl <| sNil rfl rfl
  refine pwp_seq <| pwp_cond (b := decide (((i : Nat) : Int) < ((l.length : Nat) : Int))) rfl (fun h1 => ?_) (fun h1 => ?_)
  · replace h1 := of_decide_eq_true h1
    refine pwp_skip <| pwp_seq <| pwp_block <| pwp_seq <| pwp_S (S' := [(2, (.ref 0 0)), (4, (.ref 1 0)), (5, (vi s)), (7, (.ref 2 0)), (9, (vl tau 2 encI l)), (10, (vin l.length)), (11, (vin i))]) (B' := [(0, some (bx (encI (RInt.mk false [])))), (1, some (bx (encI (ofZ ((g : Nat) : Int))))), (2, some (bx (encI (l.getD i (RInt.mk false [])))))]) ?_ ?_
    · exact sE' (e_ixs (j := i) (cs := (Dat.cells (encI (l.getD i (RInt.mk false []))))) rfl el40 rfl rfl (by omega) (ixm _ _ _ _ (by omega))) rfl <| sE' (e_lca (cs := (Dat.cells (encI (l.getD i (RInt.mk false []))))) (y := (.d (encI (l.getD i (RInt.mk false []))))) rfl rfl sh30 rfl rfl) rfl <| sN (n_al (cs := (bx (encI (RInt.mk false [])))) 2 rfl ze30 zo30 rfl) rfl rfl rfl rfl <| sT (t_std (d := (encI (l.getD i (RInt.mk false [])))) (cs := (bx (encI (l.getD i (RInt.mk false []))))) rfl rfl rfl sh30 rfl rfl rfl rfl) rfl rfl rfl <| sNil rfl rfl
    refine pwp_seq <| pwp_seq <| pwp_S (S' := [(2, (.ref 0 0)), (4, (.ref 1 0)), (5, (vi s)), (7, (.ref 2 0)), (9, (vl tau 2 encI l)), (10, (vin l.length)), (11, (vin i)), (17, (vb false))]) (B' := [(0, some (bx (encI (RInt.mk false [])))), (1, some (bx (encI (ofZ ((g : Nat) : Int))))), (2, some (bx (encI (l.getD i (RInt.mk false [])))))]) ?_ ?_
    · exact sR (e_lda (cs := (bx (encI (l.getD i (RInt.mk false []))))) (y := (.d (encI (l.getD i (RInt.mk false []))))) rfl rfl sh30 rfl rfl) rfl rfl rfl rfl <| sE' (e_bk (c := true) (e_cl (t_valid (l.getD i (RInt.mk false [])) (Nat.le_trans (hl.get i).l (by decide))) rfl rfl rfl) (all_getD hv (by omega))) rfl <| sE' (e_not (b := true) rfl rfl) rfl <| sNil rfl rfl
    refine pwp_cond (b := false) rfl (fun h => by cases h) (fun _ => ?_)
    refine pwp_skip <| pwp_seq <| pwp_S (S' := [(2, (.ref 0 0)), (4, (.ref 1 0)), (5, (vi s)), (7, (.ref 2 0)), (9, (vl tau 2 encI l)), (10, (vin l.length)), (11, (vin i))]) (B' := [(0, some (bx (encI (RInt.mk false [])))), (1, some (bx (encI (ofZ ((Int.gcd ((g : Nat) : Int) (zs.getD i 0) : Nat) : Int))))), (2, some (bx (encI (l.getD i (RInt.mk false [])))))]) ?_ ?_
    · exact sR (e_lda (cs := (bx (encI (ofZ ((g : Nat) : Int))))) (y := (.d (encI (ofZ ((g : Nat) : Int))))) rfl rfl sh30 rfl rfl) rfl rfl rfl rfl <| sR (e_lda (cs := (bx (encI (l.getD i (RInt.mk false []))))) (y := (.d (encI (l.getD i (RInt.mk false []))))) rfl rfl sh30 rfl rfl) rfl rfl rfl rfl <| sE' (e_cl (s_gcd hg (hl.get i) (by decide) (by decide)) rfl rfl rfl) rfl <| sT (t_std (d := (encI (ofZ ((Int.gcd ((g : Nat) : Int) (zs.getD i 0) : Nat) : Int)))) (cs := (bx (encI (ofZ ((Int.gcd ((g : Nat) : Int) (zs.getD i 0) : Nat) : Int))))) rfl rfl rfl sh30 rfl rfl rfl rfl) rfl rfl rfl <| sNil rfl rfl
    refine pwp_seq <| pwp_S (S' := [(2, (.ref 0 0)), (4, (.ref 1 0)), (5, (vi s)), (7, (.ref 2 0)), (9, (vl tau 2 encI l)), (10, (vin l.length)), (11, (vin i)), (23, (vb (s == 0)))]) (B' := [(0, some (bx (encI (RInt.mk false [])))), (1, some (bx (encI (ofZ ((Int.gcd ((g : Nat) : Int) (zs.getD i 0) : Nat) : Int))))), (2, some (bx (encI (l.getD i (RInt.mk false [])))))]) ?_ ?_
    · exact sM (vi s) rfl rfl <| sE' (e_eql rfl rfl rfl) rfl <| sNil rfl rfl
    refine pwp_cond (b := (s == 0)) rfl (fun h2 => ?_) (fun h2 => ?_)
    · replace h2 := eq_of_beq h2
      refine pwp_S (S' := [(2, (.ref 0 0)), (4, (.ref 1 0)), (5, (vi (signI (zs.getD i 0)))), (9, (vl tau 2 encI l)), (10, (vin l.length)), (11, (vin i))]) (B' := [(0, some (bx (encI (RInt.mk false [])))), (1, some (bx (encI (ofZ ((Int.gcd ((g : Nat) : Int) (zs.getD i 0) : Nat) : Int)))))]) ?_ ?_
      · exact sR (e_lda (cs := (bx (encI (l.getD i (RInt.mk false []))))) (y := (.d (encI (l.getD i (RInt.mk false []))))) rfl rfl sh30 rfl rfl) rfl rfl rfl rfl <| sE' (e_cl (s_sign (hl.get i) (by decide)) rfl rfl rfl) rfl <| sM (vi (signI (zs.getD i 0))) rfl rfl <| sNil rfl rfl
      refine pwp_S (S' := [(2, (.ref 0 0)), (4, (.ref 1 0)), (5, (vi (signI (zs.getD i 0)))), (9, (vl tau 2 encI l)), (10, (vin l.length)), (11, (vin (i + 1)))]) (B' := [(0, some (bx (encI (RInt.mk false [])))), (1, some (bx (encI (ofZ ((Int.gcd ((g : Nat) : Int) (zs.getD i 0) : Nat) : Int)))))]) ?_ ?_
      · exact sE' (e_add (r := (((i + 1) : Nat) : Int)) rfl rfl rfl (wi64 (by omega) (by omega) (by omega))) rfl <| sM (vin (i + 1)) rfl rfl <| sNil rfl rfl
      exact ⟨(i + 1, Int.gcd ((g : Nat) : Int) (zs.getD i 0), signI (zs.getD i 0)), (weak rfl rfl), ⟨by omega, by rw [hgv]; exact (gcdL_step (by omega)).symm, sgnL_step0 (by omega) hsv h2⟩, (by first | omega | (dsimp only; omega))⟩
    · replace h2 := ne_of_beq_false h2
      refine pwp_skip <| pwp_S (S' := [(2, (.ref 0 0)), (4, (.ref 1 0)), (5, (vi s)), (9, (vl tau 2 encI l)), (10, (vin l.length)), (11, (vin (i + 1)))]) (B' := [(0, some (bx (encI (RInt.mk false [])))), (1, some (bx (encI (ofZ ((Int.gcd ((g : Nat) : Int) (zs.getD i 0) : Nat) : Int)))))]) ?_ ?_
      · exact sE' (e_add (r := (((i + 1) : Nat) : Int)) rfl rfl rfl (wi64 (by omega) (by omega) (by omega))) rfl <| sM (vin (i + 1)) rfl rfl <| sNil rfl rfl
      exact ⟨(i + 1, Int.gcd ((g : Nat) : Int) (zs.getD i 0), s), (weak rfl rfl), ⟨by omega, by rw [hgv]; exact (gcdL_step (by omega)).symm, sgnL_step1 (by omega) hsv h2⟩, (by first | omega | (dsimp only; omega))⟩
  · replace h1 := of_decide_eq_false h1
    have hie : i = l.length := by omega
    rw [hie, hlen, List.take_length] at hgv hsv
    refine pwp_exit <| pwp_seq <| pwp_seq <| pwp_S (S' := [(2, (.ref 0 0)), (4, (.ref 1 0)), (5, (vi s)), (28, (vb (decide (s < 0))))]) (B' := [(0, some (bx (encI (RInt.mk false [])))), (1, some (bx (encI (ofZ ((g : Nat) : Int)))))]) ?_ ?_
    · exact sM (vi s) rfl rfl <| sE' (e_lss rfl rfl rfl) rfl <| sNil rfl rfl
    refine pwp_cond (b := decide (s < 0)) rfl (fun h3 => ?_) (fun h3 => ?_)
    · replace h3 := of_decide_eq_true h3
      refine pwp_S (S' := [(2, (.ref 0 0)), (4, (.ref 1 0)), (5, (vi s))]) (B' := [(0, some (bx (encI (RInt.mk false [])))), (1, some (bx (encI (ofZ (-((g : Nat) : Int))))))]) ?_ ?_
      · exact sR (e_lda (cs := (bx (encI (ofZ ((g : Nat) : Int))))) (y := (.d (encI (ofZ ((g : Nat) : Int))))) rfl rfl sh30 rfl rfl) rfl rfl rfl rfl <| sE' (e_cl (s_neg hg (by decide)) rfl rfl rfl) rfl <| sT (t_std (d := (encI (ofZ (-((g : Nat) : Int))))) (cs := (bx (encI (ofZ (-((g : Nat) : Int)))))) rfl rfl rfl sh30 rfl rfl rfl rfl) rfl rfl rfl <| sNil rfl rfl
      refine pwp_seq <| pwp_S (S' := [(2, (.ref 0 0)), (3, (vb (s != 0)))]) (B' := [(0, some (bx (encI (ofZ (-((g : Nat) : Int))))))]) ?_ ?_
      · exact sR (e_lda (cs := (bx (encI (ofZ (-((g : Nat) : Int)))))) (y := (.d (encI (ofZ (-((g : Nat) : Int)))))) rfl rfl sh30 rfl rfl) rfl rfl rfl rfl <| sM (vi s) rfl rfl <| sE' (e_neq rfl rfl rfl) rfl <| sT (t_std (d := (encI (ofZ (-((g : Nat) : Int))))) (cs := (bx (encI (ofZ (-((g : Nat) : Int)))))) rfl rfl rfl sh30 rfl rfl rfl rfl) rfl rfl rfl <| sM (vb (s != 0)) rfl rfl <| sNil rfl rfl
      refine pwp_ret ⟨_, (res_a (cs := (bx (encI (ofZ (-((g : Nat) : Int)))))) (d := (encI (ofZ (-((g : Nat) : Int))))) rfl rfl sh30 rfl rfl (.tmp (d := (.val (.bool ((s != 0))))) rfl .nil)), ?_⟩
      rw [dv_neg hsv hgv h3, ← hsv]; rfl
    · replace h3 := of_decide_eq_false h3
      refine pwp_skip <| pwp_seq <| pwp_S (S' := [(2, (.ref 0 0)), (3, (vb (s != 0)))]) (B' := [(0, some (bx (encI (ofZ ((g : Nat) : Int)))))]) ?_ ?_
      · exact sR (e_lda (cs := (bx (encI (ofZ ((g : Nat) : Int))))) (y := (.d (encI (ofZ ((g : Nat) : Int))))) rfl rfl sh30 rfl rfl) rfl rfl rfl rfl <| sM (vi s) rfl rfl <| sE' (e_neq rfl rfl rfl) rfl <| sT (t_std (d := (encI (ofZ ((g : Nat) : Int)))) (cs := (bx (encI (ofZ ((g : Nat) : Int))))) rfl rfl rfl sh30 rfl rfl rfl rfl) rfl rfl rfl <| sM (vb (s != 0)) rfl rfl <| sNil rfl rfl
      refine pwp_ret ⟨_, (res_a (cs := (bx (encI (ofZ ((g : Nat) : Int))))) (d := (encI (ofZ ((g : Nat) : Int)))) rfl rfl sh30 rfl rfl (.tmp (d := (.val (.bool ((s != 0))))) rfl .nil)), ?_⟩
      rw [dv_pos hsv hgv h3, ← hsv]; rfl
theorem d_isredT (tau : Nat) (l : List RInt) (zs : List Int) (hl : LOk 1000000 l zs) (hb : l.length ≤ 1000000) (hv : List.all l validI = true) : Takes Tryz.prog 96 [(.sl tau 2 (List.map encI l))] (.val (.bool (((sgnL zs != 0) && (cmpI (dvL zs) 1 == 0))))) := by
  refine fn_intro Tryz.func96 rfl cb96 rfl ?_
  show PWp _ _ _ _ ⟨[(0, (vl tau 2 encI l))], []⟩
  refine pwp_seq <| pwp_S (S' := [(0, (vl tau 2 encI l))]) (B' := []) ?_ ?_
  · exact sM (vb false) rfl rfl <| sNil rfl rfl
  refine pwp_seq <| pwp_S (S' := [(3, (.ref 0 0)), (4, (vb (sgnL zs != 0)))]) (B' := [(0, some (bx (encI (ofZ (dvL zs)))))]) ?_ ?_
  · exact sM (vl tau 2 encI l) rfl rfl <| sE' (e_cl (d_divisor tau l zs hl hb hv) rfl rfl rfl) rfl <| sM (.d (.tup [(encI (ofZ (dvL zs))), (.val (.bool ((sgnL zs != 0))))])) rfl rfl <| sE' (e_exD (d := (encI (ofZ (dvL zs)))) rfl rfl rfl) rfl <| sE' (e_exD (d := (.val (.bool ((sgnL zs != 0))))) rfl rfl rfl) rfl <| sN (n_al (cs := (bx (encI (RInt.mk false [])))) 0 rfl ze30 zo30 rfl) rfl rfl rfl rfl <| sT (t_std (d := (encI (ofZ (dvL zs)))) (cs := (bx (encI (ofZ (dvL zs))))) rfl rfl rfl sh30 rfl rfl rfl rfl) rfl rfl rfl <| sM (vb (sgnL zs != 0)) rfl rfl <| sNil rfl rfl
  refine pwp_seq <| pwp_D (S' := [(2, (vb ((sgnL zs != 0) && ((cmpI (dvL zs) 1) == 0))))]) (B' := []) mo (by kernel_rfl) ?_ ?_
  · refine dM (vb (sgnL zs != 0)) rfl rfl rfl <| dM (vb (sgnL zs != 0)) rfl rfl rfl <| ?_
    rcases hb1 : (sgnL zs != 0) with _ | _
    · replace hb1 := bne_eq_false_iff_eq.1 hb1
      exact dK rfl rfl rfl <| dK rfl rfl rfl <| dK rfl rfl rfl <| dK rfl rfl rfl <| dE' (e_pkf (z := (vb false)) rfl rfl rfl) rfl rfl <| dM (vb false) rfl rfl rfl <| dNil rfl rfl (by kernel_rfl)
    · replace hb1 := bne_iff_ne.1 hb1
      exact dR (e_lda (cs := (bx (encI (ofZ (dvL zs))))) (y := (.d (encI (ofZ (dvL zs))))) rfl rfl sh30 rfl rfl) rfl rfl rfl rfl rfl <| dE' (e_cl (t_of 1 (by decide) (by decide)) rfl rfl rfl) rfl rfl <| dE' (e_cl (s_compare (iok_of (dvL_len (LOk.all (n := 1000000) hl))) (iok_small (z := 1) (by decide)) (by decide) (by decide)) rfl rfl rfl) rfl rfl <| dE' (e_eql rfl rfl rfl) rfl rfl <| dE' (e_pkta rfl rfl rfl) rfl rfl <| dM (vb (true && ((cmpI (dvL zs) 1) == 0))) rfl rfl rfl <| dNil rfl rfl (by kernel_rfl)
  refine pwp_ret ⟨_, (.tmp (d := (.val (.bool (((sgnL zs != 0) && ((cmpI (dvL zs) 1) == 0)))))) rfl .nil), ?_⟩
  rfl
theorem d_isredF (tau : Nat) (l : List RInt) (zs : List Int) (hl : LOk 1000000 l zs) (hb : l.length ≤ 1000000) (hv : List.all l validI = false) : Takes Tryz.prog 96 [(.sl tau 2 (List.map encI l))] (.val (.bool (false))) := by
  refine fn_intro Tryz.func96 rfl cb96 rfl ?_
  show PWp _ _ _ _ ⟨[(0, (vl tau 2 encI l))], []⟩
  refine pwp_seq <| pwp_S (S' := [(0, (vl tau 2 encI l))]) (B' := []) ?_ ?_
  · exact sM (vb false) rfl rfl <| sNil rfl rfl
  refine pwp_seq <| pwp_S (S' := [(3, (.ref 0 0)), (4, (vb false))]) (B' := [(0, some (bx (encI (RInt.mk false []))))]) ?_ ?_
  · exact sM (vl tau 2 encI l) rfl rfl <| sE' (e_cl (d_divisorV tau l zs hl hb hv) rfl rfl rfl) rfl <| sM (.d (.tup [(encI (RInt.mk false [])), (.val (.bool (false)))])) rfl rfl <| sE' (e_exD (d := (encI (RInt.mk false []))) rfl rfl rfl) rfl <| sE' (e_exD (d := (.val (.bool (false)))) rfl rfl rfl) rfl <| sN (n_al (cs := (bx (encI (RInt.mk false [])))) 0 rfl ze30 zo30 rfl) rfl rfl rfl rfl <| sT (t_std (d := (encI (RInt.mk false []))) (cs := (bx (encI (RInt.mk false [])))) rfl rfl rfl sh30 rfl rfl rfl rfl) rfl rfl rfl <| sM (vb false) rfl rfl <| sNil rfl rfl
  refine pwp_seq <| pwp_D (S' := [(2, (vb false))]) (B' := []) mo (by kernel_rfl) ?_ ?_
  · exact dM (vb false) rfl rfl rfl <| dM (vb false) rfl rfl rfl <| dK rfl rfl rfl <| dK rfl rfl rfl <| dK rfl rfl rfl <| dK rfl rfl rfl <| dE' (e_pkf (z := (vb false)) rfl rfl rfl) rfl rfl <| dM (vb false) rfl rfl rfl <| dNil rfl rfl (by kernel_rfl)
  refine pwp_ret ⟨_, (.tmp (d := (.val (.bool (false)))) rfl .nil), ?_⟩
  rfl
theorem d_isred (tau : Nat) (l : List RInt) (zs : List Int) (hl : LOk 1000000 l zs) (hb : l.length ≤ 1000000) : Takes Tryz.prog 96 [.sl tau 2 (List.map encI l)] (.val (.bool (redB l))) := by
  rcases hv : List.all l validI with _ | _
  · have h := d_isredF tau l zs hl hb hv
    rw [show redB l = false from by unfold redB; rw [hv]; rfl]; exact h
  · have h := d_isredT tau l zs hl hb hv
    rw [show redB l = ((sgnL zs != 0) && (cmpI (dvL zs) 1 == 0)) from redB_eq hl hv]; exact h
theorem d_sum (tau : Nat) (l : List RInt) (zs : List Int) (hl : LOk 4000000000 l zs) (hb : l.length ≤ 1000) : Takes Tryz.prog 129 [(.sl tau 2 (List.map encI l))] (encI (ofZ (sumL zs))) := by
  have hlen := hl.len
  refine fn_intro Tryz.func129 rfl cb129 rfl ?_
  show PWp _ _ _ _ ⟨[(0, (vl tau 2 encI l))], []⟩
  refine pwp_seq <| pwp_S (S' := [(0, (vl tau 2 encI l)), (2, (.ref 0 0))]) (B' := [(0, some (bx (encI (RInt.mk false []))))]) ?_ ?_
  · exact sN (n_al (cs := (bx (encI (RInt.mk false [])))) 0 rfl ze30 zo30 rfl) rfl rfl rfl rfl <| sNil rfl rfl
  refine pwp_seq <| pwp_S (S' := [(0, (vl tau 2 encI l)), (2, (.ref 0 0)), (3, (.ref 1 0))]) (B' := [(0, some (bx (encI (RInt.mk false [])))), (1, some (bx (encI (ofZ 0))))]) ?_ ?_
  · exact sE' (e_cl (t_of 0 (by decide) (by decide)) rfl rfl rfl) rfl <| sN (n_al (cs := (bx (encI (RInt.mk false [])))) 1 rfl ze30 zo30 rfl) rfl rfl rfl rfl <| sT (t_std (d := (encI (ofZ 0))) (cs := (bx (encI (ofZ 0)))) rfl rfl rfl sh30 rfl rfl rfl rfl) rfl rfl rfl <| sNil rfl rfl
  refine pwp_seq <| pwp_seq <| pwp_S (S' := [(2, (.ref 0 0)), (3, (.ref 1 0)), (7, (vl tau 2 encI l)), (8, (vin l.length)), (9, (vin 0))]) (B' := [(0, some (bx (encI (RInt.mk false [])))), (1, some (bx (encI (ofZ 0))))]) ?_ ?_
  · exact sM (vl tau 2 encI l) rfl rfl <| sE' (e_ln (r := ((l.length : Nat) : Int)) rfl el40 rfl (by simp)) rfl <| sM (vin 0) rfl rfl <| sNil rfl rfl
  refine pwp_block <| pwp_loop (α := Nat × Int) (fun (i, s) => ⟨[(2, (.ref 0 0)), (3, (.ref 1 0)), (7, (vl tau 2 encI l)), (8, (vin l.length)), (9, (vin i))], [(0, some (bx (encI (RInt.mk false [])))), (1, some (bx (encI (ofZ s))))]⟩) (fun (i, s) => i ≤ l.length ∧ s = sumL (zs.take i)) (fun (i, s) => l.length - i) (0, 0) (weak rfl rfl) ⟨Nat.zero_le _, rfl⟩ ?_
  rintro ⟨i, s⟩ ⟨hi, hsv⟩
  have hg : IOk (ofZ s) s 5000000000 := by rw [hsv]; exact iok_up (iok_of (sumL_len hl.all (by omega))) (by decide)
  refine pwp_seq <| pwp_S (S' := [(2, (.ref 0 0)), (3, (.ref 1 0)), (7, (vl tau 2 encI l)), (8, (vin l.length)), (9, (vin i)), (10, (vb (decide (((i : Nat) : Int) < ((l.length : Nat) : Int)))))]) (B' := [(0, some (bx (encI (RInt.mk false [])))), (1, some (bx (encI (ofZ s))))]) ?_ ?_
  · exact sE' (e_lss rfl rfl rfl) rfl <| sNil rfl rfl
  refine pwp_seq <| pwp_cond (b := decide (((i : Nat) : Int) < ((l.length : Nat) : Int))) rfl (fun h1 => ?_) (fun h1 => ?_)
  · replace h1 := of_decide_eq_true h1
    refine pwp_skip <| pwp_seq <| pwp_block <| pwp_seq <| pwp_S (S' := [(2, (.ref 0 0)), (3, (.ref 1 0)), (5, (.ref 2 0)), (7, (vl tau 2 encI l)), (8, (vin l.length)), (9, (vin i))]) (B' := [(0, some (bx (encI (RInt.mk false [])))), (1, some (bx (encI (ofZ s)))), (2, some (bx (encI (l.getD i (RInt.mk false [])))))]) ?_ ?_
    · exact sE' (e_ixs (j := i) (cs := (Dat.cells (encI (l.getD i (RInt.mk false []))))) rfl el40 rfl rfl (by omega) (ixm _ _ _ _ (by omega))) rfl <| sE' (e_lca (cs := (Dat.cells (encI (l.getD i (RInt.mk false []))))) (y := (.d (encI (l.getD i (RInt.mk false []))))) rfl rfl sh30 rfl rfl) rfl <| sN (n_al (cs := (bx (encI (RInt.mk false [])))) 2 rfl ze30 zo30 rfl) rfl rfl rfl rfl <| sT (t_std (d := (encI (l.getD i (RInt.mk false [])))) (cs := (bx (encI (l.getD i (RInt.mk false []))))) rfl rfl rfl sh30 rfl rfl rfl rfl) rfl rfl rfl <| sNil rfl rfl
    refine pwp_S (S' := [(2, (.ref 0 0)), (3, (.ref 1 0)), (7, (vl tau 2 encI l)), (8, (vin l.length)), (9, (vin i))]) (B' := [(0, some (bx (encI (RInt.mk false [])))), (1, some (bx (encI (ofZ (s + (zs.getD i 0))))))]) ?_ ?_
    · exact sR (e_lda (cs := (bx (encI (ofZ s)))) (y := (.d (encI (ofZ s)))) rfl rfl sh30 rfl rfl) rfl rfl rfl rfl <| sR (e_lda (cs := (bx (encI (l.getD i (RInt.mk false []))))) (y := (.d (encI (l.getD i (RInt.mk false []))))) rfl rfl sh30 rfl rfl) rfl rfl rfl rfl <| sE' (e_cl (s_add hg (hl.get i) (by decide) (by decide)) rfl rfl rfl) rfl <| sT (t_std (d := (encI (ofZ (s + (zs.getD i 0))))) (cs := (bx (encI (ofZ (s + (zs.getD i 0)))))) rfl rfl rfl sh30 rfl rfl rfl rfl) rfl rfl rfl <| sNil rfl rfl
    refine pwp_S (S' := [(2, (.ref 0 0)), (3, (.ref 1 0)), (7, (vl tau 2 encI l)), (8, (vin l.length)), (9, (vin (i + 1)))]) (B' := [(0, some (bx (encI (RInt.mk false [])))), (1, some (bx (encI (ofZ (s + (zs.getD i 0))))))]) ?_ ?_
    · exact sE' (e_add (r := (((i + 1) : Nat) : Int)) rfl rfl rfl (wi64 (by omega) (by omega) (by omega))) rfl <| sM (vin (i + 1)) rfl rfl <| sNil rfl rfl
    exact ⟨(i + 1, (s + (zs.getD i 0))), (weak rfl rfl), ⟨by omega, by rw [hsv]; exact (sumL_step (by omega)).symm⟩, (by first | omega | (dsimp only; omega))⟩
  · replace h1 := of_decide_eq_false h1
    have hie : i = l.length := by omega
    rw [hie, hlen, List.take_length] at hsv
    refine pwp_exit <| pwp_seq <| pwp_S (S' := [(2, (.ref 0 0))]) (B' := [(0, some (bx (encI (ofZ s))))]) ?_ ?_
    · exact sR (e_lda (cs := (bx (encI (ofZ s)))) (y := (.d (encI (ofZ s)))) rfl rfl sh30 rfl rfl) rfl rfl rfl rfl <| sT (t_std (d := (encI (ofZ s))) (cs := (bx (encI (ofZ s)))) rfl rfl rfl sh30 rfl rfl rfl rfl) rfl rfl rfl <| sNil rfl rfl
    refine pwp_ret ⟨_, (res_a (cs := (bx (encI (ofZ s)))) (d := (encI (ofZ s))) rfl rfl sh30 rfl rfl .nil), ?_⟩
    rw [hsv]; rfl
theorem l_plus (x : RInt) (a : Int) (hx : IOk x a 4000000000) (y : RInt) (b : Int) (hy : IOk y b 4000000000) : Takes Tryz.prog 113 [(encI x), (encI y)] (encI (ofZ (a + b))) := by
  refine fn_intro Tryz.func113 rfl cb113 rfl ?_
  show PWp _ _ _ _ ⟨[(0, (.d (encI x))), (1, (.d (encI y)))], []⟩
  refine pwp_seq <| pwp_S (S' := [(2, (.ref 0 0)), (3, (.ref 1 0)), (4, (.ref 2 0))]) (B' := [(0, some (bx (encI x))), (1, some (bx (encI y))), (2, some (bx (encI (RInt.mk false []))))]) ?_ ?_
  · exact sN (n_bx (d := (encI x)) (cs := (bx (encI x))) 0 rfl rfl rfl rfl) rfl rfl rfl rfl <| sN (n_bx (d := (encI y)) (cs := (bx (encI y))) 1 rfl rfl rfl rfl) rfl rfl rfl rfl <| sN (n_al (cs := (bx (encI (RInt.mk false [])))) 2 rfl ze30 zo30 rfl) rfl rfl rfl rfl <| sNil rfl rfl
  refine pwp_seq <| pwp_S (S' := [(4, (.ref 2 0))]) (B' := [(2, some (bx (encI (ofZ (a + b)))))]) ?_ ?_
  · exact sR (e_lda (cs := (bx (encI x))) (y := (.d (encI x))) rfl rfl sh30 rfl rfl) rfl rfl rfl rfl <| sR (e_lda (cs := (bx (encI y))) (y := (.d (encI y))) rfl rfl sh30 rfl rfl) rfl rfl rfl rfl <| sE' (e_cl (rs_add hx hy (by decide) (by decide)) rfl rfl rfl) rfl <| sT (t_std (d := (encI (ofZ (a + b)))) (cs := (bx (encI (ofZ (a + b))))) rfl rfl rfl sh30 rfl rfl rfl rfl) rfl rfl rfl <| sNil rfl rfl
  refine pwp_ret ⟨_, (res_a (cs := (bx (encI (ofZ (a + b))))) (d := (encI (ofZ (a + b)))) rfl rfl sh30 rfl rfl .nil), ?_⟩
  rfl
theorem l_minus (x : RInt) (a : Int) (hx : IOk x a 4000000000) (y : RInt) (b : Int) (hy : IOk y b 4000000000) : Takes Tryz.prog 112 [(encI x), (encI y)] (encI (ofZ (a - b))) := by
  refine fn_intro Tryz.func112 rfl cb112 rfl ?_
  show PWp _ _ _ _ ⟨[(0, (.d (encI x))), (1, (.d (encI y)))], []⟩
  refine pwp_seq <| pwp_S (S' := [(2, (.ref 0 0)), (3, (.ref 1 0)), (4, (.ref 2 0))]) (B' := [(0, some (bx (encI x))), (1, some (bx (encI y))), (2, some (bx (encI (RInt.mk false []))))]) ?_ ?_
  · exact sN (n_bx (d := (encI x)) (cs := (bx (encI x))) 0 rfl rfl rfl rfl) rfl rfl rfl rfl <| sN (n_bx (d := (encI y)) (cs := (bx (encI y))) 1 rfl rfl rfl rfl) rfl rfl rfl rfl <| sN (n_al (cs := (bx (encI (RInt.mk false [])))) 2 rfl ze30 zo30 rfl) rfl rfl rfl rfl <| sNil rfl rfl
  refine pwp_seq <| pwp_S (S' := [(4, (.ref 2 0))]) (B' := [(2, some (bx (encI (ofZ (a - b)))))]) ?_ ?_
  · exact sR (e_lda (cs := (bx (encI x))) (y := (.d (encI x))) rfl rfl sh30 rfl rfl) rfl rfl rfl rfl <| sR (e_lda (cs := (bx (encI y))) (y := (.d (encI y))) rfl rfl sh30 rfl rfl) rfl rfl rfl rfl <| sE' (e_cl (rs_sub hx hy (by decide) (by decide)) rfl rfl rfl) rfl <| sT (t_std (d := (encI (ofZ (a - b)))) (cs := (bx (encI (ofZ (a - b))))) rfl rfl rfl sh30 rfl rfl rfl rfl) rfl rfl rfl <| sNil rfl rfl
  refine pwp_ret ⟨_, (res_a (cs := (bx (encI (ofZ (a - b))))) (d := (encI (ofZ (a - b)))) rfl rfl sh30 rfl rfl .nil), ?_⟩
  rfl
theorem l_times (x : RInt) (a : Int) (hx : IOk x a 4000000000) (y : RInt) (b : Int) (hy : IOk y b 4000000000) : Takes Tryz.prog 45 [(encI x), (encI y)] (encI (ofZ (a * b))) := by
  refine fn_intro Tryz.func45 rfl cb45 rfl ?_
  show PWp _ _ _ _ ⟨[(0, (.d (encI x))), (1, (.d (encI y)))], []⟩
  refine pwp_seq <| pwp_S (S' := [(2, (.ref 0 0)), (3, (.ref 1 0)), (4, (.ref 2 0))]) (B' := [(0, some (bx (encI x))), (1, some (bx (encI y))), (2, some (bx (encI (RInt.mk false []))))]) ?_ ?_
  · exact sN (n_bx (d := (encI x)) (cs := (bx (encI x))) 0 rfl rfl rfl rfl) rfl rfl rfl rfl <| sN (n_bx (d := (encI y)) (cs := (bx (encI y))) 1 rfl rfl rfl rfl) rfl rfl rfl rfl <| sN (n_al (cs := (bx (encI (RInt.mk false [])))) 2 rfl ze30 zo30 rfl) rfl rfl rfl rfl <| sNil rfl rfl
  refine pwp_seq <| pwp_S (S' := [(4, (.ref 2 0))]) (B' := [(2, some (bx (encI (ofZ (a * b)))))]) ?_ ?_
  · exact sR (e_lda (cs := (bx (encI x))) (y := (.d (encI x))) rfl rfl sh30 rfl rfl) rfl rfl rfl rfl <| sR (e_lda (cs := (bx (encI y))) (y := (.d (encI y))) rfl rfl sh30 rfl rfl) rfl rfl rfl rfl <| sE' (e_cl (rs_mul hx hy (by decide) (by decide)) rfl rfl rfl) rfl <| sT (t_std (d := (encI (ofZ (a * b)))) (cs := (bx (encI (ofZ (a * b))))) rfl rfl rfl sh30 rfl rfl rfl rfl) rfl rfl rfl <| sNil rfl rfl
  refine pwp_ret ⟨_, (res_a (cs := (bx (encI (ofZ (a * b))))) (d := (encI (ofZ (a * b)))) rfl rfl sh30 rfl rfl .nil), ?_⟩
  rfl
end Go.Proofs.YtadkkhdnccljcaaGreat
