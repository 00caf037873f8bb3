/-
  Functions walked: each takes its data to what is said. Printed by a program of ours.
-/
import Derived.Test.YtadkkhdnccljcaaGreatIntD
namespace Go.Proofs.YtadkkhdnccljcaaGreat
open Go.Fid
set_option maxRecDepth 4000
set_option linter.unusedVariables false
set_option linter.unusedSimpArgs false
theorem cb100 : callB Tryz.prog 100 = true := by kernel_rfl
theorem cb136 : callB Tryz.prog 136 = true := by kernel_rfl
theorem cb137 : callB Tryz.prog 137 = true := by kernel_rfl
theorem t_over (a b : List Nat) (ha : Cano a) (hb : Cano b) (hb0 : 0 < val b) (hla : a.length ≤ 1099511627776) (hlb : b.length ≤ 1099511627776) : Takes Tryz.prog 137 [(.sl 138 1 (List.map enc_u32 a)), (.sl 138 1 (List.map enc_u32 b))] (.tup [(.sl 138 1 (List.map enc_u32 (ofNat (val a / val b)))), (.sl 138 1 (List.map enc_u32 (ofNat (val a % val b))))]) := by
  refine fn_intro Tryz.func137 rfl cb137 rfl ?_
  show PWp _ _ _ _ ⟨[(0, (vl 138 1 enc_u32 a)), (1, (vl 138 1 enc_u32 b))], []⟩
  refine pwp_seq <| pwp_S (S' := [(0, (vl 138 1 enc_u32 a)), (1, (vl 138 1 enc_u32 b))]) (B' := []) ?_ ?_
  · exact sE' (e_asgnil 138 1 rfl) rfl <| sE' (e_asgnil 138 1 rfl) rfl <| sNil rfl rfl
  refine pwp_seq <| pwp_seq <| pwp_S (S' := [(0, (vl 138 1 enc_u32 a)), (1, (vl 138 1 enc_u32 b)), (15, (vb (decide ((cmpI ((val a : Nat) : Int) ((val b : Nat) : Int)) < 0))))]) (B' := []) ?_ ?_
  · exact sM (vl 138 1 enc_u32 a) rfl rfl <| sM (vl 138 1 enc_u32 b) rfl rfl <| sE' (e_cl (t_compare a b ha hb (by omega)) rfl rfl rfl) rfl <| sE' (e_lss rfl rfl rfl) rfl <| sNil rfl rfl
  refine pwp_cond (b := decide ((cmpI ((val a : Nat) : Int) ((val b : Nat) : Int)) < 0)) rfl (fun h1 => ?_) (fun h1 => ?_)
  · replace h1 := of_decide_eq_true h1
    refine pwp_seq <| pwp_S (S' := [(4, (vl 138 1 enc_u32 [])), (5, (vl 138 1 enc_u32 a))]) (B' := []) ?_ ?_
    · exact sM (vl 138 1 enc_u32 a) rfl rfl <| sE' (e_asgnil 138 1 rfl) rfl <| sM (vl 138 1 enc_u32 a) rfl rfl <| sNil rfl rfl
    refine pwp_ret ⟨_, (.tmp (d := (.sl 138 1 (List.map enc_u32 []))) rfl (.tmp (d := (.sl 138 1 (List.map enc_u32 a))) rfl .nil)), ?_⟩
    have hlt := cmpI_neg h1
    rw [Nat.div_eq_of_lt hlt, Nat.mod_eq_of_lt hlt, ofNat_zero, ← can_eq ha]; rfl
  · replace h1 := of_decide_eq_false h1
    refine pwp_skip <| pwp_seq <| pwp_S (S' := [(0, (vl 138 1 enc_u32 a)), (1, (vl 138 1 enc_u32 b)), (6, (vqn (wordV a))), (7, (vb (wordB a)))]) (B' := []) ?_ ?_
    · exact sM (vl 138 1 enc_u32 a) rfl rfl <| sE' (e_cl (t_word a ha.1) rfl rfl rfl) rfl <| sM (.d (.tup [(.val (.int .u64 ((((wordV a) : Nat) : Int)))), (.val (.bool ((wordB a))))])) rfl rfl <| sE' (e_exD (d := (.val (.int .u64 ((((wordV a) : Nat) : Int))))) rfl rfl rfl) rfl <| sE' (e_exD (d := (.val (.bool ((wordB a))))) rfl rfl rfl) rfl <| sM (vqn (wordV a)) rfl rfl <| sM (vb (wordB a)) rfl rfl <| sNil rfl rfl
    refine pwp_seq <| pwp_S (S' := [(0, (vl 138 1 enc_u32 a)), (1, (vl 138 1 enc_u32 b)), (6, (vqn (wordV a))), (7, (vb (wordB a))), (8, (vqn (wordV b))), (9, (vb (wordB b)))]) (B' := []) ?_ ?_
    · exact sM (vl 138 1 enc_u32 b) rfl rfl <| sE' (e_cl (t_word b hb.1) rfl rfl rfl) rfl <| sM (.d (.tup [(.val (.int .u64 ((((wordV b) : Nat) : Int)))), (.val (.bool ((wordB b))))])) rfl rfl <| sE' (e_exD (d := (.val (.int .u64 ((((wordV b) : Nat) : Int))))) rfl rfl rfl) rfl <| sE' (e_exD (d := (.val (.bool ((wordB b))))) rfl rfl rfl) rfl <| sM (vqn (wordV b)) rfl rfl <| sM (vb (wordB b)) rfl rfl <| sNil rfl rfl
    refine pwp_seq <| pwp_seq <| pwp_S (S' := [(0, (vl 138 1 enc_u32 a)), (1, (vl 138 1 enc_u32 b)), (6, (vqn (wordV a))), (8, (vqn (wordV b))), (30, (vb ((wordB a) && (wordB b))))]) (B' := []) ?_ ?_
    · refine sM (vb (wordB a)) rfl rfl <| sM (vb (wordB a)) rfl rfl <| ?_
      rcases hb2 : (wordB a) with _ | _
      · exact sK rfl rfl rfl <| sE' (e_pkf (z := (vb false)) rfl rfl rfl) rfl <| sNil rfl rfl
      · exact sM (vb (wordB b)) rfl rfl <| sE' (e_pkta rfl rfl rfl) rfl <| sNil rfl rfl
    refine pwp_cond (b := ((wordB a) && (wordB b))) rfl (fun h3 => ?_) (fun h3 => ?_)
    · obtain ⟨w1, w2, w3⟩ := word_both ha.1 h3
      have w4 : wordV a / wordV b < 18446744073709551616 := Nat.lt_of_le_of_lt (Nat.div_le_self _ _) (by omega)
      have w5 : wordV a % wordV b < 18446744073709551616 := Nat.lt_of_le_of_lt (Nat.mod_le _ _) (by omega)
      refine pwp_seq <| pwp_D (S' := [(4, (vl 138 1 enc_u32 (ofNat ((wordV a) / (wordV b))))), (5, (vl 138 1 enc_u32 (ofNat ((wordV a) % (wordV b)))))]) (B' := []) mo (by kernel_rfl) ?_ ?_
      · exact dM (vqn (wordV a)) rfl rfl rfl <| dM (vqn (wordV b)) rfl rfl rfl <| dE' (e_quo (r := ((((wordV a) / (wordV b)) : Nat) : Int)) rfl rfl rfl (by omega) (quo_u64 _ _ (by omega))) rfl rfl <| dE' (e_cl (t_split ((wordV a) / (wordV b)) (by omega)) rfl rfl rfl) rfl rfl <| dM (vqn (wordV a)) rfl rfl rfl <| dM (vqn (wordV b)) rfl rfl rfl <| dE' (e_rem (r := ((((wordV a) % (wordV b)) : Nat) : Int)) rfl rfl rfl (by omega) (tmod_nat _ _)) rfl rfl <| dE' (e_cl (t_split ((wordV a) % (wordV b)) (by omega)) rfl rfl rfl) rfl rfl <| dM (vl 138 1 enc_u32 (ofNat ((wordV a) / (wordV b)))) rfl rfl rfl <| dM (vl 138 1 enc_u32 (ofNat ((wordV a) % (wordV b)))) rfl rfl rfl <| dNil rfl rfl (by kernel_rfl)
      refine pwp_ret ⟨_, (.tmp (d := (.sl 138 1 (List.map enc_u32 (ofNat ((wordV a) / (wordV b)))))) rfl (.tmp (d := (.sl 138 1 (List.map enc_u32 (ofNat ((wordV a) % (wordV b)))))) rfl .nil)), ?_⟩
      rw [w1, w2]; rfl
    · refine pwp_skip <| pwp_seq <| pwp_seq <| pwp_S (S' := [(0, (vl 138 1 enc_u32 a)), (1, (vl 138 1 enc_u32 b)), (41, (vb (((b.length : Nat) : Int) == 1)))]) (B' := []) ?_ ?_
      · exact sM (vl 138 1 enc_u32 b) rfl rfl <| sE' (e_ln (r := ((b.length : Nat) : Int)) rfl el28 rfl (by simp)) rfl <| sE' (e_eql rfl rfl rfl) rfl <| sNil rfl rfl
      refine pwp_cond (b := (((b.length : Nat) : Int) == 1)) rfl (fun h4 => ?_) (fun h4 => ?_)
      · replace h4 := eq_of_beq h4
        have hv1 := val_len1 (b := b) (by omega)
        have hg := hb.1.getD 0
        have w5 : val a % b.getD 0 0 < 4294967296 := Nat.lt_trans (Nat.mod_lt _ (by omega)) (by omega)
        refine pwp_seq <| pwp_S (S' := [(10, (vl 138 1 enc_u32 (ofNat (val a / (b.getD 0 0))))), (11, (vwn (val a % (b.getD 0 0))))]) (B' := []) ?_ ?_
        · exact sM (vl 138 1 enc_u32 a) rfl rfl <| sM (vl 138 1 enc_u32 b) rfl rfl <| sE' (e_ixs (j := 0) (cs := (Dat.cells (.val (.int .u32 ((((b.getD 0 0) : Nat) : Int)))))) rfl el28 rfl rfl (by omega) (ixm _ _ _ _ (by omega))) rfl <| sE' (e_lc1 (cs := (Dat.cells (.val (.int .u32 ((((b.getD 0 0) : Nat) : Int)))))) (y := (.val (.int .u32 ((((b.getD 0 0) : Nat) : Int))))) rfl rfl sh138 rfl) rfl <| sE' (e_cl (t_short a (b.getD 0 0) ha.1 (by omega) (by omega) (by omega)) rfl rfl rfl) rfl <| sM (.d (.tup [(.sl 138 1 (List.map enc_u32 (ofNat (val a / (b.getD 0 0))))), (.val (.int .u32 ((((val a % (b.getD 0 0)) : Nat) : Int))))])) rfl rfl <| sE' (e_exD (d := (.sl 138 1 (List.map enc_u32 (ofNat (val a / (b.getD 0 0)))))) rfl rfl rfl) rfl <| sE' (e_exD (d := (.val (.int .u32 ((((val a % (b.getD 0 0)) : Nat) : Int))))) rfl rfl rfl) rfl <| sM (vl 138 1 enc_u32 (ofNat (val a / (b.getD 0 0)))) rfl rfl <| sM (vwn (val a % (b.getD 0 0))) rfl rfl <| sNil rfl rfl
        refine pwp_seq <| pwp_S (S' := [(4, (vl 138 1 enc_u32 (ofNat (val a / (b.getD 0 0))))), (5, (vl 138 1 enc_u32 (ofNat (val a % (b.getD 0 0)))))]) (B' := []) ?_ ?_
        · exact sM (vl 138 1 enc_u32 (ofNat (val a / (b.getD 0 0)))) rfl rfl <| sM (vwn (val a % (b.getD 0 0))) rfl rfl <| sE' (e_conv (r := (((val a % (b.getD 0 0)) : Nat) : Int)) rfl un138 in140 rfl (cu64 (by omega))) rfl <| sE' (e_cl (t_split (val a % (b.getD 0 0)) (by omega)) rfl rfl rfl) rfl <| sM (vl 138 1 enc_u32 (ofNat (val a / (b.getD 0 0)))) rfl rfl <| sM (vl 138 1 enc_u32 (ofNat (val a % (b.getD 0 0)))) rfl rfl <| sNil rfl rfl
        refine pwp_ret ⟨_, (.tmp (d := (.sl 138 1 (List.map enc_u32 (ofNat (val a / (b.getD 0 0)))))) rfl (.tmp (d := (.sl 138 1 (List.map enc_u32 (ofNat (val a % (b.getD 0 0)))))) rfl .nil)), ?_⟩
        rw [hv1]; rfl
      · replace h4 := ne_of_beq_false h4
        have hbl := val_pos_len hb0
        refine pwp_skip <| pwp_seq <| pwp_S (S' := [(4, (vl 138 1 enc_u32 (ofNat (val a / val b)))), (5, (vl 138 1 enc_u32 (ofNat (val a % val b))))]) (B' := []) ?_ ?_
        · exact sM (vl 138 1 enc_u32 a) rfl rfl <| sM (vl 138 1 enc_u32 b) rfl rfl <| sE' (e_cl (t_long a b ha hb (by omega) (cmpI_nn h1) (by omega)) rfl rfl rfl) rfl <| sE' (e_exD (d := (.sl 138 1 (List.map enc_u32 (ofNat (val a / val b))))) rfl rfl rfl) rfl <| sE' (e_exD (d := (.sl 138 1 (List.map enc_u32 (ofNat (val a % val b))))) rfl rfl rfl) rfl <| sM (vl 138 1 enc_u32 (ofNat (val a / val b))) rfl rfl <| sM (vl 138 1 enc_u32 (ofNat (val a % val b))) rfl rfl <| sNil rfl rfl
        refine pwp_ret ⟨_, (.tmp (d := (.sl 138 1 (List.map enc_u32 (ofNat (val a / val b))))) rfl (.tmp (d := (.sl 138 1 (List.map enc_u32 (ofNat (val a % val b))))) rfl .nil)), ?_⟩
        rfl
theorem t_divideI (x y : RInt) (hx : x.gs.length ≤ 1099511627776) (hy : y.gs.length ≤ 1099511627776) (hy0 : toZ y ≠ 0) : Takes Tryz.prog 100 [(encI x), (encI y)] (.tup [(encI (ofZ ((toZ x).fdiv (toZ y)))), (encI (ofZ ((toZ x).fmod (toZ y)))), (.val (.int .i64 (0)))]) := by
  have hgx := grpI_can x
  have hlx := grpI_len x
  have hgy := grpI_can y
  have hly := grpI_len y
  have hn : 0 < val (grpI y) := by have := toZ_natAbs y; omega
  have hq := len_quo (grpI x) hgx (val (grpI y))
  have hr := len_rem (grpI x) hgx (val (grpI y))
  have hrn := Nat.mod_lt (val (grpI x)) hn
  refine fn_intro Tryz.func100 rfl cb100 rfl ?_
  show PWp _ _ _ _ ⟨[(0, (.d (encI x))), (1, (.d (encI y)))], []⟩
  refine pwp_seq <| pwp_S (S' := [(2, (.ref 0 0)), (3, (.ref 1 0)), (4, (.ref 2 0)), (5, (.ref 3 0))]) (B' := [(0, some (bx (encI x))), (1, some (bx (encI y))), (2, some (bx (encI (RInt.mk false [])))), (3, some (bx (encI (RInt.mk false []))))]) ?_ ?_
  · exact sN (n_bx (d := (encI x)) (cs := (bx (encI x))) 0 rfl rfl rfl rfl) rfl rfl rfl rfl <| sN (n_bx (d := (encI y)) (cs := (bx (encI y))) 1 rfl rfl rfl rfl) rfl rfl rfl rfl <| sN (n_al (cs := (bx (encI (RInt.mk false [])))) 2 rfl ze30 zo30 rfl) rfl rfl rfl rfl <| sN (n_al (cs := (bx (encI (RInt.mk false [])))) 3 rfl ze30 zo30 rfl) rfl rfl rfl rfl <| sM (vin 0) rfl rfl <| sNil rfl rfl
  refine pwp_seq <| pwp_D (S' := [(2, (.ref 0 0)), (3, (.ref 1 0)), (4, (.ref 2 0)), (5, (.ref 3 0)), (7, (vl 138 1 enc_u32 (grpI x))), (8, (vl 138 1 enc_u32 (grpI y)))]) (B' := [(0, some (bx (encI x))), (1, some (bx (encI y))), (2, some (bx (encI (RInt.mk false [])))), (3, some (bx (encI (RInt.mk false []))))]) mo (by kernel_rfl) ?_ ?_
  · exact dR (e_lda (cs := (bx (encI x))) (y := (.d (encI x))) rfl rfl sh30 rfl rfl) rfl rfl rfl rfl rfl <| dE' (e_cl (t_groups x (by omega)) rfl rfl rfl) rfl rfl <| dR (e_lda (cs := (bx (encI y))) (y := (.d (encI y))) rfl rfl sh30 rfl rfl) rfl rfl rfl rfl rfl <| dE' (e_cl (t_groups y (by omega)) rfl rfl rfl) rfl rfl <| dM (vl 138 1 enc_u32 (grpI x)) rfl rfl rfl <| dM (vl 138 1 enc_u32 (grpI y)) rfl rfl rfl <| dNil rfl rfl (by kernel_rfl)
  refine pwp_seq <| pwp_seq <| pwp_S (S' := [(2, (.ref 0 0)), (3, (.ref 1 0)), (4, (.ref 2 0)), (5, (.ref 3 0)), (7, (vl 138 1 enc_u32 (grpI x))), (8, (vl 138 1 enc_u32 (grpI y))), (17, (vb ((((grpI y).length : Nat) : Int) == 0)))]) (B' := [(0, some (bx (encI x))), (1, some (bx (encI y))), (2, some (bx (encI (RInt.mk false [])))), (3, some (bx (encI (RInt.mk false []))))]) ?_ ?_
  · exact sM (vl 138 1 enc_u32 (grpI y)) rfl rfl <| sE' (e_ln (r := (((grpI y).length : Nat) : Int)) rfl el28 rfl (by simp)) rfl <| sE' (e_eql rfl rfl rfl) rfl <| sNil rfl rfl
  refine pwp_cond (b := ((((grpI y).length : Nat) : Int) == 0)) rfl (fun h1 => ?_) (fun h1 => ?_)
  · replace h1 := eq_of_beq h1
    exact absurd (toZ_nil h1) hy0
  · replace h1 := ne_of_beq_false h1
    refine pwp_skip <| pwp_seq <| pwp_S (S' := [(2, (.ref 0 0)), (3, (.ref 1 0)), (4, (.ref 2 0)), (5, (.ref 3 0)), (8, (vl 138 1 enc_u32 (grpI y))), (9, (vl 138 1 enc_u32 (ofNat (val (grpI x) / val (grpI y))))), (10, (vl 138 1 enc_u32 (ofNat (val (grpI x) % val (grpI y)))))]) (B' := [(0, some (bx (encI x))), (1, some (bx (encI y))), (2, some (bx (encI (RInt.mk false [])))), (3, some (bx (encI (RInt.mk false []))))]) ?_ ?_
    · exact sM (vl 138 1 enc_u32 (grpI x)) rfl rfl <| sM (vl 138 1 enc_u32 (grpI y)) rfl rfl <| sE' (e_cl (t_over (grpI x) (grpI y) hgx hgy (by omega) (by omega) (by omega)) rfl rfl rfl) rfl <| sM (.d (.tup [(.sl 138 1 (List.map enc_u32 (ofNat (val (grpI x) / val (grpI y))))), (.sl 138 1 (List.map enc_u32 (ofNat (val (grpI x) % val (grpI y)))))])) rfl rfl <| sE' (e_exD (d := (.sl 138 1 (List.map enc_u32 (ofNat (val (grpI x) / val (grpI y)))))) rfl rfl rfl) rfl <| sE' (e_exD (d := (.sl 138 1 (List.map enc_u32 (ofNat (val (grpI x) % val (grpI y)))))) rfl rfl rfl) rfl <| sM (vl 138 1 enc_u32 (ofNat (val (grpI x) / val (grpI y)))) rfl rfl <| sM (vl 138 1 enc_u32 (ofNat (val (grpI x) % val (grpI y)))) rfl rfl <| sNil rfl rfl
    refine pwp_seq <| pwp_S (S' := [(2, (.ref 0 0)), (3, (.ref 1 0)), (4, (.ref 2 0)), (5, (.ref 3 0)), (8, (vl 138 1 enc_u32 (grpI y))), (9, (vl 138 1 enc_u32 (ofNat (val (grpI x) / val (grpI y))))), (10, (vl 138 1 enc_u32 (ofNat (val (grpI x) % val (grpI y)))))]) (B' := [(0, some (bx (encI x))), (1, some (bx (encI y))), (2, some (bx (encI (RInt.mk false [])))), (3, some (bx (encI (RInt.mk false []))))]) ?_ ?_
    · exact sM (vl 138 1 enc_u32 (ofNat (val (grpI x) % val (grpI y)))) rfl rfl <| sE' (e_cl (t_clone (ofNat (val (grpI x) % val (grpI y))) (by omega)) rfl rfl rfl) rfl <| sM (vl 138 1 enc_u32 (ofNat (val (grpI x) % val (grpI y)))) rfl rfl <| sNil rfl rfl
    refine pwp_seq <| pwp_seq <| pwp_S (S' := [(2, (.ref 0 0)), (3, (.ref 1 0)), (4, (.ref 2 0)), (5, (.ref 3 0)), (8, (vl 138 1 enc_u32 (grpI y))), (9, (vl 138 1 enc_u32 (ofNat (val (grpI x) / val (grpI y))))), (10, (vl 138 1 enc_u32 (ofNat (val (grpI x) % val (grpI y))))), (37, (vb (decide (0 < (((ofNat (val (grpI x) % val (grpI y))).length : Nat) : Int)) && !(x.neg == y.neg))))]) (B' := [(0, some (bx (encI x))), (1, some (bx (encI y))), (2, some (bx (encI (RInt.mk false [])))), (3, some (bx (encI (RInt.mk false []))))]) ?_ ?_
    · refine sM (vl 138 1 enc_u32 (ofNat (val (grpI x) % val (grpI y)))) rfl rfl <| sE' (e_ln (r := (((ofNat (val (grpI x) % val (grpI y))).length : Nat) : Int)) rfl el28 rfl (by simp)) rfl <| sE' (e_gtr rfl rfl rfl) rfl <| sM (vb (decide (0 < (((ofNat (val (grpI x) % val (grpI y))).length : Nat) : Int)))) rfl rfl <| ?_
      rcases hb2 : (decide (0 < (((ofNat (val (grpI x) % val (grpI y))).length : Nat) : Int))) with _ | _
      · replace hb2 := of_decide_eq_false hb2
        exact sK rfl rfl rfl <| sK rfl rfl rfl <| sK rfl rfl rfl <| sK rfl rfl rfl <| sK rfl rfl rfl <| sE' (e_pkf (z := (vb false)) rfl rfl rfl) rfl <| sNil rfl rfl
      · replace hb2 := of_decide_eq_true hb2
        exact sE' (e_fldr (q := 0) rfl rfl fo30_0 rfl) rfl <| sR (e_ld1 (cs := (bx (encI x))) (y := (vb x.neg)) rfl rfl sh4 rfl) rfl rfl rfl rfl <| sE' (e_fldr (q := 0) rfl rfl fo30_0 rfl) rfl <| sR (e_ld1 (cs := (bx (encI y))) (y := (vb y.neg)) rfl rfl sh4 rfl) rfl rfl rfl rfl <| sE' (e_neqb rfl bo4 rfl rfl) rfl <| sE' (e_pkta rfl rfl rfl) rfl <| sNil rfl rfl
    refine pwp_cond (b := (decide (0 < (((ofNat (val (grpI x) % val (grpI y))).length : Nat) : Int)) && !(x.neg == y.neg))) rfl (fun h3 => ?_) (fun h3 => ?_)
    · have e1 : (ofNat (val (ofNat (val (grpI x) / val (grpI y))) + val [1])).length ≤ 1099511627777 := ofNat_length_le (by rw [ofNat_val, val_one]; have := ofNat_lt_pw (val (grpI x) / val (grpI y)); have h3 : pw (ofNat (val (grpI x) / val (grpI y))).length ≤ pw 1099511627776 := pw_mono (by omega); have h4 := pw_lt (show 1099511627776 < 1099511627777 by decide); omega)
      have e2 := sub_len (b := ofNat (val (grpI x) % val (grpI y))) hgy.1
      rw [Bool.and_eq_true, decide_eq_true_eq, Bool.not_eq_true', beq_eq_false_iff_ne] at h3
      obtain ⟨k1, k2⟩ := h3
      have k3 : 0 < val (grpI x) % val (grpI y) := by have := len_pos_val (ofNat_can (val (grpI x) % val (grpI y))) (by omega); rwa [ofNat_val] at this
      obtain ⟨d1, d2⟩ := div_other hn k2 k3
      refine pwp_S (S' := [(2, (.ref 0 0)), (3, (.ref 1 0)), (4, (.ref 2 0)), (5, (.ref 3 0)), (9, (vl 138 1 enc_u32 (ofNat (val (ofNat (val (grpI x) / val (grpI y))) + val [1])))), (10, (vl 138 1 enc_u32 (ofNat (val (grpI y) - val (ofNat (val (grpI x) % val (grpI y)))))))]) (B' := [(0, some (bx (encI x))), (1, some (bx (encI y))), (2, some (bx (encI (RInt.mk false [])))), (3, some (bx (encI (RInt.mk false []))))]) ?_ ?_
      · exact sM (vl 138 1 enc_u32 (ofNat (val (grpI x) / val (grpI y)))) rfl rfl <| sE' (e_bsl (pd := [(0, (.val (.int .u32 (1))))]) (es := List.map enc_u32 [1]) rfl el28 ze138 zo138 rfl rfl rfl rfl rfl rfl rfl rfl) rfl <| sE' (e_cl (t_plus (ofNat (val (grpI x) / val (grpI y))) [1] (ofNat_dig _) (dig_cons.2 ⟨by decide, dig_nil⟩) (by omega) (by decide)) rfl rfl rfl) rfl <| sM (vl 138 1 enc_u32 (grpI y)) rfl rfl <| sM (vl 138 1 enc_u32 (ofNat (val (grpI x) % val (grpI y)))) rfl rfl <| sE' (e_cl (t_minus (grpI y) (ofNat (val (grpI x) % val (grpI y))) hgy.1 (ofNat_dig _) (by rw [ofNat_val]; omega) (by omega)) rfl rfl rfl) rfl <| sM (vl 138 1 enc_u32 (ofNat (val (ofNat (val (grpI x) / val (grpI y))) + val [1]))) rfl rfl <| sM (vl 138 1 enc_u32 (ofNat (val (grpI y) - val (ofNat (val (grpI x) % val (grpI y)))))) rfl rfl <| sNil rfl rfl
      refine pwp_seq <| pwp_D (S' := [(4, (.ref 2 0)), (5, (.ref 3 0)), (6, (vin 0))]) (B' := [(2, some (bx (encI (mkI (!(x.neg == y.neg)) (val (ofNat (val (ofNat (val (grpI x) / val (grpI y))) + val [1]))))))), (3, some (bx (encI (mkI y.neg (val (ofNat (val (grpI y) - val (ofNat (val (grpI x) % val (grpI y))))))))))]) mo (by kernel_rfl) ?_ ?_
      · exact dE' (e_fldr (q := 0) rfl rfl fo30_0 rfl) rfl rfl <| dR (e_ld1 (cs := (bx (encI x))) (y := (vb x.neg)) rfl rfl sh4 rfl) rfl rfl rfl rfl rfl <| dE' (e_fldr (q := 0) rfl rfl fo30_0 rfl) rfl rfl <| dR (e_ld1 (cs := (bx (encI y))) (y := (vb y.neg)) rfl rfl sh4 rfl) rfl rfl rfl rfl rfl <| dE' (e_neqb rfl bo4 rfl rfl) rfl rfl <| dM (vl 138 1 enc_u32 (ofNat (val (ofNat (val (grpI x) / val (grpI y))) + val [1]))) rfl rfl rfl <| dE' (e_cl (t_made (!(x.neg == y.neg)) (ofNat (val (ofNat (val (grpI x) / val (grpI y))) + val [1])) (ofNat_dig _) (by omega)) rfl rfl rfl) rfl rfl <| dE' (e_fldr (q := 0) rfl rfl fo30_0 rfl) rfl rfl <| dR (e_ld1 (cs := (bx (encI y))) (y := (vb y.neg)) rfl rfl sh4 rfl) rfl rfl rfl rfl rfl <| dM (vl 138 1 enc_u32 (ofNat (val (grpI y) - val (ofNat (val (grpI x) % val (grpI y)))))) rfl rfl rfl <| dE' (e_cl (t_made y.neg (ofNat (val (grpI y) - val (ofNat (val (grpI x) % val (grpI y))))) (ofNat_dig _) (by omega)) rfl rfl rfl) rfl rfl <| dT (t_std (d := (encI (mkI (!(x.neg == y.neg)) (val (ofNat (val (ofNat (val (grpI x) / val (grpI y))) + val [1])))))) (cs := (bx (encI (mkI (!(x.neg == y.neg)) (val (ofNat (val (ofNat (val (grpI x) / val (grpI y))) + val [1]))))))) rfl rfl rfl sh30 rfl rfl rfl rfl) rfl rfl rfl rfl <| dT (t_std (d := (encI (mkI y.neg (val (ofNat (val (grpI y) - val (ofNat (val (grpI x) % val (grpI y))))))))) (cs := (bx (encI (mkI y.neg (val (ofNat (val (grpI y) - val (ofNat (val (grpI x) % val (grpI y)))))))))) rfl rfl rfl sh30 rfl rfl rfl rfl) rfl rfl rfl rfl <| dM (vin 0) rfl rfl rfl <| dNil rfl rfl (by kernel_rfl)
      refine pwp_ret ⟨_, (res_a (cs := (bx (encI (mkI (!(x.neg == y.neg)) (val (ofNat (val (ofNat (val (grpI x) / val (grpI y))) + val [1]))))))) (d := (encI (mkI (!(x.neg == y.neg)) (val (ofNat (val (ofNat (val (grpI x) / val (grpI y))) + val [1])))))) rfl rfl sh30 rfl rfl (res_a (cs := (bx (encI (mkI y.neg (val (ofNat (val (grpI y) - val (ofNat (val (grpI x) % val (grpI y)))))))))) (d := (encI (mkI y.neg (val (ofNat (val (grpI y) - val (ofNat (val (grpI x) % val (grpI y))))))))) rfl rfl sh30 rfl rfl (.tmp (d := (.val (.int .i64 (0)))) rfl .nil))), ?_⟩
      unfold toZ
      rw [d1, d2]
      simp only [ofNat_val, val_one]
      rfl
    · obtain ⟨d1, d2⟩ := div_same (b := x.neg) (c := y.neg) (m := val (grpI x)) hn (by rw [Bool.and_eq_false_iff, decide_eq_false_iff_not, Bool.not_eq_false', beq_iff_eq] at h3; rcases h3 with k | k; right; have := ofNat_len_pos (n := val (grpI x) % val (grpI y)); omega; exact .inl k)
      refine pwp_skip <| pwp_seq <| pwp_D (S' := [(4, (.ref 2 0)), (5, (.ref 3 0)), (6, (vin 0))]) (B' := [(2, some (bx (encI (mkI (!(x.neg == y.neg)) (val (ofNat (val (grpI x) / val (grpI y)))))))), (3, some (bx (encI (mkI y.neg (val (ofNat (val (grpI x) % val (grpI y))))))))]) mo (by kernel_rfl) ?_ ?_
      · exact dE' (e_fldr (q := 0) rfl rfl fo30_0 rfl) rfl rfl <| dR (e_ld1 (cs := (bx (encI x))) (y := (vb x.neg)) rfl rfl sh4 rfl) rfl rfl rfl rfl rfl <| dE' (e_fldr (q := 0) rfl rfl fo30_0 rfl) rfl rfl <| dR (e_ld1 (cs := (bx (encI y))) (y := (vb y.neg)) rfl rfl sh4 rfl) rfl rfl rfl rfl rfl <| dE' (e_neqb rfl bo4 rfl rfl) rfl rfl <| dM (vl 138 1 enc_u32 (ofNat (val (grpI x) / val (grpI y)))) rfl rfl rfl <| dE' (e_cl (t_made (!(x.neg == y.neg)) (ofNat (val (grpI x) / val (grpI y))) (ofNat_dig _) (by omega)) rfl rfl rfl) rfl rfl <| dE' (e_fldr (q := 0) rfl rfl fo30_0 rfl) rfl rfl <| dR (e_ld1 (cs := (bx (encI y))) (y := (vb y.neg)) rfl rfl sh4 rfl) rfl rfl rfl rfl rfl <| dM (vl 138 1 enc_u32 (ofNat (val (grpI x) % val (grpI y)))) rfl rfl rfl <| dE' (e_cl (t_made y.neg (ofNat (val (grpI x) % val (grpI y))) (ofNat_dig _) (by omega)) rfl rfl rfl) rfl rfl <| dT (t_std (d := (encI (mkI (!(x.neg == y.neg)) (val (ofNat (val (grpI x) / val (grpI y))))))) (cs := (bx (encI (mkI (!(x.neg == y.neg)) (val (ofNat (val (grpI x) / val (grpI y)))))))) rfl rfl rfl sh30 rfl rfl rfl rfl) rfl rfl rfl rfl <| dT (t_std (d := (encI (mkI y.neg (val (ofNat (val (grpI x) % val (grpI y))))))) (cs := (bx (encI (mkI y.neg (val (ofNat (val (grpI x) % val (grpI y)))))))) rfl rfl rfl sh30 rfl rfl rfl rfl) rfl rfl rfl rfl <| dM (vin 0) rfl rfl rfl <| dNil rfl rfl (by kernel_rfl)
      refine pwp_ret ⟨_, (res_a (cs := (bx (encI (mkI (!(x.neg == y.neg)) (val (ofNat (val (grpI x) / val (grpI y)))))))) (d := (encI (mkI (!(x.neg == y.neg)) (val (ofNat (val (grpI x) / val (grpI y))))))) rfl rfl sh30 rfl rfl (res_a (cs := (bx (encI (mkI y.neg (val (ofNat (val (grpI x) % val (grpI y)))))))) (d := (encI (mkI y.neg (val (ofNat (val (grpI x) % val (grpI y))))))) rfl rfl sh30 rfl rfl (.tmp (d := (.val (.int .i64 (0)))) rfl .nil))), ?_⟩
      unfold toZ
      rw [d1, d2]
      simp only [ofNat_val]
      rfl
theorem t_gcdI (x y : RInt) (hx : x.gs.length ≤ 1099511627776) (hy : y.gs.length ≤ 1099511627776) : Takes Tryz.prog 136 [(encI x), (encI y)] (encI (ofZ ((Int.gcd (toZ x) (toZ y) : Nat) : Int))) := by
  have hgx := grpI_can x
  have hlx := grpI_len x
  have hgy := grpI_can y
  have hly := grpI_len y
  refine fn_intro Tryz.func136 rfl cb136 rfl ?_
  show PWp _ _ _ _ ⟨[(0, (.d (encI x))), (1, (.d (encI y)))], []⟩
  refine pwp_seq <| pwp_S (S' := [(2, (.ref 0 0)), (3, (.ref 1 0)), (4, (.ref 2 0))]) (B' := [(0, some (bx (encI x))), (1, some (bx (encI y))), (2, some (bx (encI (RInt.mk false []))))]) ?_ ?_
  · exact sN (n_bx (d := (encI x)) (cs := (bx (encI x))) 0 rfl rfl rfl rfl) rfl rfl rfl rfl <| sN (n_bx (d := (encI y)) (cs := (bx (encI y))) 1 rfl rfl rfl rfl) rfl rfl rfl rfl <| sN (n_al (cs := (bx (encI (RInt.mk false [])))) 2 rfl ze30 zo30 rfl) rfl rfl rfl rfl <| sNil rfl rfl
  refine pwp_seq <| pwp_D (S' := [(4, (.ref 2 0)), (5, (vl 138 1 enc_u32 (grpI x))), (6, (vl 138 1 enc_u32 (grpI y)))]) (B' := [(2, some (bx (encI (RInt.mk false []))))]) mo (by kernel_rfl) ?_ ?_
  · exact dR (e_lda (cs := (bx (encI x))) (y := (.d (encI x))) rfl rfl sh30 rfl rfl) rfl rfl rfl rfl rfl <| dE' (e_cl (t_groups x (by omega)) rfl rfl rfl) rfl rfl <| dR (e_lda (cs := (bx (encI y))) (y := (.d (encI y))) rfl rfl sh30 rfl rfl) rfl rfl rfl rfl rfl <| dE' (e_cl (t_groups y (by omega)) rfl rfl rfl) rfl rfl <| dM (vl 138 1 enc_u32 (grpI x)) rfl rfl rfl <| dM (vl 138 1 enc_u32 (grpI y)) rfl rfl rfl <| dNil rfl rfl (by kernel_rfl)
  refine pwp_seq <| pwp_block <| pwp_loop (α := List Nat × List Nat) (fun (a, b) => ⟨[(4, (.ref 2 0)), (5, (vl 138 1 enc_u32 a)), (6, (vl 138 1 enc_u32 b))], [(2, some (bx (encI (RInt.mk false []))))]⟩) (fun (a, b) => Cano a ∧ Cano b ∧ a.length ≤ 1099511627776 ∧ b.length ≤ 1099511627776 ∧ Nat.gcd (val a) (val b) = Int.gcd (toZ x) (toZ y)) (fun (a, b) => val b) (grpI x, grpI y) (weak rfl rfl) ⟨hgx, hgy, by omega, by omega, gcd_toZ x y⟩ ?_
  rintro ⟨a, b⟩ ⟨ha, hb, hla, hlb, hg⟩
  refine pwp_seq <| pwp_seq <| pwp_S (S' := [(4, (.ref 2 0)), (5, (vl 138 1 enc_u32 a)), (6, (vl 138 1 enc_u32 b)), (19, (vb (decide (0 < ((b.length : Nat) : Int)))))]) (B' := [(2, some (bx (encI (RInt.mk false []))))]) ?_ ?_
  · exact sM (vl 138 1 enc_u32 b) rfl rfl <| sE' (e_ln (r := ((b.length : Nat) : Int)) rfl el28 rfl (by simp)) rfl <| sE' (e_gtr rfl rfl rfl) rfl <| sNil rfl rfl
  refine pwp_cond (b := decide (0 < ((b.length : Nat) : Int))) rfl (fun h1 => ?_) (fun h1 => ?_)
  · replace h1 := of_decide_eq_true h1
    have hb0 := len_pos_val hb (by omega)
    refine pwp_skip <| pwp_block <| pwp_seq <| pwp_S (S' := [(4, (.ref 2 0)), (5, (vl 138 1 enc_u32 a)), (6, (vl 138 1 enc_u32 b)), (7, (vqn (wordV a))), (8, (vb (wordB a)))]) (B' := [(2, some (bx (encI (RInt.mk false []))))]) ?_ ?_
    · exact sM (vl 138 1 enc_u32 a) rfl rfl <| sE' (e_cl (t_word a ha.1) rfl rfl rfl) rfl <| sM (.d (.tup [(.val (.int .u64 ((((wordV a) : Nat) : Int)))), (.val (.bool ((wordB a))))])) rfl rfl <| sE' (e_exD (d := (.val (.int .u64 ((((wordV a) : Nat) : Int))))) rfl rfl rfl) rfl <| sE' (e_exD (d := (.val (.bool ((wordB a))))) rfl rfl rfl) rfl <| sM (vqn (wordV a)) rfl rfl <| sM (vb (wordB a)) rfl rfl <| sNil rfl rfl
    refine pwp_seq <| pwp_S (S' := [(4, (.ref 2 0)), (5, (vl 138 1 enc_u32 a)), (6, (vl 138 1 enc_u32 b)), (7, (vqn (wordV a))), (8, (vb (wordB a))), (9, (vqn (wordV b))), (10, (vb (wordB b)))]) (B' := [(2, some (bx (encI (RInt.mk false []))))]) ?_ ?_
    · exact sM (vl 138 1 enc_u32 b) rfl rfl <| sE' (e_cl (t_word b hb.1) rfl rfl rfl) rfl <| sM (.d (.tup [(.val (.int .u64 ((((wordV b) : Nat) : Int)))), (.val (.bool ((wordB b))))])) rfl rfl <| sE' (e_exD (d := (.val (.int .u64 ((((wordV b) : Nat) : Int))))) rfl rfl rfl) rfl <| sE' (e_exD (d := (.val (.bool ((wordB b))))) rfl rfl rfl) rfl <| sM (vqn (wordV b)) rfl rfl <| sM (vb (wordB b)) rfl rfl <| sNil rfl rfl
    refine pwp_seq <| pwp_seq <| pwp_S (S' := [(4, (.ref 2 0)), (5, (vl 138 1 enc_u32 a)), (6, (vl 138 1 enc_u32 b)), (7, (vqn (wordV a))), (9, (vqn (wordV b))), (33, (vb ((wordB a) && (wordB b))))]) (B' := [(2, some (bx (encI (RInt.mk false []))))]) ?_ ?_
    · refine sM (vb (wordB a)) rfl rfl <| sM (vb (wordB a)) rfl rfl <| ?_
      rcases hb2 : (wordB a) with _ | _
      · exact sK rfl rfl rfl <| sE' (e_pkf (z := (vb false)) rfl rfl rfl) rfl <| sNil rfl rfl
      · exact sM (vb (wordB b)) rfl rfl <| sE' (e_pkta rfl rfl rfl) rfl <| sNil rfl rfl
    refine pwp_cond (b := ((wordB a) && (wordB b))) rfl (fun h3 => ?_) (fun h3 => ?_)
    · obtain ⟨w1, w2, w3⟩ := word_both ha.1 h3
      have w4 : val b < 1000000000000000000 := by rw [Bool.and_eq_true] at h3; exact val_len2 hb.1 (of_decide_eq_true h3.2)
      refine pwp_seq <| pwp_block <| pwp_loop (α := Nat × Nat) (fun (m, n) => ⟨[(4, (.ref 2 0)), (7, (vqn m)), (9, (vqn n))], [(2, some (bx (encI (RInt.mk false []))))]⟩) (fun (m, n) => m < 1000000000000000000 ∧ n < 1000000000000000000 ∧ Nat.gcd m n = Int.gcd (toZ x) (toZ y)) (fun (m, n) => n) (wordV a, wordV b) (weak rfl rfl) ⟨by omega, by omega, by rw [w1, w2]; exact hg⟩ ?_
      rintro ⟨m, n⟩ ⟨hm, hn, hg2⟩
      refine pwp_seq <| pwp_seq <| pwp_S (S' := [(4, (.ref 2 0)), (7, (vqn m)), (9, (vqn n)), (35, (vb (decide (0 < ((n : Nat) : Int)))))]) (B' := [(2, some (bx (encI (RInt.mk false []))))]) ?_ ?_
      · exact sM (vqn n) rfl rfl <| sE' (e_gtr rfl rfl rfl) rfl <| sNil rfl rfl
      refine pwp_cond (b := decide (0 < ((n : Nat) : Int))) rfl (fun h4 => ?_) (fun h4 => ?_)
      · replace h4 := of_decide_eq_true h4
        refine pwp_skip <| pwp_block <| pwp_D (S' := [(4, (.ref 2 0)), (7, (vqn n)), (9, (vqn (m % n)))]) (B' := [(2, some (bx (encI (RInt.mk false []))))]) mo (by kernel_rfl) ?_ ?_
        · exact dM (vqn n) rfl rfl rfl <| dM (vqn m) rfl rfl rfl <| dM (vqn n) rfl rfl rfl <| dE' (e_rem (r := (((m % n) : Nat) : Int)) rfl rfl rfl (by omega) (tmod_nat _ _)) rfl rfl <| dM (vqn n) rfl rfl rfl <| dM (vqn (m % n)) rfl rfl rfl <| dNil rfl rfl (by kernel_rfl)
        exact ⟨(n, m % n), (weak rfl rfl), ⟨hn, Nat.lt_of_le_of_lt (Nat.mod_le _ _) hm, by rw [← hg2, Nat.gcd_comm, ← Nat.gcd_rec, Nat.gcd_comm]⟩, (by dsimp only; exact Nat.mod_lt _ (by omega))⟩
      · replace h4 := of_decide_eq_false h4
        obtain rfl : n = 0 := by omega
        rw [Nat.gcd_zero_right] at hg2
        refine pwp_exit <| pwp_seq <| pwp_S (S' := [(4, (.ref 2 0))]) (B' := [(2, some (bx (encI (mkI false (val (ofNat m))))))]) ?_ ?_
        · exact sM (vqn m) rfl rfl <| sE' (e_cl (t_split m (by omega)) rfl rfl rfl) rfl <| sE' (e_cl (t_made false (ofNat m) (ofNat_dig _) (Nat.le_trans (ofNat_len3 (by omega)) (by decide))) rfl rfl rfl) rfl <| sT (t_std (d := (encI (mkI false (val (ofNat m))))) (cs := (bx (encI (mkI false (val (ofNat m)))))) rfl rfl rfl sh30 rfl rfl rfl rfl) rfl rfl rfl <| sNil rfl rfl
        refine pwp_ret ⟨_, (res_a (cs := (bx (encI (mkI false (val (ofNat m)))))) (d := (encI (mkI false (val (ofNat m))))) rfl rfl sh30 rfl rfl .nil), ?_⟩
        rw [← hg2, ofNat_val, mkI_false]; rfl
    · refine pwp_skip <| pwp_seq <| pwp_S (S' := [(4, (.ref 2 0)), (6, (vl 138 1 enc_u32 b)), (12, (vl 138 1 enc_u32 (ofNat (val a % val b))))]) (B' := [(2, some (bx (encI (RInt.mk false []))))]) ?_ ?_
      · exact sM (vl 138 1 enc_u32 a) rfl rfl <| sM (vl 138 1 enc_u32 b) rfl rfl <| sE' (e_cl (t_over a b ha hb hb0 (by omega) (by omega)) rfl rfl rfl) rfl <| sM (.d (.tup [(.sl 138 1 (List.map enc_u32 (ofNat (val a / val b)))), (.sl 138 1 (List.map enc_u32 (ofNat (val a % val b))))])) rfl rfl <| sE' (e_exD (d := (.sl 138 1 (List.map enc_u32 (ofNat (val a / val b))))) rfl rfl rfl) rfl <| sE' (e_exD (d := (.sl 138 1 (List.map enc_u32 (ofNat (val a % val b))))) rfl rfl rfl) rfl <| sM (vl 138 1 enc_u32 (ofNat (val a / val b))) rfl rfl <| sM (vl 138 1 enc_u32 (ofNat (val a % val b))) rfl rfl <| sNil rfl rfl
      refine pwp_S (S' := [(4, (.ref 2 0)), (5, (vl 138 1 enc_u32 b)), (6, (vl 138 1 enc_u32 (ofNat (val a % val b))))]) (B' := [(2, some (bx (encI (RInt.mk false []))))]) ?_ ?_
      · exact sM (vl 138 1 enc_u32 b) rfl rfl <| sM (vl 138 1 enc_u32 (ofNat (val a % val b))) rfl rfl <| sM (vl 138 1 enc_u32 b) rfl rfl <| sM (vl 138 1 enc_u32 (ofNat (val a % val b))) rfl rfl <| sNil rfl rfl
      exact ⟨(b, ofNat (val a % val b)), (weak rfl rfl), ⟨hb, ofNat_can _, hlb, Nat.le_trans (len_rem a ha _) hla, by rw [ofNat_val, ← hg, Nat.gcd_comm, ← Nat.gcd_rec, Nat.gcd_comm]⟩, (by dsimp only; rw [ofNat_val]; exact Nat.mod_lt _ hb0)⟩
  · replace h1 := of_decide_eq_false h1
    have hb1 : b = [] := List.eq_nil_of_length_eq_zero (by omega)
    rw [hb1, val_nil, Nat.gcd_zero_right] at hg
    refine pwp_exit <| pwp_seq <| pwp_S (S' := [(4, (.ref 2 0))]) (B' := [(2, some (bx (encI (mkI false (val a)))))]) ?_ ?_
    · exact sM (vl 138 1 enc_u32 a) rfl rfl <| sE' (e_cl (t_clone a (by omega)) rfl rfl rfl) rfl <| sE' (e_cl (t_made false a ha.1 (by omega)) rfl rfl rfl) rfl <| sT (t_std (d := (encI (mkI false (val a)))) (cs := (bx (encI (mkI false (val a))))) rfl rfl rfl sh30 rfl rfl rfl rfl) rfl rfl rfl <| sNil rfl rfl
    refine pwp_ret ⟨_, (res_a (cs := (bx (encI (mkI false (val a))))) (d := (encI (mkI false (val a)))) rfl rfl sh30 rfl rfl .nil), ?_⟩
    rw [← hg, mkI_false]; rfl
end Go.Proofs.YtadkkhdnccljcaaGreat
