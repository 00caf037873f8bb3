/-
  Functions walked: each takes its data to what is said. Printed by a program of ours.
-/
import Derived.Test.YtcdgmcfkhkikbaaGreatRefA
namespace Go.Proofs.YtcdgmcfkhkikbaaGreat
open Go.Fid
set_option maxRecDepth 4000
set_option linter.unusedVariables false
set_option linter.unusedSimpArgs false
theorem cb75 : callB Tryz.prog 75 = true := by kernel_rfl
theorem cb91 : callB Tryz.prog 91 = true := by kernel_rfl
theorem cb92 : callB Tryz.prog 92 = true := by kernel_rfl
theorem cb112 : callB Tryz.prog 112 = true := by kernel_rfl
theorem cb113 : callB Tryz.prog 113 = true := by kernel_rfl
theorem cb115 : callB Tryz.prog 115 = true := by kernel_rfl
theorem cb119 : callB Tryz.prog 119 = true := by kernel_rfl
theorem cb139 : callB Tryz.prog 139 = true := by kernel_rfl
theorem r_neg (x : RInt) (hx : x.gs.length ≤ 1099511627776) : Takes Tryz.prog 119 [(encI x)] (encI (ofZ (-toZ x))) := by
  have hvx := gs_val2 x
  refine fn_intro Tryz.func119 rfl cb119 rfl ?_
  show PWp _ _ _ _ ⟨[(0, (.d (encI x)))], []⟩
  refine pwp_seq ?_
  refine pwp_S (S' := [(1, (.ref 0 0)), (2, (.ref 1 0))]) (B' := [(0, some (bx (encI x))), (1, some (bx (encI (RInt.mk false []))))]) ?_ ?_
  · skip
    exact sN (n_bx (d := (encI x)) (cs := (bx (encI x))) 0 rfl rfl rfl rfl) rfl rfl rfl rfl <| sN (n_al (cs := (bx (encI (RInt.mk false [])))) 1 rfl ze24 zo24 rfl) rfl rfl rfl rfl <| sNil rfl rfl
  refine pwp_seq ?_
  refine pwp_S (S' := [(1, (.ref 0 0)), (2, (.ref 1 0))]) (B' := [(0, some (bx (encI (ofZ (toZ x))))), (1, some (bx (encI (RInt.mk false []))))]) ?_ ?_
  · skip
    exact sR (e_lda (cs := (bx (encI x))) (y := (.d (encI x))) rfl rfl sh24 rfl rfl) rfl rfl rfl rfl <| sE' (e_cl (r_value x (by omega)) rfl rfl rfl) rfl <| sT (t_std (d := (encI (ofZ (toZ x)))) (cs := (bx (encI (ofZ (toZ x))))) rfl rfl rfl sh24 rfl rfl rfl rfl) rfl rfl rfl <| sNil rfl rfl
  refine pwp_seq ?_
  refine pwp_S (S' := [(2, (.ref 1 0))]) (B' := [(1, some (bx (encI (mkI (!((ofZ (toZ x)).neg)) (val (ofNat (Int.natAbs (toZ x))))))))]) ?_ ?_
  · skip
    exact sE' (e_fldr (q := 0) rfl rfl fo24_0 rfl) rfl <| sR (e_ld1 (cs := (bx (encI (ofZ (toZ x))))) (y := (vb ((ofZ (toZ x)).neg))) rfl rfl sh4 rfl) rfl rfl rfl rfl <| sE' (e_not rfl rfl) rfl <| sE' (e_fldr (q := 1) rfl rfl fo24_1 rfl) rfl <| sR (e_ld1 (cs := (bx (encI (ofZ (toZ x))))) (y := (vl 83 1 enc_u32 (ofNat (Int.natAbs (toZ x))))) rfl rfl sh22 rfl) rfl rfl rfl rfl <| sE' (e_cl (r_made (!((ofZ (toZ x)).neg)) (ofNat (Int.natAbs (toZ x))) (by first | assumption | exact ofNat_dig _ | exact (ofNat_can _).1 | exact (grpI_can _).1) (by omega)) rfl rfl rfl) rfl <| sT (t_std (d := (encI (mkI (!((ofZ (toZ x)).neg)) (val (ofNat (Int.natAbs (toZ x))))))) (cs := (bx (encI (mkI (!((ofZ (toZ x)).neg)) (val (ofNat (Int.natAbs (toZ x)))))))) rfl rfl rfl sh24 rfl rfl rfl rfl) rfl rfl rfl <| sNil rfl rfl
  refine pwp_ret ⟨_, (res_a (cs := (bx (encI (mkI (!((ofZ (toZ x)).neg)) (val (ofNat (Int.natAbs (toZ x)))))))) (d := (encI (mkI (!((ofZ (toZ x)).neg)) (val (ofNat (Int.natAbs (toZ x))))))) rfl rfl sh24 rfl rfl .nil), ?_⟩
  rw [← rneg_eq]; rfl
theorem r_sign (x : RInt) (hx : x.gs.length ≤ 1099511627776) : Takes Tryz.prog 75 [(encI x)] (.val (.int .i64 ((signI (toZ x))))) := by
  have hvx := gs_val2 x
  refine fn_intro Tryz.func75 rfl cb75 rfl ?_
  show PWp _ _ _ _ ⟨[(0, (.d (encI x)))], []⟩
  refine pwp_seq ?_
  refine pwp_S (S' := [(1, (.ref 0 0))]) (B' := [(0, some (bx (encI x)))]) ?_ ?_
  · skip
    exact sN (n_bx (d := (encI x)) (cs := (bx (encI x))) 0 rfl rfl rfl rfl) rfl rfl rfl rfl <| sM (vin 0) rfl rfl <| sNil rfl rfl
  refine pwp_seq ?_
  refine pwp_S (S' := [(1, (.ref 0 0))]) (B' := [(0, some (bx (encI (ofZ (toZ x)))))]) ?_ ?_
  · skip
    exact sR (e_lda (cs := (bx (encI x))) (y := (.d (encI x))) rfl rfl sh24 rfl rfl) rfl rfl rfl rfl <| sE' (e_cl (r_value x (by omega)) rfl rfl rfl) rfl <| sT (t_std (d := (encI (ofZ (toZ x)))) (cs := (bx (encI (ofZ (toZ x))))) rfl rfl rfl sh24 rfl rfl rfl rfl) rfl rfl rfl <| sNil rfl rfl
  refine pwp_seq ?_
  refine pwp_seq ?_
  refine pwp_S (S' := [(1, (.ref 0 0)), (8, (vb ((((ofNat (Int.natAbs (toZ x))).length : Nat) : Int) == 0)))]) (B' := [(0, some (bx (encI (ofZ (toZ x)))))]) ?_ ?_
  · skip
    exact sE' (e_fldr (q := 1) rfl rfl fo24_1 rfl) rfl <| sR (e_ld1 (cs := (bx (encI (ofZ (toZ x))))) (y := (vl 83 1 enc_u32 (ofNat (Int.natAbs (toZ x))))) rfl rfl sh22 rfl) rfl rfl rfl rfl <| sE' (e_ln (r := (((ofNat (Int.natAbs (toZ x))).length : Nat) : Int)) rfl el22 rfl (by simp)) rfl <| sE' (e_eql rfl rfl rfl) rfl <| sNil rfl rfl
  refine pwp_cond (b := ((((ofNat (Int.natAbs (toZ x))).length : Nat) : Int) == 0)) rfl (fun h1 => ?_) (fun h1 => ?_)
  · skip
    replace h1 := eq_of_beq h1
    refine pwp_seq ?_
    refine pwp_S (S' := [(2, (vin 0))]) (B' := []) ?_ ?_
    · skip
      exact sM (vin 0) rfl rfl <| sNil rfl rfl
    refine pwp_ret ⟨_, (.tmp (d := (.val (.int .i64 (0)))) rfl .nil), ?_⟩
    rw [rsign_zero h1]; rfl
  · skip
    replace h1 := ne_of_beq_false h1
    refine pwp_skip ?_
    refine pwp_seq ?_
    refine pwp_seq ?_
    refine pwp_S (S' := [(10, (vb ((ofZ (toZ x)).neg)))]) (B' := []) ?_ ?_
    · skip
      exact sE' (e_fldr (q := 0) rfl rfl fo24_0 rfl) rfl <| sR (e_ld1 (cs := (bx (encI (ofZ (toZ x))))) (y := (vb ((ofZ (toZ x)).neg))) rfl rfl sh4 rfl) rfl rfl rfl rfl <| sNil rfl rfl
    refine pwp_cond (b := (ofZ (toZ x)).neg) rfl (fun h2 => ?_) (fun h2 => ?_)
    · skip
      refine pwp_seq ?_
      refine pwp_S (S' := [(2, (vi (-1)))]) (B' := []) ?_ ?_
      · skip
        exact sM (vi (-1)) rfl rfl <| sNil rfl rfl
      refine pwp_ret ⟨_, (.tmp (d := (.val (.int .i64 (-1)))) rfl .nil), ?_⟩
      rw [rsign_neg h1 h2]; rfl
    · skip
      refine pwp_skip ?_
      refine pwp_seq ?_
      refine pwp_S (S' := [(2, (vin 1))]) (B' := []) ?_ ?_
      · skip
        exact sM (vin 1) rfl rfl <| sNil rfl rfl
      refine pwp_ret ⟨_, (.tmp (d := (.val (.int .i64 (1)))) rfl .nil), ?_⟩
      rw [rsign_pos h1 h2]; rfl
theorem r_add (x : RInt) (y : RInt) (hx : x.gs.length ≤ 1099511627776) (hy : y.gs.length ≤ 1099511627776) : Takes Tryz.prog 91 [(encI x), (encI y)] (encI (ofZ (toZ x + toZ y))) := by
  have hvx := gs_val2 x
  have hvy := gs_val2 y
  refine fn_intro Tryz.func91 rfl cb91 rfl ?_
  show PWp _ _ _ _ ⟨[(0, (.d (encI x))), (1, (.d (encI y)))], []⟩
  refine pwp_seq ?_
  refine pwp_S (S' := [(2, (.ref 0 0)), (3, (.ref 1 0)), (4, (.ref 2 0))]) (B' := [(0, some (bx (encI x))), (1, some (bx (encI y))), (2, some (bx (encI (RInt.mk false []))))]) ?_ ?_
  · skip
    exact sN (n_bx (d := (encI x)) (cs := (bx (encI x))) 0 rfl rfl rfl rfl) rfl rfl rfl rfl <| sN (n_bx (d := (encI y)) (cs := (bx (encI y))) 1 rfl rfl rfl rfl) rfl rfl rfl rfl <| sN (n_al (cs := (bx (encI (RInt.mk false [])))) 2 rfl ze24 zo24 rfl) rfl rfl rfl rfl <| sNil rfl rfl
  refine pwp_seq ?_
  refine pwp_D (S' := [(2, (.ref 0 0)), (3, (.ref 1 0)), (4, (.ref 2 0))]) (B' := [(0, some (bx (encI (ofZ (toZ x))))), (1, some (bx (encI (ofZ (toZ y))))), (2, some (bx (encI (RInt.mk false []))))]) mo (by kernel_rfl) ?_ ?_
  · skip
    exact dR (e_lda (cs := (bx (encI x))) (y := (.d (encI x))) rfl rfl sh24 rfl rfl) rfl rfl rfl rfl rfl <| dE' (e_cl (r_value x (by omega)) rfl rfl rfl) rfl rfl <| dR (e_lda (cs := (bx (encI y))) (y := (.d (encI y))) rfl rfl sh24 rfl rfl) rfl rfl rfl rfl rfl <| dE' (e_cl (r_value y (by omega)) rfl rfl rfl) rfl rfl <| dT (t_std (d := (encI (ofZ (toZ x)))) (cs := (bx (encI (ofZ (toZ x))))) rfl rfl rfl sh24 rfl rfl rfl rfl) rfl rfl rfl rfl <| dT (t_std (d := (encI (ofZ (toZ y)))) (cs := (bx (encI (ofZ (toZ y))))) rfl rfl rfl sh24 rfl rfl rfl rfl) rfl rfl rfl rfl <| dNil rfl rfl (by kernel_rfl)
  refine pwp_seq ?_
  refine pwp_seq ?_
  refine pwp_S (S' := [(2, (.ref 0 0)), (3, (.ref 1 0)), (4, (.ref 2 0)), (13, (vb (((ofZ (toZ x)).neg) == ((ofZ (toZ y)).neg))))]) (B' := [(0, some (bx (encI (ofZ (toZ x))))), (1, some (bx (encI (ofZ (toZ y))))), (2, some (bx (encI (RInt.mk false []))))]) ?_ ?_
  · skip
    exact sE' (e_fldr (q := 0) rfl rfl fo24_0 rfl) rfl <| sR (e_ld1 (cs := (bx (encI (ofZ (toZ x))))) (y := (vb ((ofZ (toZ x)).neg))) rfl rfl sh4 rfl) rfl rfl rfl rfl <| sE' (e_fldr (q := 0) rfl rfl fo24_0 rfl) rfl <| sR (e_ld1 (cs := (bx (encI (ofZ (toZ y))))) (y := (vb ((ofZ (toZ y)).neg))) rfl rfl sh4 rfl) rfl rfl rfl rfl <| sE' (e_eqlb rfl bo4 rfl rfl) rfl <| sNil rfl rfl
  refine pwp_cond (b := (((ofZ (toZ x)).neg) == ((ofZ (toZ y)).neg))) rfl (fun h1 => ?_) (fun h1 => ?_)
  · skip
    replace h1 := eq_of_beq h1
    refine pwp_seq ?_
    refine pwp_D (S' := [(4, (.ref 2 0))]) (B' := [(2, some (bx (encI (mkI ((ofZ (toZ x)).neg) (val (ofNat (val (ofNat (Int.natAbs (toZ x))) + val (ofNat (Int.natAbs (toZ y))))))))))]) mo (by kernel_rfl) ?_ ?_
    · skip
      exact dE' (e_fldr (q := 0) rfl rfl fo24_0 rfl) rfl rfl <| dR (e_ld1 (cs := (bx (encI (ofZ (toZ x))))) (y := (vb ((ofZ (toZ x)).neg))) rfl rfl sh4 rfl) rfl rfl rfl rfl rfl <| dE' (e_fldr (q := 1) rfl rfl fo24_1 rfl) rfl rfl <| dR (e_ld1 (cs := (bx (encI (ofZ (toZ x))))) (y := (vl 83 1 enc_u32 (ofNat (Int.natAbs (toZ x))))) rfl rfl sh22 rfl) rfl rfl rfl rfl rfl <| dE' (e_fldr (q := 1) rfl rfl fo24_1 rfl) rfl rfl <| dR (e_ld1 (cs := (bx (encI (ofZ (toZ y))))) (y := (vl 83 1 enc_u32 (ofNat (Int.natAbs (toZ y))))) rfl rfl sh22 rfl) rfl rfl rfl rfl rfl <| dE' (e_cl (r_plus (ofNat (Int.natAbs (toZ x))) (ofNat (Int.natAbs (toZ y))) (by first | assumption | exact ofNat_dig _ | exact (ofNat_can _).1 | exact (grpI_can _).1) (by first | assumption | exact ofNat_dig _ | exact (ofNat_can _).1 | exact (grpI_can _).1) (by omega) (by omega)) rfl rfl rfl) rfl rfl <| dE' (e_cl (r_made ((ofZ (toZ x)).neg) (ofNat (val (ofNat (Int.natAbs (toZ x))) + val (ofNat (Int.natAbs (toZ y))))) (by first | assumption | exact ofNat_dig _ | exact (ofNat_can _).1 | exact (grpI_can _).1) (by first | omega | exact Nat.le_trans (add_len (ofNat_dig _) (ofNat_dig _)) (by omega) | exact Nat.le_trans (sub_len (ofNat_dig _)) (by omega))) rfl rfl rfl) rfl rfl <| dT (t_std (d := (encI (mkI ((ofZ (toZ x)).neg) (val (ofNat (val (ofNat (Int.natAbs (toZ x))) + val (ofNat (Int.natAbs (toZ y))))))))) (cs := (bx (encI (mkI ((ofZ (toZ x)).neg) (val (ofNat (val (ofNat (Int.natAbs (toZ x))) + val (ofNat (Int.natAbs (toZ y)))))))))) rfl rfl rfl sh24 rfl rfl rfl rfl) rfl rfl rfl rfl <| dNil rfl rfl (by kernel_rfl)
    refine pwp_ret ⟨_, (res_a (cs := (bx (encI (mkI ((ofZ (toZ x)).neg) (val (ofNat (val (ofNat (Int.natAbs (toZ x))) + val (ofNat (Int.natAbs (toZ y)))))))))) (d := (encI (mkI ((ofZ (toZ x)).neg) (val (ofNat (val (ofNat (Int.natAbs (toZ x))) + val (ofNat (Int.natAbs (toZ y))))))))) rfl rfl sh24 rfl rfl .nil), ?_⟩
    rw [← rsum_same h1]; rfl
  · skip
    replace h1 := ne_of_beq_false h1
    refine pwp_skip ?_
    refine pwp_seq ?_
    refine pwp_seq ?_
    refine pwp_S (S' := [(2, (.ref 0 0)), (3, (.ref 1 0)), (4, (.ref 2 0)), (27, (vb (decide (0 ≤ (cmpI ((val (ofNat (Int.natAbs (toZ x))) : Nat) : Int) ((val (ofNat (Int.natAbs (toZ y))) : Nat) : Int))))))]) (B' := [(0, some (bx (encI (ofZ (toZ x))))), (1, some (bx (encI (ofZ (toZ y))))), (2, some (bx (encI (RInt.mk false []))))]) ?_ ?_
    · skip
      exact sE' (e_fldr (q := 1) rfl rfl fo24_1 rfl) rfl <| sR (e_ld1 (cs := (bx (encI (ofZ (toZ x))))) (y := (vl 83 1 enc_u32 (ofNat (Int.natAbs (toZ x))))) rfl rfl sh22 rfl) rfl rfl rfl rfl <| sE' (e_fldr (q := 1) rfl rfl fo24_1 rfl) rfl <| sR (e_ld1 (cs := (bx (encI (ofZ (toZ y))))) (y := (vl 83 1 enc_u32 (ofNat (Int.natAbs (toZ y))))) rfl rfl sh22 rfl) rfl rfl rfl rfl <| sE' (e_cl (r_size (ofNat (Int.natAbs (toZ x))) (ofNat (Int.natAbs (toZ y))) (by first | assumption | exact ofNat_can _ | exact grpI_can _) (by first | assumption | exact ofNat_can _ | exact grpI_can _) (by omega) (by omega)) rfl rfl rfl) rfl <| sE' (e_geq rfl rfl rfl) rfl <| sNil rfl rfl
    refine pwp_cond (b := decide (0 ≤ (cmpI ((val (ofNat (Int.natAbs (toZ x))) : Nat) : Int) ((val (ofNat (Int.natAbs (toZ y))) : Nat) : Int)))) rfl (fun h2 => ?_) (fun h2 => ?_)
    · skip
      replace h2 := of_decide_eq_true h2
      refine pwp_seq ?_
      refine pwp_D (S' := [(4, (.ref 2 0))]) (B' := [(2, some (bx (encI (mkI ((ofZ (toZ x)).neg) (val (ofNat (val (ofNat (Int.natAbs (toZ x))) - val (ofNat (Int.natAbs (toZ y))))))))))]) mo (by kernel_rfl) ?_ ?_
      · skip
        exact dE' (e_fldr (q := 0) rfl rfl fo24_0 rfl) rfl rfl <| dR (e_ld1 (cs := (bx (encI (ofZ (toZ x))))) (y := (vb ((ofZ (toZ x)).neg))) rfl rfl sh4 rfl) rfl rfl rfl rfl rfl <| dE' (e_fldr (q := 1) rfl rfl fo24_1 rfl) rfl rfl <| dR (e_ld1 (cs := (bx (encI (ofZ (toZ x))))) (y := (vl 83 1 enc_u32 (ofNat (Int.natAbs (toZ x))))) rfl rfl sh22 rfl) rfl rfl rfl rfl rfl <| dE' (e_fldr (q := 1) rfl rfl fo24_1 rfl) rfl rfl <| dR (e_ld1 (cs := (bx (encI (ofZ (toZ y))))) (y := (vl 83 1 enc_u32 (ofNat (Int.natAbs (toZ y))))) rfl rfl sh22 rfl) rfl rfl rfl rfl rfl <| dE' (e_cl (r_minus (ofNat (Int.natAbs (toZ x))) (ofNat (Int.natAbs (toZ y))) (by first | assumption | exact ofNat_dig _ | exact (ofNat_can _).1 | exact (grpI_can _).1) (by first | assumption | exact ofNat_dig _ | exact (ofNat_can _).1 | exact (grpI_can _).1) (by have := cmpI_ge h2; omega) (by omega)) rfl rfl rfl) rfl rfl <| dE' (e_cl (r_made ((ofZ (toZ x)).neg) (ofNat (val (ofNat (Int.natAbs (toZ x))) - val (ofNat (Int.natAbs (toZ y))))) (by first | assumption | exact ofNat_dig _ | exact (ofNat_can _).1 | exact (grpI_can _).1) (by first | omega | exact Nat.le_trans (add_len (ofNat_dig _) (ofNat_dig _)) (by omega) | exact Nat.le_trans (sub_len (ofNat_dig _)) (by omega))) rfl rfl rfl) rfl rfl <| dT (t_std (d := (encI (mkI ((ofZ (toZ x)).neg) (val (ofNat (val (ofNat (Int.natAbs (toZ x))) - val (ofNat (Int.natAbs (toZ y))))))))) (cs := (bx (encI (mkI ((ofZ (toZ x)).neg) (val (ofNat (val (ofNat (Int.natAbs (toZ x))) - val (ofNat (Int.natAbs (toZ y)))))))))) rfl rfl rfl sh24 rfl rfl rfl rfl) rfl rfl rfl rfl <| dNil rfl rfl (by kernel_rfl)
      refine pwp_ret ⟨_, (res_a (cs := (bx (encI (mkI ((ofZ (toZ x)).neg) (val (ofNat (val (ofNat (Int.natAbs (toZ x))) - val (ofNat (Int.natAbs (toZ y)))))))))) (d := (encI (mkI ((ofZ (toZ x)).neg) (val (ofNat (val (ofNat (Int.natAbs (toZ x))) - val (ofNat (Int.natAbs (toZ y))))))))) rfl rfl sh24 rfl rfl .nil), ?_⟩
      rw [← rsum_first h1 (by have := cmpI_ge h2; omega)]; rfl
    · skip
      replace h2 := of_decide_eq_false h2
      refine pwp_skip ?_
      refine pwp_seq ?_
      refine pwp_D (S' := [(4, (.ref 2 0))]) (B' := [(2, some (bx (encI (mkI ((ofZ (toZ y)).neg) (val (ofNat (val (ofNat (Int.natAbs (toZ y))) - val (ofNat (Int.natAbs (toZ x))))))))))]) mo (by kernel_rfl) ?_ ?_
      · skip
        exact dE' (e_fldr (q := 0) rfl rfl fo24_0 rfl) rfl rfl <| dR (e_ld1 (cs := (bx (encI (ofZ (toZ y))))) (y := (vb ((ofZ (toZ y)).neg))) rfl rfl sh4 rfl) rfl rfl rfl rfl rfl <| dE' (e_fldr (q := 1) rfl rfl fo24_1 rfl) rfl rfl <| dR (e_ld1 (cs := (bx (encI (ofZ (toZ y))))) (y := (vl 83 1 enc_u32 (ofNat (Int.natAbs (toZ y))))) rfl rfl sh22 rfl) rfl rfl rfl rfl rfl <| dE' (e_fldr (q := 1) rfl rfl fo24_1 rfl) rfl rfl <| dR (e_ld1 (cs := (bx (encI (ofZ (toZ x))))) (y := (vl 83 1 enc_u32 (ofNat (Int.natAbs (toZ x))))) rfl rfl sh22 rfl) rfl rfl rfl rfl rfl <| dE' (e_cl (r_minus (ofNat (Int.natAbs (toZ y))) (ofNat (Int.natAbs (toZ x))) (by first | assumption | exact ofNat_dig _ | exact (ofNat_can _).1 | exact (grpI_can _).1) (by first | assumption | exact ofNat_dig _ | exact (ofNat_can _).1 | exact (grpI_can _).1) (by have := cmpI_lt h2; omega) (by omega)) rfl rfl rfl) rfl rfl <| dE' (e_cl (r_made ((ofZ (toZ y)).neg) (ofNat (val (ofNat (Int.natAbs (toZ y))) - val (ofNat (Int.natAbs (toZ x))))) (by first | assumption | exact ofNat_dig _ | exact (ofNat_can _).1 | exact (grpI_can _).1) (by first | omega | exact Nat.le_trans (add_len (ofNat_dig _) (ofNat_dig _)) (by omega) | exact Nat.le_trans (sub_len (ofNat_dig _)) (by omega))) rfl rfl rfl) rfl rfl <| dT (t_std (d := (encI (mkI ((ofZ (toZ y)).neg) (val (ofNat (val (ofNat (Int.natAbs (toZ y))) - val (ofNat (Int.natAbs (toZ x))))))))) (cs := (bx (encI (mkI ((ofZ (toZ y)).neg) (val (ofNat (val (ofNat (Int.natAbs (toZ y))) - val (ofNat (Int.natAbs (toZ x)))))))))) rfl rfl rfl sh24 rfl rfl rfl rfl) rfl rfl rfl rfl <| dNil rfl rfl (by kernel_rfl)
      refine pwp_ret ⟨_, (res_a (cs := (bx (encI (mkI ((ofZ (toZ y)).neg) (val (ofNat (val (ofNat (Int.natAbs (toZ y))) - val (ofNat (Int.natAbs (toZ x)))))))))) (d := (encI (mkI ((ofZ (toZ y)).neg) (val (ofNat (val (ofNat (Int.natAbs (toZ y))) - val (ofNat (Int.natAbs (toZ x))))))))) rfl rfl sh24 rfl rfl .nil), ?_⟩
      rw [← rsum_second h1 (by have := cmpI_lt h2; omega)]; rfl
theorem r_sub (x : RInt) (y : RInt) (hx : x.gs.length ≤ 1099511627776) (hy : y.gs.length ≤ 1099511627776) : Takes Tryz.prog 112 [(encI x), (encI y)] (encI (ofZ (toZ x - toZ y))) := by
  have hv := gs_neg y
  refine fn_intro Tryz.func112 rfl cb112 rfl ?_
  show PWp _ _ _ _ ⟨[(0, (.d (encI x))), (1, (.d (encI y)))], []⟩
  refine pwp_seq ?_
  refine pwp_S (S' := [(2, (.ref 0 0)), (3, (.ref 1 0)), (4, (.ref 2 0))]) (B' := [(0, some (bx (encI x))), (1, some (bx (encI y))), (2, some (bx (encI (RInt.mk false []))))]) ?_ ?_
  · skip
    exact sN (n_bx (d := (encI x)) (cs := (bx (encI x))) 0 rfl rfl rfl rfl) rfl rfl rfl rfl <| sN (n_bx (d := (encI y)) (cs := (bx (encI y))) 1 rfl rfl rfl rfl) rfl rfl rfl rfl <| sN (n_al (cs := (bx (encI (RInt.mk false [])))) 2 rfl ze24 zo24 rfl) rfl rfl rfl rfl <| sNil rfl rfl
  refine pwp_seq ?_
  refine pwp_D (S' := [(4, (.ref 2 0))]) (B' := [(2, some (bx (encI (ofZ (toZ x + toZ (ofZ (-toZ y)))))))]) mo (by kernel_rfl) ?_ ?_
  · skip
    exact dR (e_lda (cs := (bx (encI x))) (y := (.d (encI x))) rfl rfl sh24 rfl rfl) rfl rfl rfl rfl rfl <| dR (e_lda (cs := (bx (encI y))) (y := (.d (encI y))) rfl rfl sh24 rfl rfl) rfl rfl rfl rfl rfl <| dE' (e_cl (r_neg y (by omega)) rfl rfl rfl) rfl rfl <| dE' (e_cl (r_add x (ofZ (-toZ y)) (by omega) (by omega)) rfl rfl rfl) rfl rfl <| dT (t_std (d := (encI (ofZ (toZ x + toZ (ofZ (-toZ y)))))) (cs := (bx (encI (ofZ (toZ x + toZ (ofZ (-toZ y))))))) rfl rfl rfl sh24 rfl rfl rfl rfl) rfl rfl rfl rfl <| dNil rfl rfl (by kernel_rfl)
  refine pwp_ret ⟨_, (res_a (cs := (bx (encI (ofZ (toZ x + toZ (ofZ (-toZ y))))))) (d := (encI (ofZ (toZ x + toZ (ofZ (-toZ y)))))) rfl rfl sh24 rfl rfl .nil), ?_⟩
  rw [toZ_ofZ, ← Int.sub_eq_add_neg]; rfl
theorem r_mul (x : RInt) (y : RInt) (hx : x.gs.length ≤ 1099511627776) (hy : y.gs.length ≤ 1099511627776) : Takes Tryz.prog 92 [(encI x), (encI y)] (encI (ofZ (toZ x * toZ y))) := by
  have hvx := gs_val2 x
  have hvy := gs_val2 y
  have hda := ofNat_dig (Int.natAbs (toZ x))
  have hdb := ofNat_dig (Int.natAbs (toZ y))
  refine fn_intro Tryz.func92 rfl cb92 rfl ?_
  show PWp _ _ _ _ ⟨[(0, (.d (encI x))), (1, (.d (encI y)))], []⟩
  refine pwp_seq ?_
  refine pwp_S (S' := [(2, (.ref 0 0)), (3, (.ref 1 0)), (4, (.ref 2 0))]) (B' := [(0, some (bx (encI x))), (1, some (bx (encI y))), (2, some (bx (encI (RInt.mk false []))))]) ?_ ?_
  · skip
    exact sN (n_bx (d := (encI x)) (cs := (bx (encI x))) 0 rfl rfl rfl rfl) rfl rfl rfl rfl <| sN (n_bx (d := (encI y)) (cs := (bx (encI y))) 1 rfl rfl rfl rfl) rfl rfl rfl rfl <| sN (n_al (cs := (bx (encI (RInt.mk false [])))) 2 rfl ze24 zo24 rfl) rfl rfl rfl rfl <| sNil rfl rfl
  refine pwp_seq ?_
  refine pwp_D (S' := [(2, (.ref 0 0)), (3, (.ref 1 0)), (4, (.ref 2 0))]) (B' := [(0, some (bx (encI (ofZ (toZ x))))), (1, some (bx (encI (ofZ (toZ y))))), (2, some (bx (encI (RInt.mk false []))))]) mo (by kernel_rfl) ?_ ?_
  · skip
    exact dR (e_lda (cs := (bx (encI x))) (y := (.d (encI x))) rfl rfl sh24 rfl rfl) rfl rfl rfl rfl rfl <| dE' (e_cl (r_value x (by omega)) rfl rfl rfl) rfl rfl <| dR (e_lda (cs := (bx (encI y))) (y := (.d (encI y))) rfl rfl sh24 rfl rfl) rfl rfl rfl rfl rfl <| dE' (e_cl (r_value y (by omega)) rfl rfl rfl) rfl rfl <| dT (t_std (d := (encI (ofZ (toZ x)))) (cs := (bx (encI (ofZ (toZ x))))) rfl rfl rfl sh24 rfl rfl rfl rfl) rfl rfl rfl rfl <| dT (t_std (d := (encI (ofZ (toZ y)))) (cs := (bx (encI (ofZ (toZ y))))) rfl rfl rfl sh24 rfl rfl rfl rfl) rfl rfl rfl rfl <| dNil rfl rfl (by kernel_rfl)
  refine pwp_seq ?_
  refine pwp_S (S' := [(2, (.ref 0 0)), (3, (.ref 1 0)), (4, (.ref 2 0)), (5, (.own 3 83 1 ((ofNat (Int.natAbs (toZ x))).length + (ofNat (Int.natAbs (toZ y))).length)))]) (B' := [(0, some (bx (encI (ofZ (toZ x))))), (1, some (bx (encI (ofZ (toZ y))))), (2, some (bx (encI (RInt.mk false [])))), (3, some (bm enc_u32 (List.replicate ((ofNat (Int.natAbs (toZ x))).length + (ofNat (Int.natAbs (toZ y))).length) 0)))]) ?_ ?_
  · skip
    exact sE' (e_fldr (q := 1) rfl rfl fo24_1 rfl) rfl <| sR (e_ld1 (cs := (bx (encI (ofZ (toZ x))))) (y := (vl 83 1 enc_u32 (ofNat (Int.natAbs (toZ x))))) rfl rfl sh22 rfl) rfl rfl rfl rfl <| sE' (e_ln (r := (((ofNat (Int.natAbs (toZ x))).length : Nat) : Int)) rfl el22 rfl (by simp)) rfl <| sE' (e_fldr (q := 1) rfl rfl fo24_1 rfl) rfl <| sR (e_ld1 (cs := (bx (encI (ofZ (toZ y))))) (y := (vl 83 1 enc_u32 (ofNat (Int.natAbs (toZ y))))) rfl rfl sh22 rfl) rfl rfl rfl rfl <| sE' (e_ln (r := (((ofNat (Int.natAbs (toZ y))).length : Nat) : Int)) rfl el22 rfl (by simp)) rfl <| sE' (e_add (r := ((((ofNat (Int.natAbs (toZ x))).length + (ofNat (Int.natAbs (toZ y))).length) : Nat) : Int)) rfl rfl rfl (wi64 (by omega) (by omega) (by omega))) rfl <| sN (n_mks (n := ((ofNat (Int.natAbs (toZ x))).length + (ofNat (Int.natAbs (toZ y))).length)) (m := ((ofNat (Int.natAbs (toZ x))).length + (ofNat (Int.natAbs (toZ y))).length)) (cs := (bm enc_u32 (List.replicate ((ofNat (Int.natAbs (toZ x))).length + (ofNat (Int.natAbs (toZ y))).length) 0))) 3 rfl el22 ze83 zo83 rfl by83 rfl rfl (by omega) (by omega) (by unfold maxLen; omega) (own_zero enc_u32 _ _)) rfl rfl rfl rfl <| sM (.own 3 83 1 ((ofNat (Int.natAbs (toZ x))).length + (ofNat (Int.natAbs (toZ y))).length)) rfl rfl <| sNil rfl rfl
  refine pwp_seq ?_
  refine pwp_seq ?_
  refine pwp_S (S' := [(2, (.ref 0 0)), (3, (.ref 1 0)), (4, (.ref 2 0)), (5, (.own 3 83 1 ((ofNat (Int.natAbs (toZ x))).length + (ofNat (Int.natAbs (toZ y))).length))), (6, (vin 0))]) (B' := [(0, some (bx (encI (ofZ (toZ x))))), (1, some (bx (encI (ofZ (toZ y))))), (2, some (bx (encI (RInt.mk false [])))), (3, some (bm enc_u32 (List.replicate ((ofNat (Int.natAbs (toZ x))).length + (ofNat (Int.natAbs (toZ y))).length) 0)))]) ?_ ?_
  · skip
    exact sM (vin 0) rfl rfl <| sNil rfl rfl
  refine pwp_block ?_
  refine pwp_loop (α := Nat × List Nat) (fun (i, out) => ⟨[(2, (.ref 0 0)), (3, (.ref 1 0)), (4, (.ref 2 0)), (5, (.own 3 83 1 ((ofNat (Int.natAbs (toZ x))).length + (ofNat (Int.natAbs (toZ y))).length))), (6, (vin i))], [(0, some (bx (encI (ofZ (toZ x))))), (1, some (bx (encI (ofZ (toZ y))))), (2, some (bx (encI (RInt.mk false [])))), (3, some (bm enc_u32 out))]⟩) (fun (i, out) => out.length = (ofNat (Int.natAbs (toZ x))).length + (ofNat (Int.natAbs (toZ y))).length ∧ Dig out ∧ i ≤ (ofNat (Int.natAbs (toZ x))).length ∧ (∀ k, i + (ofNat (Int.natAbs (toZ y))).length ≤ k → out.getD k 0 = 0) ∧ val out = val ((ofNat (Int.natAbs (toZ x))).take i) * val (ofNat (Int.natAbs (toZ y)))) (fun (i, out) => (ofNat (Int.natAbs (toZ x))).length - i) (0, List.replicate ((ofNat (Int.natAbs (toZ x))).length + (ofNat (Int.natAbs (toZ y))).length) 0) (weak rfl rfl) ⟨by simp, dig_replicate _, Nat.zero_le _, fun k _ => getD_replicate _ k, by simp [val, val_replicate]⟩ ?_
  rintro ⟨i, out⟩ ⟨hlen, hdo, hi, hz, hv⟩
  have hai := hda.getD i
  refine pwp_seq ?_
  refine pwp_seq ?_
  refine pwp_S (S' := [(2, (.ref 0 0)), (3, (.ref 1 0)), (4, (.ref 2 0)), (5, (.own 3 83 1 ((ofNat (Int.natAbs (toZ x))).length + (ofNat (Int.natAbs (toZ y))).length))), (6, (vin i)), (26, (vb (decide (((i : Nat) : Int) < (((ofNat (Int.natAbs (toZ x))).length : Nat) : Int)))))]) (B' := [(0, some (bx (encI (ofZ (toZ x))))), (1, some (bx (encI (ofZ (toZ y))))), (2, some (bx (encI (RInt.mk false [])))), (3, some (bm enc_u32 out))]) ?_ ?_
  · skip
    exact sM (vin i) rfl rfl <| sE' (e_fldr (q := 1) rfl rfl fo24_1 rfl) rfl <| sR (e_ld1 (cs := (bx (encI (ofZ (toZ x))))) (y := (vl 83 1 enc_u32 (ofNat (Int.natAbs (toZ x))))) rfl rfl sh22 rfl) rfl rfl rfl rfl <| sE' (e_ln (r := (((ofNat (Int.natAbs (toZ x))).length : Nat) : Int)) rfl el22 rfl (by simp)) rfl <| sE' (e_lss rfl rfl rfl) rfl <| sNil rfl rfl
  refine pwp_cond (b := decide (((i : Nat) : Int) < (((ofNat (Int.natAbs (toZ x))).length : Nat) : Int))) rfl (fun h1 => ?_) (fun h1 => ?_)
  · skip
    replace h1 := of_decide_eq_true h1
    refine pwp_skip ?_
    refine pwp_seq ?_
    refine pwp_block ?_
    refine pwp_seq ?_
    refine pwp_S (S' := [(2, (.ref 0 0)), (3, (.ref 1 0)), (4, (.ref 2 0)), (5, (.own 3 83 1 ((ofNat (Int.natAbs (toZ x))).length + (ofNat (Int.natAbs (toZ y))).length))), (6, (vin i)), (7, (vqn 0))]) (B' := [(0, some (bx (encI (ofZ (toZ x))))), (1, some (bx (encI (ofZ (toZ y))))), (2, some (bx (encI (RInt.mk false [])))), (3, some (bm enc_u32 out))]) ?_ ?_
    · skip
      exact sM (vqn 0) rfl rfl <| sNil rfl rfl
    refine pwp_seq ?_
    refine pwp_seq ?_
    refine pwp_S (S' := [(2, (.ref 0 0)), (3, (.ref 1 0)), (4, (.ref 2 0)), (5, (.own 3 83 1 ((ofNat (Int.natAbs (toZ x))).length + (ofNat (Int.natAbs (toZ y))).length))), (6, (vin i)), (7, (vqn 0)), (8, (vin 0))]) (B' := [(0, some (bx (encI (ofZ (toZ x))))), (1, some (bx (encI (ofZ (toZ y))))), (2, some (bx (encI (RInt.mk false [])))), (3, some (bm enc_u32 out))]) ?_ ?_
    · skip
      exact sM (vin 0) rfl rfl <| sNil rfl rfl
    refine pwp_block ?_
    refine pwp_loop (α := Nat × List Nat × Nat) (fun (j, o2, c) => ⟨[(2, (.ref 0 0)), (3, (.ref 1 0)), (4, (.ref 2 0)), (5, (.own 3 83 1 ((ofNat (Int.natAbs (toZ x))).length + (ofNat (Int.natAbs (toZ y))).length))), (6, (vin i)), (7, (vqn c)), (8, (vin j))], [(0, some (bx (encI (ofZ (toZ x))))), (1, some (bx (encI (ofZ (toZ y))))), (2, some (bx (encI (RInt.mk false [])))), (3, some (bm enc_u32 o2))]⟩) (fun (j, o2, c) => o2.length = (ofNat (Int.natAbs (toZ x))).length + (ofNat (Int.natAbs (toZ y))).length ∧ Dig o2 ∧ j ≤ (ofNat (Int.natAbs (toZ y))).length ∧ c < 1000000000 ∧ (∀ k, i + (ofNat (Int.natAbs (toZ y))).length ≤ k → o2.getD k 0 = 0) ∧ val o2 + pw (i + j) * c = val ((ofNat (Int.natAbs (toZ x))).take i) * val (ofNat (Int.natAbs (toZ y))) + pw i * ((ofNat (Int.natAbs (toZ x))).getD i 0 * val ((ofNat (Int.natAbs (toZ y))).take j))) (fun (j, o2, c) => (ofNat (Int.natAbs (toZ y))).length - j) (0, out, 0) (weak rfl rfl) ⟨hlen, hdo, Nat.zero_le _, by decide, hz, by simp [val, hv]⟩ ?_
    rintro ⟨j, o2, c⟩ ⟨hlen2, hdo2, hj, hc, hz2, hv2⟩
    have hbj := hdb.getD j
    have hoj := hdo2.getD (i + j)
    have hpq : (ofNat (Int.natAbs (toZ x))).getD i 0 * (ofNat (Int.natAbs (toZ y))).getD j 0 ≤ 999999999 * 999999999 := Nat.mul_le_mul (by omega) (by omega)
    refine pwp_seq ?_
    refine pwp_seq ?_
    refine pwp_S (S' := [(2, (.ref 0 0)), (3, (.ref 1 0)), (4, (.ref 2 0)), (5, (.own 3 83 1 ((ofNat (Int.natAbs (toZ x))).length + (ofNat (Int.natAbs (toZ y))).length))), (6, (vin i)), (7, (vqn c)), (8, (vin j)), (33, (vb (decide (((j : Nat) : Int) < (((ofNat (Int.natAbs (toZ y))).length : Nat) : Int)))))]) (B' := [(0, some (bx (encI (ofZ (toZ x))))), (1, some (bx (encI (ofZ (toZ y))))), (2, some (bx (encI (RInt.mk false [])))), (3, some (bm enc_u32 o2))]) ?_ ?_
    · skip
      exact sM (vin j) rfl rfl <| sE' (e_fldr (q := 1) rfl rfl fo24_1 rfl) rfl <| sR (e_ld1 (cs := (bx (encI (ofZ (toZ y))))) (y := (vl 83 1 enc_u32 (ofNat (Int.natAbs (toZ y))))) rfl rfl sh22 rfl) rfl rfl rfl rfl <| sE' (e_ln (r := (((ofNat (Int.natAbs (toZ y))).length : Nat) : Int)) rfl el22 rfl (by simp)) rfl <| sE' (e_lss rfl rfl rfl) rfl <| sNil rfl rfl
    refine pwp_cond (b := decide (((j : Nat) : Int) < (((ofNat (Int.natAbs (toZ y))).length : Nat) : Int))) rfl (fun h2 => ?_) (fun h2 => ?_)
    · skip
      replace h2 := of_decide_eq_true h2
      refine pwp_skip ?_
      refine pwp_seq ?_
      refine pwp_block ?_
      refine pwp_seq ?_
      refine pwp_D (S' := [(2, (.ref 0 0)), (3, (.ref 1 0)), (4, (.ref 2 0)), (5, (.own 3 83 1 ((ofNat (Int.natAbs (toZ x))).length + (ofNat (Int.natAbs (toZ y))).length))), (6, (vin i)), (8, (vin j)), (9, (vqn (((o2.getD (i + j) 0) + (((ofNat (Int.natAbs (toZ x))).getD i 0) * ((ofNat (Int.natAbs (toZ y))).getD j 0))) + c)))]) (B' := [(0, some (bx (encI (ofZ (toZ x))))), (1, some (bx (encI (ofZ (toZ y))))), (2, some (bx (encI (RInt.mk false [])))), (3, some (bm enc_u32 o2))]) mo (by kernel_rfl) ?_ ?_
      · skip
        exact dM (.own 3 83 1 ((ofNat (Int.natAbs (toZ x))).length + (ofNat (Int.natAbs (toZ y))).length)) rfl rfl rfl <| dM (vin i) rfl rfl rfl <| dM (vin j) rfl rfl rfl <| dE' (e_add (r := (((i + j) : Nat) : Int)) rfl rfl rfl (wi64 (by omega) (by omega) (by omega))) rfl rfl <| dE' (e_ixo (j := (i + j)) (q := (i + j)) rfl el22 rfl rfl (by omega) (by omega) (by simp)) rfl rfl <| dR (e_ld1 (cs := (bm enc_u32 o2)) (y := (vwn (o2.getD (i + j) 0))) rfl rfl sh83 (own_get _ _ _ _ (by omega))) rfl rfl rfl rfl rfl <| dE' (e_conv (r := (((o2.getD (i + j) 0) : Nat) : Int)) rfl un83 in88 rfl (cu64 (by omega))) rfl rfl <| dE' (e_fldr (q := 1) rfl rfl fo24_1 rfl) rfl rfl <| dR (e_ld1 (cs := (bx (encI (ofZ (toZ x))))) (y := (vl 83 1 enc_u32 (ofNat (Int.natAbs (toZ x))))) rfl rfl sh22 rfl) rfl rfl rfl rfl rfl <| dM (vin i) rfl rfl rfl <| dE' (e_ixs (j := i) (cs := (Dat.cells (.val (.int .u32 (((((ofNat (Int.natAbs (toZ x))).getD i 0) : Nat) : Int)))))) rfl el22 rfl rfl (by omega) (ixm _ _ _ _ (by omega))) rfl rfl <| dE' (e_lc1 (cs := (Dat.cells (.val (.int .u32 (((((ofNat (Int.natAbs (toZ x))).getD i 0) : Nat) : Int)))))) (y := (.val (.int .u32 (((((ofNat (Int.natAbs (toZ x))).getD i 0) : Nat) : Int))))) rfl rfl sh83 rfl) rfl rfl <| dE' (e_conv (r := ((((ofNat (Int.natAbs (toZ x))).getD i 0) : Nat) : Int)) rfl un83 in88 rfl (cu64 (by omega))) rfl rfl <| dE' (e_fldr (q := 1) rfl rfl fo24_1 rfl) rfl rfl <| dR (e_ld1 (cs := (bx (encI (ofZ (toZ y))))) (y := (vl 83 1 enc_u32 (ofNat (Int.natAbs (toZ y))))) rfl rfl sh22 rfl) rfl rfl rfl rfl rfl <| dM (vin j) rfl rfl rfl <| dE' (e_ixs (j := j) (cs := (Dat.cells (.val (.int .u32 (((((ofNat (Int.natAbs (toZ y))).getD j 0) : Nat) : Int)))))) rfl el22 rfl rfl (by omega) (ixm _ _ _ _ (by omega))) rfl rfl <| dE' (e_lc1 (cs := (Dat.cells (.val (.int .u32 (((((ofNat (Int.natAbs (toZ y))).getD j 0) : Nat) : Int)))))) (y := (.val (.int .u32 (((((ofNat (Int.natAbs (toZ y))).getD j 0) : Nat) : Int))))) rfl rfl sh83 rfl) rfl rfl <| dE' (e_conv (r := ((((ofNat (Int.natAbs (toZ y))).getD j 0) : Nat) : Int)) rfl un83 in88 rfl (cu64 (by omega))) rfl rfl <| dE' (e_mul (r := (((((ofNat (Int.natAbs (toZ x))).getD i 0) * ((ofNat (Int.natAbs (toZ y))).getD j 0)) : Nat) : Int)) rfl rfl rfl (wu64 (by omega) (by omega) (by omega))) rfl rfl <| dE' (e_add (r := ((((o2.getD (i + j) 0) + (((ofNat (Int.natAbs (toZ x))).getD i 0) * ((ofNat (Int.natAbs (toZ y))).getD j 0))) : Nat) : Int)) rfl rfl rfl (wu64 (by omega) (by omega) (by omega))) rfl rfl <| dM (vqn c) rfl rfl rfl <| dE' (e_add (r := (((((o2.getD (i + j) 0) + (((ofNat (Int.natAbs (toZ x))).getD i 0) * ((ofNat (Int.natAbs (toZ y))).getD j 0))) + c) : Nat) : Int)) rfl rfl rfl (wu64 (by omega) (by omega) (by omega))) rfl rfl <| dM (vqn (((o2.getD (i + j) 0) + (((ofNat (Int.natAbs (toZ x))).getD i 0) * ((ofNat (Int.natAbs (toZ y))).getD j 0))) + c)) rfl rfl rfl <| dNil rfl rfl (by kernel_rfl)
      refine pwp_seq ?_
      refine pwp_S (S' := [(2, (.ref 0 0)), (3, (.ref 1 0)), (4, (.ref 2 0)), (5, (.own 3 83 1 ((ofNat (Int.natAbs (toZ x))).length + (ofNat (Int.natAbs (toZ y))).length))), (6, (vin i)), (8, (vin j)), (9, (vqn (((o2.getD (i + j) 0) + (((ofNat (Int.natAbs (toZ x))).getD i 0) * ((ofNat (Int.natAbs (toZ y))).getD j 0))) + c)))]) (B' := [(0, some (bx (encI (ofZ (toZ x))))), (1, some (bx (encI (ofZ (toZ y))))), (2, some (bx (encI (RInt.mk false [])))), (3, some (bm enc_u32 (o2.set (i + j) ((((o2.getD (i + j) 0) + (((ofNat (Int.natAbs (toZ x))).getD i 0) * ((ofNat (Int.natAbs (toZ y))).getD j 0))) + c) % 1000000000))))]) ?_ ?_
      · skip
        exact sM (.own 3 83 1 ((ofNat (Int.natAbs (toZ x))).length + (ofNat (Int.natAbs (toZ y))).length)) rfl rfl <| sM (vin i) rfl rfl <| sM (vin j) rfl rfl <| sE' (e_add (r := (((i + j) : Nat) : Int)) rfl rfl rfl (wi64 (by omega) (by omega) (by omega))) rfl <| sM (vqn (((o2.getD (i + j) 0) + (((ofNat (Int.natAbs (toZ x))).getD i 0) * ((ofNat (Int.natAbs (toZ y))).getD j 0))) + c)) rfl rfl <| sE' (e_rem (r := ((((((o2.getD (i + j) 0) + (((ofNat (Int.natAbs (toZ x))).getD i 0) * ((ofNat (Int.natAbs (toZ y))).getD j 0))) + c) % 1000000000) : Nat) : Int)) rfl rfl rfl (by decide) (tmod_nat _ _)) rfl <| sE' (e_conv (r := ((((((o2.getD (i + j) 0) + (((ofNat (Int.natAbs (toZ x))).getD i 0) * ((ofNat (Int.natAbs (toZ y))).getD j 0))) + c) % 1000000000) : Nat) : Int)) rfl un88 in83 rfl (cu32 (by omega))) rfl <| sE' (e_ixo (j := (i + j)) (q := (i + j)) rfl el22 rfl rfl (by omega) (by omega) (by simp)) rfl <| sT (t_st1 (cs := (bm enc_u32 (o2.set (i + j) ((((o2.getD (i + j) 0) + (((ofNat (Int.natAbs (toZ x))).getD i 0) * ((ofNat (Int.natAbs (toZ y))).getD j 0))) + c) % 1000000000)))) rfl rfl rfl sh83 rfl rfl (own_len _ _ _ (by omega)) (own_set _ _ _ _)) rfl rfl rfl <| sNil rfl rfl
      refine pwp_S (S' := [(2, (.ref 0 0)), (3, (.ref 1 0)), (4, (.ref 2 0)), (5, (.own 3 83 1 ((ofNat (Int.natAbs (toZ x))).length + (ofNat (Int.natAbs (toZ y))).length))), (6, (vin i)), (7, (vqn ((((o2.getD (i + j) 0) + (((ofNat (Int.natAbs (toZ x))).getD i 0) * ((ofNat (Int.natAbs (toZ y))).getD j 0))) + c) / 1000000000))), (8, (vin j))]) (B' := [(0, some (bx (encI (ofZ (toZ x))))), (1, some (bx (encI (ofZ (toZ y))))), (2, some (bx (encI (RInt.mk false [])))), (3, some (bm enc_u32 (o2.set (i + j) ((((o2.getD (i + j) 0) + (((ofNat (Int.natAbs (toZ x))).getD i 0) * ((ofNat (Int.natAbs (toZ y))).getD j 0))) + c) % 1000000000))))]) ?_ ?_
      · skip
        exact sM (vqn (((o2.getD (i + j) 0) + (((ofNat (Int.natAbs (toZ x))).getD i 0) * ((ofNat (Int.natAbs (toZ y))).getD j 0))) + c)) rfl rfl <| sE' (e_quo (r := ((((((o2.getD (i + j) 0) + (((ofNat (Int.natAbs (toZ x))).getD i 0) * ((ofNat (Int.natAbs (toZ y))).getD j 0))) + c) / 1000000000) : Nat) : Int)) rfl rfl rfl (by decide) (quo_u64 _ _ (by omega))) rfl <| sM (vqn ((((o2.getD (i + j) 0) + (((ofNat (Int.natAbs (toZ x))).getD i 0) * ((ofNat (Int.natAbs (toZ y))).getD j 0))) + c) / 1000000000)) rfl rfl <| sNil rfl rfl
      refine pwp_S (S' := [(2, (.ref 0 0)), (3, (.ref 1 0)), (4, (.ref 2 0)), (5, (.own 3 83 1 ((ofNat (Int.natAbs (toZ x))).length + (ofNat (Int.natAbs (toZ y))).length))), (6, (vin i)), (7, (vqn ((((o2.getD (i + j) 0) + (((ofNat (Int.natAbs (toZ x))).getD i 0) * ((ofNat (Int.natAbs (toZ y))).getD j 0))) + c) / 1000000000))), (8, (vin (j + 1)))]) (B' := [(0, some (bx (encI (ofZ (toZ x))))), (1, some (bx (encI (ofZ (toZ y))))), (2, some (bx (encI (RInt.mk false [])))), (3, some (bm enc_u32 (o2.set (i + j) ((((o2.getD (i + j) 0) + (((ofNat (Int.natAbs (toZ x))).getD i 0) * ((ofNat (Int.natAbs (toZ y))).getD j 0))) + c) % 1000000000))))]) ?_ ?_
      · skip
        exact sM (vin j) rfl rfl <| sE' (e_add (r := (((j + 1) : Nat) : Int)) rfl rfl rfl (wi64 (by omega) (by omega) (by omega))) rfl <| sM (vin (j + 1)) rfl rfl <| sNil rfl rfl
      exact ⟨(j + 1, o2.set (i + j) ((o2.getD (i + j) 0 + (ofNat (Int.natAbs (toZ x))).getD i 0 * (ofNat (Int.natAbs (toZ y))).getD j 0 + c) % 1000000000), (o2.getD (i + j) 0 + (ofNat (Int.natAbs (toZ x))).getD i 0 * (ofNat (Int.natAbs (toZ y))).getD j 0 + c) / 1000000000), (weak rfl rfl), (by obtain ⟨q1, q2⟩ := times_step (by omega) hdo2 hv2 rfl (val_take_succ _ j); exact ⟨by simpa using hlen2, q1, by omega, by omega, zero_set (by omega) hz2, q2⟩), (by first | omega | (dsimp only; omega))⟩
    · skip
      replace h2 := of_decide_eq_false h2
      have hje : j = (ofNat (Int.natAbs (toZ y))).length := by omega
      rw [hje] at hv2
      refine pwp_exit ?_
      refine pwp_S (S' := [(2, (.ref 0 0)), (3, (.ref 1 0)), (4, (.ref 2 0)), (5, (.own 3 83 1 ((ofNat (Int.natAbs (toZ x))).length + (ofNat (Int.natAbs (toZ y))).length))), (6, (vin i))]) (B' := [(0, some (bx (encI (ofZ (toZ x))))), (1, some (bx (encI (ofZ (toZ y))))), (2, some (bx (encI (RInt.mk false [])))), (3, some (bm enc_u32 (o2.set (i + (ofNat (Int.natAbs (toZ y))).length) c)))]) ?_ ?_
      · skip
        exact sM (.own 3 83 1 ((ofNat (Int.natAbs (toZ x))).length + (ofNat (Int.natAbs (toZ y))).length)) rfl rfl <| sM (vin i) rfl rfl <| sE' (e_fldr (q := 1) rfl rfl fo24_1 rfl) rfl <| sR (e_ld1 (cs := (bx (encI (ofZ (toZ y))))) (y := (vl 83 1 enc_u32 (ofNat (Int.natAbs (toZ y))))) rfl rfl sh22 rfl) rfl rfl rfl rfl <| sE' (e_ln (r := (((ofNat (Int.natAbs (toZ y))).length : Nat) : Int)) rfl el22 rfl (by simp)) rfl <| sE' (e_add (r := (((i + (ofNat (Int.natAbs (toZ y))).length) : Nat) : Int)) rfl rfl rfl (wi64 (by omega) (by omega) (by omega))) rfl <| sM (vqn c) rfl rfl <| sE' (e_conv (r := ((c : Nat) : Int)) rfl un88 in83 rfl (cu32 (by omega))) rfl <| sE' (e_ixo (j := (i + (ofNat (Int.natAbs (toZ y))).length)) (q := (i + (ofNat (Int.natAbs (toZ y))).length)) rfl el22 rfl rfl (by omega) (by omega) (by simp)) rfl <| sT (t_st1 (cs := (bm enc_u32 (o2.set (i + (ofNat (Int.natAbs (toZ y))).length) c))) rfl rfl rfl sh83 rfl rfl (own_len _ _ _ (by omega)) (own_set _ _ _ _)) rfl rfl rfl <| sNil rfl rfl
      refine pwp_S (S' := [(2, (.ref 0 0)), (3, (.ref 1 0)), (4, (.ref 2 0)), (5, (.own 3 83 1 ((ofNat (Int.natAbs (toZ x))).length + (ofNat (Int.natAbs (toZ y))).length))), (6, (vin (i + 1)))]) (B' := [(0, some (bx (encI (ofZ (toZ x))))), (1, some (bx (encI (ofZ (toZ y))))), (2, some (bx (encI (RInt.mk false [])))), (3, some (bm enc_u32 (o2.set (i + (ofNat (Int.natAbs (toZ y))).length) c)))]) ?_ ?_
      · skip
        exact sM (vin i) rfl rfl <| sE' (e_add (r := (((i + 1) : Nat) : Int)) rfl rfl rfl (wi64 (by omega) (by omega) (by omega))) rfl <| sM (vin (i + 1)) rfl rfl <| sNil rfl rfl
      exact ⟨(i + 1, o2.set (i + (ofNat (Int.natAbs (toZ y))).length) c), (weak rfl rfl), (by obtain ⟨q1, q2, q3, q4⟩ := times_row hdo2 (by omega) hlen2 hz2 hc hv2; exact ⟨q1, q2, by omega, q3, q4⟩), (by first | omega | (dsimp only; omega))⟩
  · skip
    replace h1 := of_decide_eq_false h1
    have hie : i = (ofNat (Int.natAbs (toZ x))).length := by omega
    rw [hie, List.take_length] at hv
    refine pwp_exit ?_
    refine pwp_seq ?_
    refine pwp_sim (publish (t := 5) (k := 3) (es := List.map enc_u32 out) rfl rfl (pub_cells _ _ (fun _ => rfl)) (map_len _ _ hlen) (pub_take _ _ (fun _ => rfl) hlen)) ?_
    refine pwp_sim (weak (l := [(2, (.ref 0 0)), (3, (.ref 1 0)), (4, (.ref 2 0)), (5, (vl 83 1 enc_u32 out)), (6, (vin i)), (26, (vb (decide (((i : Nat) : Int) < (((ofNat (Int.natAbs (toZ x))).length : Nat) : Int)))))]) (b := [(0, some (bx (encI (ofZ (toZ x))))), (1, some (bx (encI (ofZ (toZ y))))), (2, some (bx (encI (RInt.mk false []))))]) rfl rfl) ?_
    refine pwp_S (S' := [(4, (.ref 2 0))]) (B' := [(2, some (bx (encI (mkI (!(((ofZ (toZ x)).neg) == ((ofZ (toZ y)).neg))) (val out)))))]) ?_ ?_
    · skip
      exact sE' (e_fldr (q := 0) rfl rfl fo24_0 rfl) rfl <| sR (e_ld1 (cs := (bx (encI (ofZ (toZ x))))) (y := (vb ((ofZ (toZ x)).neg))) rfl rfl sh4 rfl) rfl rfl rfl rfl <| sE' (e_fldr (q := 0) rfl rfl fo24_0 rfl) rfl <| sR (e_ld1 (cs := (bx (encI (ofZ (toZ y))))) (y := (vb ((ofZ (toZ y)).neg))) rfl rfl sh4 rfl) rfl rfl rfl rfl <| sE' (e_neqb rfl bo4 rfl rfl) rfl <| sM (vl 83 1 enc_u32 out) rfl rfl <| sE' (e_cl (r_made (!(((ofZ (toZ x)).neg) == ((ofZ (toZ y)).neg))) out hdo (by omega)) rfl rfl rfl) rfl <| sT (t_std (d := (encI (mkI (!(((ofZ (toZ x)).neg) == ((ofZ (toZ y)).neg))) (val out)))) (cs := (bx (encI (mkI (!(((ofZ (toZ x)).neg) == ((ofZ (toZ y)).neg))) (val out))))) rfl rfl rfl sh24 rfl rfl rfl rfl) rfl rfl rfl <| sNil rfl rfl
    refine pwp_ret ⟨_, (res_a (cs := (bx (encI (mkI (!(((ofZ (toZ x)).neg) == ((ofZ (toZ y)).neg))) (val out))))) (d := (encI (mkI (!(((ofZ (toZ x)).neg) == ((ofZ (toZ y)).neg))) (val out)))) rfl rfl sh24 rfl rfl .nil), ?_⟩
    rw [hv, rmul_eq]; rfl
theorem r_short (a : List Nat) (d : Nat) (hda : Dig a) (hd0 : 0 < d) (hd1 : d ≤ 1000000000) (hla : a.length ≤ 17592186044416) : Takes Tryz.prog 139 [(.sl 83 1 (List.map enc_u32 a)), (.val (.int .u64 (((d : Nat) : Int))))] (.tup [(.sl 83 1 (List.map enc_u32 (ofNat (val a / d)))), (.val (.int .u64 ((((val a % d) : Nat) : Int))))]) := by
  refine fn_intro Tryz.func139 rfl cb139 rfl ?_
  show PWp _ _ _ _ ⟨[(0, (vl 83 1 enc_u32 a)), (1, (vqn d))], []⟩
  refine pwp_seq ?_
  refine pwp_S (S' := [(0, (vl 83 1 enc_u32 a)), (1, (vqn d))]) (B' := []) ?_ ?_
  · skip
    exact sE' (e_asgnil 83 1 rfl) rfl <| sM (vqn 0) rfl rfl <| sNil rfl rfl
  refine pwp_seq ?_
  refine pwp_S (S' := [(0, (vl 83 1 enc_u32 a)), (1, (vqn d)), (6, (.own 0 83 1 a.length))]) (B' := [(0, some (bm enc_u32 (List.replicate a.length 0)))]) ?_ ?_
  · skip
    exact sM (vl 83 1 enc_u32 a) rfl rfl <| sE' (e_ln (r := ((a.length : Nat) : Int)) rfl el22 rfl (by simp)) rfl <| sN (n_mks (n := a.length) (m := a.length) (cs := (bm enc_u32 (List.replicate a.length 0))) 0 rfl el22 ze83 zo83 rfl by83 rfl rfl (by omega) (by omega) (by unfold maxLen; omega) (own_zero enc_u32 _ _)) rfl rfl rfl rfl <| sM (.own 0 83 1 a.length) rfl rfl <| sNil rfl rfl
  refine pwp_seq ?_
  refine pwp_S (S' := [(0, (vl 83 1 enc_u32 a)), (1, (vqn d)), (6, (.own 0 83 1 a.length)), (7, (vqn 0))]) (B' := [(0, some (bm enc_u32 (List.replicate a.length 0)))]) ?_ ?_
  · skip
    exact sM (vqn 0) rfl rfl <| sNil rfl rfl
  refine pwp_seq ?_
  refine pwp_seq ?_
  refine pwp_S (S' := [(0, (vl 83 1 enc_u32 a)), (1, (vqn d)), (6, (.own 0 83 1 a.length)), (7, (vqn 0)), (8, (vi (((a.length : Nat) : Int) - 1)))]) (B' := [(0, some (bm enc_u32 (List.replicate a.length 0)))]) ?_ ?_
  · skip
    exact sM (vl 83 1 enc_u32 a) rfl rfl <| sE' (e_ln (r := ((a.length : Nat) : Int)) rfl el22 rfl (by simp)) rfl <| sE' (e_sub (r := (((a.length : Nat) : Int) - 1)) rfl rfl rfl (wi64 (by omega) (by omega) (by omega))) rfl <| sM (vi (((a.length : Nat) : Int) - 1)) rfl rfl <| sNil rfl rfl
  refine pwp_block ?_
  refine pwp_loop (α := Nat × List Nat × Nat) (fun (k, q, rest) => ⟨[(0, (vl 83 1 enc_u32 a)), (1, (vqn d)), (6, (.own 0 83 1 a.length)), (7, (vqn rest)), (8, (vi (((k : Nat) : Int) - 1)))], [(0, some (bm enc_u32 q))]⟩) (fun (k, q, rest) => k ≤ a.length ∧ q.length = a.length ∧ Dig q ∧ rest < d ∧ val (a.drop k) = val (q.drop k) * d + rest) (fun (k, q, rest) => k) (a.length, List.replicate a.length 0, 0) (weak rfl rfl) ⟨Nat.le_refl _, by simp, dig_replicate _, hd0, by simp [val]⟩ ?_
  rintro ⟨k, q, rest⟩ ⟨hk, hlen, hdq, hr, hv⟩
  refine pwp_seq ?_
  refine pwp_seq ?_
  refine pwp_S (S' := [(0, (vl 83 1 enc_u32 a)), (1, (vqn d)), (6, (.own 0 83 1 a.length)), (7, (vqn rest)), (8, (vi (((k : Nat) : Int) - 1))), (17, (vb (decide (0 ≤ (((k : Nat) : Int) - 1)))))]) (B' := [(0, some (bm enc_u32 q))]) ?_ ?_
  · skip
    exact sM (vi (((k : Nat) : Int) - 1)) rfl rfl <| sE' (e_geq rfl rfl rfl) rfl <| sNil rfl rfl
  refine pwp_cond (b := decide (0 ≤ (((k : Nat) : Int) - 1))) rfl (fun h1 => ?_) (fun h1 => ?_)
  · skip
    replace h1 := of_decide_eq_true h1
    obtain ⟨i, rfl⟩ : ∃ i, k = i + 1 := ⟨k - 1, by omega⟩
    rw [show (((i + 1 : Nat) : Int) - 1) = ((i : Nat) : Int) from by omega]
    have hg := hda.getD i
    obtain ⟨hb1, hb2⟩ := short_bound hr hd1 hg
    refine pwp_skip ?_
    refine pwp_seq ?_
    refine pwp_block ?_
    refine pwp_seq ?_
    refine pwp_S (S' := [(0, (vl 83 1 enc_u32 a)), (1, (vqn d)), (6, (.own 0 83 1 a.length)), (8, (vin i)), (9, (vqn ((rest * 1000000000) + (a.getD i 0))))]) (B' := [(0, some (bm enc_u32 q))]) ?_ ?_
    · skip
      exact sM (vqn rest) rfl rfl <| sE' (e_mul (r := (((rest * 1000000000) : Nat) : Int)) rfl rfl rfl (wu64 (by omega) (by omega) (by omega))) rfl <| sM (vl 83 1 enc_u32 a) rfl rfl <| sM (vin i) rfl rfl <| sE' (e_ixs (j := i) (cs := (Dat.cells (.val (.int .u32 ((((a.getD i 0) : Nat) : Int)))))) rfl el22 rfl rfl (by omega) (ixm _ _ _ _ (by omega))) rfl <| sE' (e_lc1 (cs := (Dat.cells (.val (.int .u32 ((((a.getD i 0) : Nat) : Int)))))) (y := (.val (.int .u32 ((((a.getD i 0) : Nat) : Int))))) rfl rfl sh83 rfl) rfl <| sE' (e_conv (r := (((a.getD i 0) : Nat) : Int)) rfl un83 in88 rfl (cu64 (by omega))) rfl <| sE' (e_add (r := ((((rest * 1000000000) + (a.getD i 0)) : Nat) : Int)) rfl rfl rfl (wu64 (by omega) (by omega) (by omega))) rfl <| sM (vqn ((rest * 1000000000) + (a.getD i 0))) rfl rfl <| sNil rfl rfl
    refine pwp_seq ?_
    refine pwp_S (S' := [(0, (vl 83 1 enc_u32 a)), (1, (vqn d)), (6, (.own 0 83 1 a.length)), (8, (vin i)), (9, (vqn ((rest * 1000000000) + (a.getD i 0))))]) (B' := [(0, some (bm enc_u32 (q.set i (((rest * 1000000000) + (a.getD i 0)) / d))))]) ?_ ?_
    · skip
      exact sM (.own 0 83 1 a.length) rfl rfl <| sM (vin i) rfl rfl <| sM (vqn ((rest * 1000000000) + (a.getD i 0))) rfl rfl <| sM (vqn d) rfl rfl <| sE' (e_quo (r := (((((rest * 1000000000) + (a.getD i 0)) / d) : Nat) : Int)) rfl rfl rfl (by omega) (quo_u64 _ _ (by omega))) rfl <| sE' (e_conv (r := (((((rest * 1000000000) + (a.getD i 0)) / d) : Nat) : Int)) rfl un88 in83 rfl (cu32 (by omega))) rfl <| sE' (e_ixo (j := i) (q := i) rfl el22 rfl rfl (by omega) (by omega) (by simp)) rfl <| sT (t_st1 (cs := (bm enc_u32 (q.set i (((rest * 1000000000) + (a.getD i 0)) / d)))) rfl rfl rfl sh83 rfl rfl (own_len _ _ _ (by omega)) (own_set _ _ _ _)) rfl rfl rfl <| sNil rfl rfl
    refine pwp_S (S' := [(0, (vl 83 1 enc_u32 a)), (1, (vqn d)), (6, (.own 0 83 1 a.length)), (7, (vqn (((rest * 1000000000) + (a.getD i 0)) % d))), (8, (vin i))]) (B' := [(0, some (bm enc_u32 (q.set i (((rest * 1000000000) + (a.getD i 0)) / d))))]) ?_ ?_
    · skip
      exact sM (vqn ((rest * 1000000000) + (a.getD i 0))) rfl rfl <| sM (vqn d) rfl rfl <| sE' (e_rem (r := (((((rest * 1000000000) + (a.getD i 0)) % d) : Nat) : Int)) rfl rfl rfl (by omega) (tmod_nat _ _)) rfl <| sM (vqn (((rest * 1000000000) + (a.getD i 0)) % d)) rfl rfl <| sNil rfl rfl
    refine pwp_S (S' := [(0, (vl 83 1 enc_u32 a)), (1, (vqn d)), (6, (.own 0 83 1 a.length)), (7, (vqn (((rest * 1000000000) + (a.getD i 0)) % d))), (8, (vi (((i : Nat) : Int) - 1)))]) (B' := [(0, some (bm enc_u32 (q.set i (((rest * 1000000000) + (a.getD i 0)) / d))))]) ?_ ?_
    · skip
      exact sM (vin i) rfl rfl <| sE' (e_sub (r := (((i : Nat) : Int) - 1)) rfl rfl rfl (wi64 (by omega) (by omega) (by omega))) rfl <| sM (vi (((i : Nat) : Int) - 1)) rfl rfl <| sNil rfl rfl
    exact ⟨(i, q.set i ((rest * 1000000000 + a.getD i 0) / d), (rest * 1000000000 + a.getD i 0) % d), (weak rfl rfl), ⟨by omega, by simpa using hlen, hdq.set _ hb2, Nat.mod_lt _ hd0, rshort_step (by omega) hv rfl⟩, (by first | omega | (dsimp only; omega))⟩
  · skip
    replace h1 := of_decide_eq_false h1
    obtain rfl : k = 0 := by omega
    obtain ⟨e1, e2⟩ := short_end (a := a) (q := q) (by rw [Nat.sub_self]; exact hv) hr
    refine pwp_exit ?_
    refine pwp_seq ?_
    refine pwp_sim (publish (t := 6) (k := 0) (es := List.map enc_u32 q) rfl rfl (pub_cells _ _ (fun _ => rfl)) (map_len _ _ hlen) (pub_take _ _ (fun _ => rfl) hlen)) ?_
    refine pwp_sim (weak (l := [(0, (vl 83 1 enc_u32 a)), (1, (vqn d)), (6, (vl 83 1 enc_u32 q)), (7, (vqn rest))]) (b := []) rfl rfl) ?_
    refine pwp_S (S' := [(4, (vl 83 1 enc_u32 (ofNat (val q)))), (5, (vqn rest))]) (B' := []) ?_ ?_
    · skip
      exact sM (vl 83 1 enc_u32 q) rfl rfl <| sE' (e_cl (r_made false q (by first | assumption | exact ofNat_dig _ | exact (ofNat_can _).1 | exact (grpI_can _).1) (by omega)) rfl rfl rfl) rfl <| sE' (e_fld1 (cs := (Dat.cells (encI (mkI false (val q))))) (y := (vl 83 1 enc_u32 (ofNat (val q)))) rfl rfl ft24_1 sh22 rfl rfl) rfl <| sM (vqn rest) rfl rfl <| sM (vl 83 1 enc_u32 (ofNat (val q))) rfl rfl <| sM (vqn rest) rfl rfl <| sNil rfl rfl
    refine pwp_ret ⟨_, (.tmp (d := (.sl 83 1 (List.map enc_u32 (ofNat (val q))))) rfl (.tmp (d := (.val (.int .u64 (((rest : Nat) : Int))))) rfl .nil)), ?_⟩
    rw [← e1, ← e2]; rfl
theorem r_pair (l : List Nat) (hd : Dig l) (h2 : l.length ≤ 2) : Takes Tryz.prog 115 [(.sl 83 1 (List.map enc_u32 l))] (.val (.int .u64 ((((val l) : Nat) : Int)))) := by
  have h0 := hd.getD 0
  have h1 := hd.getD 1
  refine fn_intro Tryz.func115 rfl cb115 rfl ?_
  show PWp _ _ _ _ ⟨[(0, (vl 83 1 enc_u32 l))], []⟩
  refine pwp_seq ?_
  refine pwp_S (S' := [(0, (vl 83 1 enc_u32 l))]) (B' := []) ?_ ?_
  · skip
    exact sM (vqn 0) rfl rfl <| sNil rfl rfl
  refine pwp_seq ?_
  refine pwp_S (S' := [(2, (vqn (((l.getD 1 0) * 1000000000) + (l.getD 0 0))))]) (B' := []) ?_ ?_
  · skip
    exact sM (vl 83 1 enc_u32 l) rfl rfl <| sE' (e_cl (r_group l 1 (by first | assumption | exact ofNat_dig _ | exact (ofNat_can _).1 | exact (grpI_can _).1)) rfl rfl rfl) rfl <| sE' (e_mul (r := ((((l.getD 1 0) * 1000000000) : Nat) : Int)) rfl rfl rfl (wu64 (by omega) (by omega) (by omega))) rfl <| sM (vl 83 1 enc_u32 l) rfl rfl <| sE' (e_cl (r_group l 0 (by first | assumption | exact ofNat_dig _ | exact (ofNat_can _).1 | exact (grpI_can _).1)) rfl rfl rfl) rfl <| sE' (e_add (r := (((((l.getD 1 0) * 1000000000) + (l.getD 0 0)) : Nat) : Int)) rfl rfl rfl (wu64 (by omega) (by omega) (by omega))) rfl <| sM (vqn (((l.getD 1 0) * 1000000000) + (l.getD 0 0))) rfl rfl <| sNil rfl rfl
  refine pwp_ret ⟨_, (.tmp (d := (.val (.int .u64 ((((((l.getD 1 0) * 1000000000) + (l.getD 0 0)) : Nat) : Int))))) rfl .nil), ?_⟩
  rw [val_pair h2]; rfl
theorem r_parts (a b : List Nat) (hda : Cano a) (hdb : Cano b) (hb0 : 0 < b.length) (hla : a.length ≤ 1099511627776) (hlb : b.length ≤ 1099511627776) : Takes Tryz.prog 113 [(.sl 83 1 (List.map enc_u32 a)), (.sl 83 1 (List.map enc_u32 b))] (.tup [(.sl 83 1 (List.map enc_u32 (ofNat (val a / val b)))), (.sl 83 1 (List.map enc_u32 (ofNat (val a % val b))))]) := by
  have hsc := scl_bound hdb hb0
  have htp := top_pos hdb hb0
  have hbp := len_pos_val hdb hb0
  refine fn_intro Tryz.func113 rfl cb113 rfl ?_
  show PWp _ _ _ _ ⟨[(0, (vl 83 1 enc_u32 a)), (1, (vl 83 1 enc_u32 b))], []⟩
  refine pwp_seq ?_
  refine pwp_S (S' := [(0, (vl 83 1 enc_u32 a)), (1, (vl 83 1 enc_u32 b))]) (B' := []) ?_ ?_
  · skip
    exact sE' (e_asgnil 83 1 rfl) rfl <| sE' (e_asgnil 83 1 rfl) rfl <| sNil rfl rfl
  refine pwp_seq ?_
  refine pwp_S (S' := [(0, (vl 83 1 enc_u32 a)), (1, (vl 83 1 enc_u32 b)), (6, (vin b.length))]) (B' := []) ?_ ?_
  · skip
    exact sM (vl 83 1 enc_u32 b) rfl rfl <| sE' (e_ln (r := ((b.length : Nat) : Int)) rfl el22 rfl (by simp)) rfl <| sM (vin b.length) rfl rfl <| sNil rfl rfl
  refine pwp_seq ?_
  refine pwp_seq ?_
  refine pwp_S (S' := [(0, (vl 83 1 enc_u32 a)), (1, (vl 83 1 enc_u32 b)), (6, (vin b.length)), (19, (vb (((b.length : Nat) : Int) == 1)))]) (B' := []) ?_ ?_
  · skip
    exact sM (vin b.length) rfl rfl <| sE' (e_eql rfl rfl rfl) rfl <| sNil rfl rfl
  refine pwp_cond (b := (((b.length : Nat) : Int) == 1)) rfl (fun h1 => ?_) (fun h1 => ?_)
  · skip
    replace h1 := eq_of_beq h1
    have hg0 := hdb.1.getD 0
    have hv1 := val_len1 (b := b) (by omega)
    have hb00 : 0 < b.getD 0 0 := by omega
    have hrl : val a % b.getD 0 0 < 1000000000 := Nat.lt_trans (Nat.mod_lt _ hb00) (by omega)
    refine pwp_seq ?_
    refine pwp_S (S' := [(7, (vl 83 1 enc_u32 (ofNat (val a / (b.getD 0 0))))), (8, (vqn (val a % (b.getD 0 0))))]) (B' := []) ?_ ?_
    · skip
      exact sM (vl 83 1 enc_u32 a) rfl rfl <| sM (vl 83 1 enc_u32 b) rfl rfl <| sE' (e_ixs (j := 0) (cs := (Dat.cells (.val (.int .u32 ((((b.getD 0 0) : Nat) : Int)))))) rfl el22 rfl rfl (by omega) (ixm _ _ _ _ (by omega))) rfl <| sE' (e_lc1 (cs := (Dat.cells (.val (.int .u32 ((((b.getD 0 0) : Nat) : Int)))))) (y := (.val (.int .u32 ((((b.getD 0 0) : Nat) : Int))))) rfl rfl sh83 rfl) rfl <| sE' (e_conv (r := (((b.getD 0 0) : Nat) : Int)) rfl un83 in88 rfl (cu64 (by omega))) rfl <| sE' (e_cl (r_short a (b.getD 0 0) hda.1 (by omega) (by omega) (by omega)) rfl rfl rfl) rfl <| sM (.d (.tup [(.sl 83 1 (List.map enc_u32 (ofNat (val a / (b.getD 0 0))))), (.val (.int .u64 ((((val a % (b.getD 0 0)) : Nat) : Int))))])) rfl rfl <| sE' (e_exD (d := (.sl 83 1 (List.map enc_u32 (ofNat (val a / (b.getD 0 0)))))) rfl rfl rfl) rfl <| sE' (e_exD (d := (.val (.int .u64 ((((val a % (b.getD 0 0)) : Nat) : Int))))) rfl rfl rfl) rfl <| sM (vl 83 1 enc_u32 (ofNat (val a / (b.getD 0 0)))) rfl rfl <| sM (vqn (val a % (b.getD 0 0))) rfl rfl <| sNil rfl rfl
    refine pwp_seq ?_
    refine pwp_S (S' := [(4, (vl 83 1 enc_u32 (ofNat (val a / (b.getD 0 0))))), (5, (vl 83 1 enc_u32 (ofNat (val [(val a % (b.getD 0 0))]))))]) (B' := []) ?_ ?_
    · skip
      exact sM (vl 83 1 enc_u32 (ofNat (val a / (b.getD 0 0)))) rfl rfl <| sM (vqn (val a % (b.getD 0 0))) rfl rfl <| sE' (e_conv (r := (((val a % (b.getD 0 0)) : Nat) : Int)) rfl un88 in83 rfl (cu32 (by omega))) rfl <| sE' (e_bsl (pd := [(0, (.val (.int .u32 ((((val a % (b.getD 0 0)) : Nat) : Int)))))]) (es := List.map enc_u32 [(val a % (b.getD 0 0))]) rfl el22 ze83 zo83 rfl rfl rfl rfl rfl rfl rfl rfl) rfl <| sE' (e_cl (r_made false [(val a % (b.getD 0 0))] (dig_cons.2 ⟨by omega, dig_nil⟩) (by simp)) rfl rfl rfl) rfl <| sE' (e_fld1 (cs := (Dat.cells (encI (mkI false (val [(val a % (b.getD 0 0))]))))) (y := (vl 83 1 enc_u32 (ofNat (val [(val a % (b.getD 0 0))])))) rfl rfl ft24_1 sh22 rfl rfl) rfl <| sM (vl 83 1 enc_u32 (ofNat (val a / (b.getD 0 0)))) rfl rfl <| sM (vl 83 1 enc_u32 (ofNat (val [(val a % (b.getD 0 0))]))) rfl rfl <| sNil rfl rfl
    refine pwp_ret ⟨_, (.tmp (d := (.sl 83 1 (List.map enc_u32 (ofNat (val a / (b.getD 0 0)))))) rfl (.tmp (d := (.sl 83 1 (List.map enc_u32 (ofNat (val [(val a % (b.getD 0 0))]))))) rfl .nil)), ?_⟩
    rw [hv1, val_one]; rfl
  · skip
    replace h1 := ne_of_beq_false h1
    refine pwp_skip ?_
    refine pwp_seq ?_
    refine pwp_seq ?_
    refine pwp_S (S' := [(0, (vl 83 1 enc_u32 a)), (1, (vl 83 1 enc_u32 b)), (6, (vin b.length)), (38, (vb (decide ((cmpI ((val a : Nat) : Int) ((val b : Nat) : Int)) < 0))))]) (B' := []) ?_ ?_
    · skip
      exact sM (vl 83 1 enc_u32 a) rfl rfl <| sM (vl 83 1 enc_u32 b) rfl rfl <| sE' (e_cl (r_size a b (by first | assumption | exact ofNat_can _ | exact grpI_can _) (by first | assumption | exact ofNat_can _ | exact grpI_can _) (by omega) (by omega)) rfl rfl rfl) rfl <| sE' (e_lss rfl rfl rfl) rfl <| sNil rfl rfl
    refine pwp_cond (b := decide ((cmpI ((val a : Nat) : Int) ((val b : Nat) : Int)) < 0)) rfl (fun h2 => ?_) (fun h2 => ?_)
    · skip
      replace h2 := of_decide_eq_true h2
      refine pwp_seq ?_
      refine pwp_S (S' := [(4, (vl 83 1 enc_u32 [])), (5, (vl 83 1 enc_u32 a))]) (B' := []) ?_ ?_
      · skip
        exact sE' (e_bsl (pd := []) (es := List.map enc_u32 []) rfl el22 ze83 zo83 rfl rfl rfl rfl rfl rfl rfl rfl) rfl <| sM (vl 83 1 enc_u32 a) rfl rfl <| sM (vl 83 1 enc_u32 []) rfl rfl <| sM (vl 83 1 enc_u32 a) rfl rfl <| sNil rfl rfl
      refine pwp_ret ⟨_, (.tmp (d := (.sl 83 1 (List.map enc_u32 []))) rfl (.tmp (d := (.sl 83 1 (List.map enc_u32 a))) rfl .nil)), ?_⟩
      have hlt := cmpI_neg h2
      rw [Nat.div_eq_of_lt hlt, Nat.mod_eq_of_lt hlt, ofNat_zero, ← can_eq hda]; rfl
    · skip
      replace h2 := of_decide_eq_false h2
      obtain ⟨u, hue⟩ : ∃ u, u = ofNat (val a * scl b) := ⟨_, rfl⟩
      obtain ⟨v, hve⟩ : ∃ v, v = ofNat (val b * scl b) := ⟨_, rfl⟩
      have hu : Dig u := by rw [hue]; exact ofNat_dig _
      have hcv : Cano v := by rw [hve]; exact ofNat_can _
      have hvd := hcv.1
      have hvl : v.length = b.length := by rw [hve]; exact scl_len hdb hb0
      have hvv : val v = val b * scl b := by rw [hve]; exact ofNat_val _
      have huv : val u = val a * scl b := by rw [hue]; exact ofNat_val _
      have hab := len_of_le hda hdb (cmpI_nn h2)
      have hul : a.length ≤ u.length ∧ u.length ≤ a.length + 1 := by rw [hue]; exact scl_lenA hda hdb hb0
      have hvp := len_pos_val hcv (by omega)
      have hpv : pw (b.length - 1) ≤ val v := by have h1 := val_top hvd (by omega); have h3 := top_pos hcv (by omega); rw [hvl] at h1 h3; have h2 := Nat.mul_le_mul_right (pw (b.length - 1)) h3.1; omega
      refine pwp_skip ?_
      refine pwp_seq ?_
      refine pwp_S (S' := [(0, (vl 83 1 enc_u32 a)), (1, (vl 83 1 enc_u32 b)), (6, (vin b.length)), (9, (vqn (scl b)))]) (B' := []) ?_ ?_
      · skip
        exact sM (vl 83 1 enc_u32 b) rfl rfl <| sM (vin b.length) rfl rfl <| sE' (e_sub (r := (((b.length - 1) : Nat) : Int)) rfl rfl rfl (wi64 (by omega) (by omega) (by omega))) rfl <| sE' (e_ixs (j := (b.length - 1)) (cs := (Dat.cells (.val (.int .u32 ((((b.getD (b.length - 1) 0) : Nat) : Int)))))) rfl el22 rfl rfl (by omega) (ixm _ _ _ _ (by omega))) rfl <| sE' (e_lc1 (cs := (Dat.cells (.val (.int .u32 ((((b.getD (b.length - 1) 0) : Nat) : Int)))))) (y := (.val (.int .u32 ((((b.getD (b.length - 1) 0) : Nat) : Int))))) rfl rfl sh83 rfl) rfl <| sE' (e_conv (r := (((b.getD (b.length - 1) 0) : Nat) : Int)) rfl un83 in88 rfl (cu64 (by omega))) rfl <| sE' (e_add (r := ((((b.getD (b.length - 1) 0) + 1) : Nat) : Int)) rfl rfl rfl (wu64 (by omega) (by omega) (by omega))) rfl <| sE' (e_quo (r := ((scl b : Nat) : Int)) rfl rfl rfl (by omega) (quo_u64 1000000000 (b.getD (b.length - 1) 0 + 1) (by decide))) rfl <| sM (vqn (scl b)) rfl rfl <| sNil rfl rfl
      refine pwp_seq ?_
      refine pwp_S (S' := [(0, (vl 83 1 enc_u32 u)), (1, (vl 83 1 enc_u32 v)), (6, (vin b.length)), (9, (vqn (scl b)))]) (B' := []) ?_ ?_
      · skip
        exact sM (vl 83 1 enc_u32 a) rfl rfl <| sM (vqn (scl b)) rfl rfl <| sE' (e_cl (hue ▸ r_scaled a (scl b) hda.1 (by omega) (by omega)) rfl rfl rfl) rfl <| sM (vl 83 1 enc_u32 b) rfl rfl <| sM (vqn (scl b)) rfl rfl <| sE' (e_cl (hve ▸ r_scaled b (scl b) hdb.1 (by omega) (by omega)) rfl rfl rfl) rfl <| sM (vl 83 1 enc_u32 u) rfl rfl <| sM (vl 83 1 enc_u32 v) rfl rfl <| sNil rfl rfl
      refine pwp_seq ?_
      refine pwp_S (S' := [(0, (vl 83 1 enc_u32 u)), (1, (vl 83 1 enc_u32 v)), (6, (vin b.length)), (9, (vqn (scl b))), (10, (vl 83 1 enc_u32 (ofNat (val (List.drop ((u.length - b.length) + 1) u)))))]) (B' := []) ?_ ?_
      · skip
        exact sM (vl 83 1 enc_u32 u) rfl rfl <| sM (vl 83 1 enc_u32 u) rfl rfl <| sE' (e_ln (r := ((u.length : Nat) : Int)) rfl el22 rfl (by simp)) rfl <| sM (vin b.length) rfl rfl <| sE' (e_sub (r := (((u.length - b.length) : Nat) : Int)) rfl rfl rfl (wi64 (by omega) (by omega) (by omega))) rfl <| sE' (e_add (r := ((((u.length - b.length) + 1) : Nat) : Int)) rfl rfl rfl (wi64 (by omega) (by omega) (by omega))) rfl <| sE' (e_slc (l := ((u.length - b.length) + 1)) (h := (List.map enc_u32 u).length) (kl := .i64) (kh := .i64) (es' := List.map enc_u32 (List.drop ((u.length - b.length) + 1) u)) rfl el22 rfl rfl rfl (by simp only [List.length_map]; omega) (Nat.le_refl _) (by rw [List.take_length, List.map_drop])) rfl <| sE' (e_cl (r_made false (List.drop ((u.length - b.length) + 1) u) (hu.drop _) (by rw [List.length_drop]; omega)) rfl rfl rfl) rfl <| sE' (e_fld1 (cs := (Dat.cells (encI (mkI false (val (List.drop ((u.length - b.length) + 1) u)))))) (y := (vl 83 1 enc_u32 (ofNat (val (List.drop ((u.length - b.length) + 1) u))))) rfl rfl ft24_1 sh22 rfl rfl) rfl <| sM (vl 83 1 enc_u32 (ofNat (val (List.drop ((u.length - b.length) + 1) u)))) rfl rfl <| sNil rfl rfl
      refine pwp_seq ?_
      refine pwp_S (S' := [(0, (vl 83 1 enc_u32 u)), (1, (vl 83 1 enc_u32 v)), (6, (vin b.length)), (9, (vqn (scl b))), (10, (vl 83 1 enc_u32 (ofNat (val (List.drop ((u.length - b.length) + 1) u))))), (11, (.own 0 83 1 ((u.length - b.length) + 1)))]) (B' := [(0, some (bm enc_u32 (List.replicate ((u.length - b.length) + 1) 0)))]) ?_ ?_
      · skip
        exact sM (vl 83 1 enc_u32 u) rfl rfl <| sE' (e_ln (r := ((u.length : Nat) : Int)) rfl el22 rfl (by simp)) rfl <| sM (vin b.length) rfl rfl <| sE' (e_sub (r := (((u.length - b.length) : Nat) : Int)) rfl rfl rfl (wi64 (by omega) (by omega) (by omega))) rfl <| sE' (e_add (r := ((((u.length - b.length) + 1) : Nat) : Int)) rfl rfl rfl (wi64 (by omega) (by omega) (by omega))) rfl <| sN (n_mks (n := ((u.length - b.length) + 1)) (m := ((u.length - b.length) + 1)) (cs := (bm enc_u32 (List.replicate ((u.length - b.length) + 1) 0))) 0 rfl el22 ze83 zo83 rfl by83 rfl rfl (by omega) (by omega) (by unfold maxLen; omega) (own_zero enc_u32 _ _)) rfl rfl rfl rfl <| sM (.own 0 83 1 ((u.length - b.length) + 1)) rfl rfl <| sNil rfl rfl
      refine pwp_seq ?_
      refine pwp_seq ?_
      refine pwp_S (S' := [(0, (vl 83 1 enc_u32 u)), (1, (vl 83 1 enc_u32 v)), (6, (vin b.length)), (9, (vqn (scl b))), (10, (vl 83 1 enc_u32 (ofNat (val (List.drop ((u.length - b.length) + 1) u))))), (11, (.own 0 83 1 ((u.length - b.length) + 1))), (12, (vi ((((u.length - b.length) + 1 : Nat) : Int) - 1)))]) (B' := [(0, some (bm enc_u32 (List.replicate ((u.length - b.length) + 1) 0)))]) ?_ ?_
      · skip
        exact sM (vl 83 1 enc_u32 u) rfl rfl <| sE' (e_ln (r := ((u.length : Nat) : Int)) rfl el22 rfl (by simp)) rfl <| sM (vin b.length) rfl rfl <| sE' (e_sub (r := ((((u.length - b.length) + 1 : Nat) : Int) - 1)) rfl rfl rfl (wi64 (by omega) (by omega) (by omega))) rfl <| sM (vi ((((u.length - b.length) + 1 : Nat) : Int) - 1)) rfl rfl <| sNil rfl rfl
      refine pwp_block ?_
      refine pwp_loop (α := Nat × List Nat × List Nat) (fun (k, r, q) => ⟨[(0, (vl 83 1 enc_u32 u)), (1, (vl 83 1 enc_u32 v)), (6, (vin b.length)), (9, (vqn (scl b))), (10, (vl 83 1 enc_u32 r)), (11, (.own 0 83 1 ((u.length - b.length) + 1))), (12, (vi (((k : Nat) : Int) - 1)))], [(0, some (bm enc_u32 q))]⟩) (fun (k, r, q) => Cano r ∧ k ≤ ((u.length - b.length) + 1) ∧ q.length = ((u.length - b.length) + 1) ∧ Dig q ∧ val r < val v ∧ val (u.drop k) = val v * val (q.drop k) + val r) (fun (k, r, q) => k) (((u.length - b.length) + 1), ofNat (val (List.drop ((u.length - b.length) + 1) u)), List.replicate ((u.length - b.length) + 1) 0) (weak rfl rfl) ⟨ofNat_can _, Nat.le_refl _, by simp, dig_replicate _, by rw [ofNat_val]; have h7 := val_lt (hu.drop ((u.length - b.length) + 1)); rw [List.length_drop, show u.length - ((u.length - b.length) + 1) = b.length - 1 by omega] at h7; omega, by rw [ofNat_val]; simp [val]⟩ ?_
      rintro ⟨k, r, q⟩ ⟨hrc, hk, hql, hqd, hr, hv⟩
      refine pwp_seq ?_
      refine pwp_seq ?_
      refine pwp_S (S' := [(0, (vl 83 1 enc_u32 u)), (1, (vl 83 1 enc_u32 v)), (6, (vin b.length)), (9, (vqn (scl b))), (10, (vl 83 1 enc_u32 r)), (11, (.own 0 83 1 ((u.length - b.length) + 1))), (12, (vi (((k : Nat) : Int) - 1))), (75, (vb (decide (0 ≤ (((k : Nat) : Int) - 1)))))]) (B' := [(0, some (bm enc_u32 q))]) ?_ ?_
      · skip
        exact sM (vi (((k : Nat) : Int) - 1)) rfl rfl <| sE' (e_geq rfl rfl rfl) rfl <| sNil rfl rfl
      refine pwp_cond (b := decide (0 ≤ (((k : Nat) : Int) - 1))) rfl (fun h3 => ?_) (fun h3 => ?_)
      · skip
        replace h3 := of_decide_eq_true h3
        obtain ⟨i, rfl⟩ : ∃ i, k = i + 1 := ⟨k - 1, by omega⟩
        rw [show (((i + 1 : Nat) : Int) - 1) = ((i : Nat) : Int) from by omega]
        have hgu := hu.getD i
        have hW : (u.getD i 0 + 1000000000 * val r) < 1000000000 * val v := by omega
        have hrs := rshift_val u hv
        obtain ⟨hg1, hg2⟩ := rguess hvd hvl hb0 hW
        have hgv := hvd.getD (b.length - 1)
        have hgw1 := (ofNat_dig (u.getD i 0 + 1000000000 * val r)).getD b.length
        have hgw2 := (ofNat_dig (u.getD i 0 + 1000000000 * val r)).getD (b.length - 1)
        have hrl : r.length ≤ b.length := by have h9 := ofNat_len_mono (Nat.le_of_lt hr); rwa [← can_eq hrc, ← can_eq hcv, hvl] at h9
        have hwl : (ofNat (u.getD i 0 + 1000000000 * val r)).length ≤ b.length + 1 := ofNat_length_le (by rw [pw_succ]; have := val_lt hvd; rw [hvl] at this; omega)
        refine pwp_skip ?_
        refine pwp_seq ?_
        refine pwp_block ?_
        refine pwp_seq ?_
        refine pwp_S (S' := [(0, (vl 83 1 enc_u32 u)), (1, (vl 83 1 enc_u32 v)), (6, (vin b.length)), (9, (vqn (scl b))), (10, (vl 83 1 enc_u32 (ofNat ((u.getD i 0) + 1000000000 * val r)))), (11, (.own 0 83 1 ((u.length - b.length) + 1))), (12, (vin i))]) (B' := [(0, some (bm enc_u32 q))]) ?_ ?_
        · skip
          exact sM (vl 83 1 enc_u32 r) rfl rfl <| sM (vl 83 1 enc_u32 u) rfl rfl <| sM (vin i) rfl rfl <| sE' (e_ixs (j := i) (cs := (Dat.cells (.val (.int .u32 ((((u.getD i 0) : Nat) : Int)))))) rfl el22 rfl rfl (by omega) (ixm _ _ _ _ (by omega))) rfl <| sE' (e_lc1 (cs := (Dat.cells (.val (.int .u32 ((((u.getD i 0) : Nat) : Int)))))) (y := (.val (.int .u32 ((((u.getD i 0) : Nat) : Int))))) rfl rfl sh83 rfl) rfl <| sE' (e_cl (r_shifted r (u.getD i 0) hrc.1 (by omega) (by omega)) rfl rfl rfl) rfl <| sM (vl 83 1 enc_u32 (ofNat ((u.getD i 0) + 1000000000 * val r))) rfl rfl <| sNil rfl rfl
        refine pwp_seq ?_
        refine pwp_D (S' := [(0, (vl 83 1 enc_u32 u)), (1, (vl 83 1 enc_u32 v)), (6, (vin b.length)), (9, (vqn (scl b))), (10, (vl 83 1 enc_u32 (ofNat ((u.getD i 0) + 1000000000 * val r)))), (11, (.own 0 83 1 ((u.length - b.length) + 1))), (12, (vin i)), (13, (vqn (((((ofNat ((u.getD i 0) + 1000000000 * val r)).getD b.length 0) * 1000000000) + ((ofNat ((u.getD i 0) + 1000000000 * val r)).getD (b.length - 1) 0)) / ((v.getD (b.length - 1) 0) + 1))))]) (B' := [(0, some (bm enc_u32 q))]) mo (by kernel_rfl) ?_ ?_
        · skip
          exact dM (vl 83 1 enc_u32 (ofNat ((u.getD i 0) + 1000000000 * val r))) rfl rfl rfl <| dM (vin b.length) rfl rfl rfl <| dE' (e_cl (r_group (ofNat ((u.getD i 0) + 1000000000 * val r)) b.length (ofNat_dig _)) rfl rfl rfl) rfl rfl <| dE' (e_mul (r := (((((ofNat ((u.getD i 0) + 1000000000 * val r)).getD b.length 0) * 1000000000) : Nat) : Int)) rfl rfl rfl (wu64 (by omega) (by omega) (by omega))) rfl rfl <| dM (vl 83 1 enc_u32 (ofNat ((u.getD i 0) + 1000000000 * val r))) rfl rfl rfl <| dM (vin b.length) rfl rfl rfl <| dE' (e_sub (r := (((b.length - 1) : Nat) : Int)) rfl rfl rfl (wi64 (by omega) (by omega) (by omega))) rfl rfl <| dE' (e_cl (r_group (ofNat ((u.getD i 0) + 1000000000 * val r)) (b.length - 1) (by first | assumption | exact ofNat_dig _ | exact (ofNat_can _).1 | exact (grpI_can _).1)) rfl rfl rfl) rfl rfl <| dE' (e_add (r := ((((((ofNat ((u.getD i 0) + 1000000000 * val r)).getD b.length 0) * 1000000000) + ((ofNat ((u.getD i 0) + 1000000000 * val r)).getD (b.length - 1) 0)) : Nat) : Int)) rfl rfl rfl (wu64 (by omega) (by omega) (by omega))) rfl rfl <| dM (vl 83 1 enc_u32 v) rfl rfl rfl <| dM (vin b.length) rfl rfl rfl <| dE' (e_sub (r := (((b.length - 1) : Nat) : Int)) rfl rfl rfl (wi64 (by omega) (by omega) (by omega))) rfl rfl <| dE' (e_ixs (j := (b.length - 1)) (cs := (Dat.cells (.val (.int .u32 ((((v.getD (b.length - 1) 0) : Nat) : Int)))))) rfl el22 rfl rfl (by omega) (ixm _ _ _ _ (by omega))) rfl rfl <| dE' (e_lc1 (cs := (Dat.cells (.val (.int .u32 ((((v.getD (b.length - 1) 0) : Nat) : Int)))))) (y := (.val (.int .u32 ((((v.getD (b.length - 1) 0) : Nat) : Int))))) rfl rfl sh83 rfl) rfl rfl <| dE' (e_conv (r := (((v.getD (b.length - 1) 0) : Nat) : Int)) rfl un83 in88 rfl (cu64 (by omega))) rfl rfl <| dE' (e_add (r := ((((v.getD (b.length - 1) 0) + 1) : Nat) : Int)) rfl rfl rfl (wu64 (by omega) (by omega) (by omega))) rfl rfl <| dE' (e_quo (r := (((((((ofNat ((u.getD i 0) + 1000000000 * val r)).getD b.length 0) * 1000000000) + ((ofNat ((u.getD i 0) + 1000000000 * val r)).getD (b.length - 1) 0)) / ((v.getD (b.length - 1) 0) + 1)) : Nat) : Int)) rfl rfl rfl (by omega) (quo_u64 _ _ (by omega))) rfl rfl <| dM (vqn (((((ofNat ((u.getD i 0) + 1000000000 * val r)).getD b.length 0) * 1000000000) + ((ofNat ((u.getD i 0) + 1000000000 * val r)).getD (b.length - 1) 0)) / ((v.getD (b.length - 1) 0) + 1))) rfl rfl rfl <| dNil rfl rfl (by kernel_rfl)
        refine pwp_seq ?_
        refine pwp_S (S' := [(0, (vl 83 1 enc_u32 u)), (1, (vl 83 1 enc_u32 v)), (6, (vin b.length)), (9, (vqn (scl b))), (10, (vl 83 1 enc_u32 (ofNat (val (ofNat ((u.getD i 0) + 1000000000 * val r)) - val (ofNat (val v * (((((ofNat ((u.getD i 0) + 1000000000 * val r)).getD b.length 0) * 1000000000) + ((ofNat ((u.getD i 0) + 1000000000 * val r)).getD (b.length - 1) 0)) / ((v.getD (b.length - 1) 0) + 1)))))))), (11, (.own 0 83 1 ((u.length - b.length) + 1))), (12, (vin i)), (13, (vqn (((((ofNat ((u.getD i 0) + 1000000000 * val r)).getD b.length 0) * 1000000000) + ((ofNat ((u.getD i 0) + 1000000000 * val r)).getD (b.length - 1) 0)) / ((v.getD (b.length - 1) 0) + 1))))]) (B' := [(0, some (bm enc_u32 q))]) ?_ ?_
        · skip
          exact sM (vl 83 1 enc_u32 (ofNat ((u.getD i 0) + 1000000000 * val r))) rfl rfl <| sM (vl 83 1 enc_u32 v) rfl rfl <| sM (vqn (((((ofNat ((u.getD i 0) + 1000000000 * val r)).getD b.length 0) * 1000000000) + ((ofNat ((u.getD i 0) + 1000000000 * val r)).getD (b.length - 1) 0)) / ((v.getD (b.length - 1) 0) + 1))) rfl rfl <| sE' (e_cl (r_scaled v (((((ofNat ((u.getD i 0) + 1000000000 * val r)).getD b.length 0) * 1000000000) + ((ofNat ((u.getD i 0) + 1000000000 * val r)).getD (b.length - 1) 0)) / ((v.getD (b.length - 1) 0) + 1)) hvd (by omega) (by omega)) rfl rfl rfl) rfl <| sE' (e_cl (r_minus (ofNat ((u.getD i 0) + 1000000000 * val r)) (ofNat (val v * (((((ofNat ((u.getD i 0) + 1000000000 * val r)).getD b.length 0) * 1000000000) + ((ofNat ((u.getD i 0) + 1000000000 * val r)).getD (b.length - 1) 0)) / ((v.getD (b.length - 1) 0) + 1)))) (ofNat_dig _) (ofNat_dig _) (by rw [ofNat_val, ofNat_val, Nat.mul_comm]; exact hg1) (by omega)) rfl rfl rfl) rfl <| sM (vl 83 1 enc_u32 (ofNat (val (ofNat ((u.getD i 0) + 1000000000 * val r)) - val (ofNat (val v * (((((ofNat ((u.getD i 0) + 1000000000 * val r)).getD b.length 0) * 1000000000) + ((ofNat ((u.getD i 0) + 1000000000 * val r)).getD (b.length - 1) 0)) / ((v.getD (b.length - 1) 0) + 1))))))) rfl rfl <| sNil rfl rfl
        refine pwp_seq ?_
        refine pwp_block ?_
        refine pwp_loop (α := Nat × List Nat) (fun (G, r2) => ⟨[(0, (vl 83 1 enc_u32 u)), (1, (vl 83 1 enc_u32 v)), (6, (vin b.length)), (9, (vqn (scl b))), (10, (vl 83 1 enc_u32 r2)), (11, (.own 0 83 1 ((u.length - b.length) + 1))), (12, (vin i)), (13, (vqn G))], [(0, some (bm enc_u32 q))]⟩) (fun (G, r2) => Cano r2 ∧ val v * G + val r2 = (u.getD i 0 + 1000000000 * val r)) (fun (G, r2) => val r2) ((((ofNat (u.getD i 0 + 1000000000 * val r)).getD b.length 0 * 1000000000 + (ofNat (u.getD i 0 + 1000000000 * val r)).getD (b.length - 1) 0) / (v.getD (b.length - 1) 0 + 1)), ofNat (val (ofNat (u.getD i 0 + 1000000000 * val r)) - val (ofNat (val v * (((ofNat (u.getD i 0 + 1000000000 * val r)).getD b.length 0 * 1000000000 + (ofNat (u.getD i 0 + 1000000000 * val r)).getD (b.length - 1) 0) / (v.getD (b.length - 1) 0 + 1)))))) (weak rfl rfl) ⟨ofNat_can _, by rw [ofNat_val, ofNat_val, ofNat_val]; rw [Nat.mul_comm] at hg1; omega⟩ ?_
        rintro ⟨G, r2⟩ ⟨hr2, hr2v⟩
        have hr2l : r2.length ≤ b.length + 1 := by have h9 := ofNat_len_mono (show val r2 ≤ (u.getD i 0 + 1000000000 * val r) by omega); rw [← can_eq hr2] at h9; omega
        refine pwp_seq ?_
        refine pwp_seq ?_
        refine pwp_S (S' := [(0, (vl 83 1 enc_u32 u)), (1, (vl 83 1 enc_u32 v)), (6, (vin b.length)), (9, (vqn (scl b))), (10, (vl 83 1 enc_u32 r2)), (11, (.own 0 83 1 ((u.length - b.length) + 1))), (12, (vin i)), (13, (vqn G)), (109, (vb (decide (0 ≤ (cmpI ((val r2 : Nat) : Int) ((val v : Nat) : Int))))))]) (B' := [(0, some (bm enc_u32 q))]) ?_ ?_
        · skip
          exact sM (vl 83 1 enc_u32 r2) rfl rfl <| sM (vl 83 1 enc_u32 v) rfl rfl <| sE' (e_cl (r_size r2 v hr2 hcv (by omega) (by omega)) rfl rfl rfl) rfl <| sE' (e_geq rfl rfl rfl) rfl <| sNil rfl rfl
        refine pwp_cond (b := decide (0 ≤ (cmpI ((val r2 : Nat) : Int) ((val v : Nat) : Int)))) rfl (fun h4 => ?_) (fun h4 => ?_)
        · skip
          replace h4 := of_decide_eq_true h4
          have hge := cmpI_ge h4
          have hG := rquo_lt hr2v hW
          have hr2l : r2.length ≤ b.length + 1 := by have h9 := ofNat_len_mono (show val r2 ≤ (u.getD i 0 + 1000000000 * val r) by omega); rw [← can_eq hr2] at h9; omega
          refine pwp_skip ?_
          refine pwp_block ?_
          refine pwp_seq ?_
          refine pwp_S (S' := [(0, (vl 83 1 enc_u32 u)), (1, (vl 83 1 enc_u32 v)), (6, (vin b.length)), (9, (vqn (scl b))), (10, (vl 83 1 enc_u32 (ofNat (val r2 - val v)))), (11, (.own 0 83 1 ((u.length - b.length) + 1))), (12, (vin i)), (13, (vqn G))]) (B' := [(0, some (bm enc_u32 q))]) ?_ ?_
          · skip
            exact sM (vl 83 1 enc_u32 r2) rfl rfl <| sM (vl 83 1 enc_u32 v) rfl rfl <| sE' (e_cl (r_minus r2 v hr2.1 hvd (by omega) (by omega)) rfl rfl rfl) rfl <| sM (vl 83 1 enc_u32 (ofNat (val r2 - val v))) rfl rfl <| sNil rfl rfl
          refine pwp_S (S' := [(0, (vl 83 1 enc_u32 u)), (1, (vl 83 1 enc_u32 v)), (6, (vin b.length)), (9, (vqn (scl b))), (10, (vl 83 1 enc_u32 (ofNat (val r2 - val v)))), (11, (.own 0 83 1 ((u.length - b.length) + 1))), (12, (vin i)), (13, (vqn (G + 1)))]) (B' := [(0, some (bm enc_u32 q))]) ?_ ?_
          · skip
            exact sM (vqn G) rfl rfl <| sE' (e_add (r := (((G + 1) : Nat) : Int)) rfl rfl rfl (wu64 (by omega) (by omega) (by omega))) rfl <| sM (vqn (G + 1)) rfl rfl <| sNil rfl rfl
          exact ⟨(G + 1, ofNat (val r2 - val v)), (weak rfl rfl), (by have hge := cmpI_ge h4; exact ⟨ofNat_can _, by rw [ofNat_val, Nat.mul_add, Nat.mul_one]; omega⟩), (by have hge := cmpI_ge h4; dsimp only; rw [ofNat_val]; omega)⟩
        · skip
          replace h4 := of_decide_eq_false h4
          have hG := rquo_lt hr2v hW
          have hlt : val r2 < val v := by have h9 := cmpI_lt h4; omega
          refine pwp_exit ?_
          refine pwp_S (S' := [(0, (vl 83 1 enc_u32 u)), (1, (vl 83 1 enc_u32 v)), (6, (vin b.length)), (9, (vqn (scl b))), (10, (vl 83 1 enc_u32 r2)), (11, (.own 0 83 1 ((u.length - b.length) + 1))), (12, (vin i))]) (B' := [(0, some (bm enc_u32 (q.set i G)))]) ?_ ?_
          · skip
            exact sM (.own 0 83 1 ((u.length - b.length) + 1)) rfl rfl <| sM (vin i) rfl rfl <| sM (vqn G) rfl rfl <| sE' (e_conv (r := ((G : Nat) : Int)) rfl un88 in83 rfl (cu32 (by omega))) rfl <| sE' (e_ixo (j := i) (q := i) rfl el22 rfl rfl (by omega) (by omega) (by simp)) rfl <| sT (t_st1 (cs := (bm enc_u32 (q.set i G))) rfl rfl rfl sh83 rfl rfl (own_len _ _ _ (by omega)) (own_set _ _ _ _)) rfl rfl rfl <| sNil rfl rfl
          refine pwp_S (S' := [(0, (vl 83 1 enc_u32 u)), (1, (vl 83 1 enc_u32 v)), (6, (vin b.length)), (9, (vqn (scl b))), (10, (vl 83 1 enc_u32 r2)), (11, (.own 0 83 1 ((u.length - b.length) + 1))), (12, (vi (((i : Nat) : Int) - 1)))]) (B' := [(0, some (bm enc_u32 (q.set i G)))]) ?_ ?_
          · skip
            exact sM (vin i) rfl rfl <| sE' (e_sub (r := (((i : Nat) : Int) - 1)) rfl rfl rfl (wi64 (by omega) (by omega) (by omega))) rfl <| sM (vi (((i : Nat) : Int) - 1)) rfl rfl <| sNil rfl rfl
          exact ⟨(i, r2, q.set i G), (weak rfl rfl), ⟨hr2, by omega, by simpa using hql, hqd.set _ hG, hlt, rround (by omega) (by rw [hr2v]; exact hrs)⟩, (by first | omega | (dsimp only; omega))⟩
      · skip
        replace h3 := of_decide_eq_false h3
        obtain rfl : k = 0 := by omega
        obtain ⟨e1, e2⟩ := scl_div (a := a) (b := b) (q := q) (u := r) hdb hb0 (by rw [List.drop_zero, List.drop_zero] at hv; rw [pw_zero, Nat.one_mul, List.drop_zero, ← huv, ← hvv, hv]; omega) (by rw [List.drop_zero, ← hvv]; exact hr)
        have hrl : r.length ≤ b.length := by have h9 := ofNat_len_mono (Nat.le_of_lt hr); rwa [← can_eq hrc, ← can_eq hcv, hvl] at h9
        refine pwp_exit ?_
        refine pwp_seq ?_
        refine pwp_S (S' := [(11, (.own 0 83 1 ((u.length - b.length) + 1))), (14, (vl 83 1 enc_u32 (ofNat (val r / (scl b)))))]) (B' := [(0, some (bm enc_u32 q))]) ?_ ?_
        · skip
          exact sM (vl 83 1 enc_u32 r) rfl rfl <| sM (vqn (scl b)) rfl rfl <| sE' (e_cl (r_short r (scl b) hrc.1 (by omega) (by omega) (by omega)) rfl rfl rfl) rfl <| sM (.d (.tup [(.sl 83 1 (List.map enc_u32 (ofNat (val r / (scl b))))), (.val (.int .u64 ((((val r % (scl b)) : Nat) : Int))))])) rfl rfl <| sE' (e_exD (d := (.sl 83 1 (List.map enc_u32 (ofNat (val r / (scl b)))))) rfl rfl rfl) rfl <| sE' (e_exD (d := (.val (.int .u64 ((((val r % (scl b)) : Nat) : Int))))) rfl rfl rfl) rfl <| sM (vl 83 1 enc_u32 (ofNat (val r / (scl b)))) rfl rfl <| sM (vqn (val r % (scl b))) rfl rfl <| sNil rfl rfl
        refine pwp_seq ?_
        refine pwp_sim (publish (t := 11) (k := 0) (es := List.map enc_u32 q) rfl rfl (pub_cells _ _ (fun _ => rfl)) (map_len _ _ hql) (pub_take _ _ (fun _ => rfl) hql)) ?_
        refine pwp_sim (weak (l := [(11, (vl 83 1 enc_u32 q)), (14, (vl 83 1 enc_u32 (ofNat (val r / (scl b)))))]) (b := []) rfl rfl) ?_
        refine pwp_S (S' := [(4, (vl 83 1 enc_u32 (ofNat (val q)))), (5, (vl 83 1 enc_u32 (ofNat (val r / (scl b)))))]) (B' := []) ?_ ?_
        · skip
          exact sM (vl 83 1 enc_u32 q) rfl rfl <| sE' (e_cl (r_made false q hqd (by omega)) rfl rfl rfl) rfl <| sE' (e_fld1 (cs := (Dat.cells (encI (mkI false (val q))))) (y := (vl 83 1 enc_u32 (ofNat (val q)))) rfl rfl ft24_1 sh22 rfl rfl) rfl <| sM (vl 83 1 enc_u32 (ofNat (val r / (scl b)))) rfl rfl <| sM (vl 83 1 enc_u32 (ofNat (val q))) rfl rfl <| sM (vl 83 1 enc_u32 (ofNat (val r / (scl b)))) rfl rfl <| sNil rfl rfl
        refine pwp_ret ⟨_, (.tmp (d := (.sl 83 1 (List.map enc_u32 (ofNat (val q))))) rfl (.tmp (d := (.sl 83 1 (List.map enc_u32 (ofNat (val r / (scl b)))))) rfl .nil)), ?_⟩
        rw [← e1, ← e2]; rfl
end Go.Proofs.YtcdgmcfkhkikbaaGreat
