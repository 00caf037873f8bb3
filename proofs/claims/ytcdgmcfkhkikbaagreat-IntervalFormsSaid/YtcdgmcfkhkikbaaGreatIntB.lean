/-
  Functions walked: each takes its data to what is said. Printed by a program of ours.
-/
import Derived.Test.YtcdgmcfkhkikbaaGreatIntA
namespace Go.Proofs.YtcdgmcfkhkikbaaGreat
open Go.Fid
set_option maxRecDepth 4000
set_option linter.unusedVariables false
set_option linter.unusedSimpArgs false
theorem bo4 : boolB Tryz.prog 4 = true := by kernel_rfl
theorem cb105 : callB Tryz.prog 105 = true := by kernel_rfl
theorem cb106 : callB Tryz.prog 106 = true := by kernel_rfl
theorem cb108 : callB Tryz.prog 108 = true := by kernel_rfl
theorem cb110 : callB Tryz.prog 110 = true := by kernel_rfl
theorem cb124 : callB Tryz.prog 124 = true := by kernel_rfl
theorem un3 : (Tryz.prog.underlying 3).isSome = true := by kernel_rfl
theorem t_sign (x : RInt) (hx : x.gs.length ≤ 1099511627776) : Takes Tryz.prog 108 [(encI x)] (.val (.int .i64 ((signI (toZ x))))) := by
  refine fn_intro Tryz.func108 rfl cb108 rfl ?_
  show PWp _ _ _ _ ⟨[(0, (.d (encI x)))], []⟩
  refine pwp_seq ?_
  refine pwp_S (S' := [(1, (.ref 0 0))]) (B' := [(0, some (bx (encI x)))]) ?_ ?_
  · skip
    exact sN (n_bx (d := (encI x)) (cs := (bx (encI x))) 0 rfl rfl rfl rfl) rfl rfl rfl rfl <| sM (vin 0) rfl rfl <| sNil rfl rfl
  refine pwp_seq ?_
  refine pwp_block ?_
  refine pwp_seq ?_
  refine pwp_S (S' := [(1, (.ref 0 0)), (3, (vb ((((grpI x).length : Nat) : Int) == 0)))]) (B' := [(0, some (bx (encI x)))]) ?_ ?_
  · skip
    exact sR (e_lda (cs := (bx (encI x))) (y := (.d (encI x))) rfl rfl sh24 rfl rfl) rfl rfl rfl rfl <| sE' (e_cl (t_groups x (by omega)) rfl rfl rfl) rfl <| sE' (e_ln (r := (((grpI x).length : Nat) : Int)) rfl el22 rfl (by simp)) rfl <| sE' (e_eql rfl rfl rfl) rfl <| sM (vb ((((grpI x).length : Nat) : Int) == 0)) rfl rfl <| sNil rfl rfl
  refine pwp_cond (b := ((((grpI x).length : Nat) : Int) == 0)) rfl (fun h1 => ?_) (fun h1 => ?_)
  · skip
    replace h1 := eq_of_beq h1
    refine pwp_seq ?_
    refine pwp_S (S' := [(2, (vin 0))]) (B' := []) ?_ ?_
    · skip
      exact sM (vin 0) rfl rfl <| sNil rfl rfl
    refine pwp_ret ⟨_, (.tmp (d := (.val (.int .i64 (0)))) rfl .nil), ?_⟩
    rw [toZ_nil h1]; rfl
  · skip
    replace h1 := ne_of_beq_false h1
    refine pwp_seq ?_
    refine pwp_S (S' := [(8, (vb x.neg))]) (B' := []) ?_ ?_
    · skip
      exact sE' (e_fldr (q := 0) rfl rfl fo24_0 rfl) rfl <| sR (e_ld1 (cs := (bx (encI x))) (y := (vb x.neg)) rfl rfl sh4 rfl) rfl rfl rfl rfl <| sM (vb x.neg) rfl rfl <| sNil rfl rfl
    refine pwp_cond (b := x.neg) rfl (fun h2 => ?_) (fun h2 => ?_)
    · skip
      refine pwp_seq ?_
      refine pwp_S (S' := [(2, (vi (-1)))]) (B' := []) ?_ ?_
      · skip
        exact sM (vi (-1)) rfl rfl <| sNil rfl rfl
      refine pwp_ret ⟨_, (.tmp (d := (.val (.int .i64 (-1)))) rfl .nil), ?_⟩
      rw [sign_neg h1 h2]; rfl
    · skip
      refine pwp_skip ?_
      refine pwp_seq ?_
      refine pwp_S (S' := [(2, (vin 1))]) (B' := []) ?_ ?_
      · skip
        exact sM (vin 1) rfl rfl <| sNil rfl rfl
      refine pwp_ret ⟨_, (.tmp (d := (.val (.int .i64 (1)))) rfl .nil), ?_⟩
      rw [sign_pos h1 h2]; rfl
theorem t_neg (x : RInt) (hx : x.gs.length ≤ 1099511627776) : Takes Tryz.prog 124 [(encI x)] (encI (ofZ (-toZ x))) := by
  refine fn_intro Tryz.func124 rfl cb124 rfl ?_
  show PWp _ _ _ _ ⟨[(0, (.d (encI x)))], []⟩
  refine pwp_seq ?_
  refine pwp_S (S' := [(1, (.ref 0 0)), (2, (.ref 1 0))]) (B' := [(0, some (bx (encI x))), (1, some (bx (encI (RInt.mk false []))))]) ?_ ?_
  · skip
    exact sN (n_bx (d := (encI x)) (cs := (bx (encI x))) 0 rfl rfl rfl rfl) rfl rfl rfl rfl <| sN (n_al (cs := (bx (encI (RInt.mk false [])))) 1 rfl ze24 zo24 rfl) rfl rfl rfl rfl <| sNil rfl rfl
  refine pwp_seq ?_
  refine pwp_D (S' := [(2, (.ref 1 0))]) (B' := [(1, some (bx (encI (mkI (!x.neg) (val (grpI x))))))]) mo (by kernel_rfl) ?_ ?_
  · skip
    exact dE' (e_fldr (q := 0) rfl rfl fo24_0 rfl) rfl rfl <| dR (e_ld1 (cs := (bx (encI x))) (y := (vb x.neg)) rfl rfl sh4 rfl) rfl rfl rfl rfl rfl <| dE' (e_not rfl rfl) rfl rfl <| dR (e_lda (cs := (bx (encI x))) (y := (.d (encI x))) rfl rfl sh24 rfl rfl) rfl rfl rfl rfl rfl <| dE' (e_cl (t_groups x (by omega)) rfl rfl rfl) rfl rfl <| dE' (e_cl (t_clone (grpI x) (Nat.le_trans (grpI_len _) (by omega))) rfl rfl rfl) rfl rfl <| dE' (e_cl (t_made (!x.neg) (grpI x) (grpI_can _).1 (Nat.le_trans (grpI_len _) (by omega))) rfl rfl rfl) rfl rfl <| dT (t_std (d := (encI (mkI (!x.neg) (val (grpI x))))) (cs := (bx (encI (mkI (!x.neg) (val (grpI x)))))) rfl rfl rfl sh24 rfl rfl rfl rfl) rfl rfl rfl rfl <| dNil rfl rfl (by kernel_rfl)
  refine pwp_ret ⟨_, (res_a (cs := (bx (encI (mkI (!x.neg) (val (grpI x)))))) (d := (encI (mkI (!x.neg) (val (grpI x))))) rfl rfl sh24 rfl rfl .nil), ?_⟩
  rw [← neg_eq]; rfl
theorem t_mul (x : RInt) (y : RInt) (hx : x.gs.length ≤ 1099511627776) (hy : y.gs.length ≤ 1099511627776) : Takes Tryz.prog 106 [(encI x), (encI y)] (encI (ofZ (toZ x * toZ y))) := by
  refine fn_intro Tryz.func106 rfl cb106 rfl ?_
  show PWp _ _ _ _ ⟨[(0, (.d (encI x))), (1, (.d (encI y)))], []⟩
  refine pwp_seq ?_
  refine pwp_S (S' := [(2, (.ref 0 0)), (3, (.ref 1 0)), (4, (.ref 2 0))]) (B' := [(0, some (bx (encI x))), (1, some (bx (encI y))), (2, some (bx (encI (RInt.mk false []))))]) ?_ ?_
  · skip
    exact sN (n_bx (d := (encI x)) (cs := (bx (encI x))) 0 rfl rfl rfl rfl) rfl rfl rfl rfl <| sN (n_bx (d := (encI y)) (cs := (bx (encI y))) 1 rfl rfl rfl rfl) rfl rfl rfl rfl <| sN (n_al (cs := (bx (encI (RInt.mk false [])))) 2 rfl ze24 zo24 rfl) rfl rfl rfl rfl <| sNil rfl rfl
  refine pwp_seq ?_
  refine pwp_D (S' := [(4, (.ref 2 0))]) (B' := [(2, some (bx (encI (mkI (!(x.neg == y.neg)) (val (ofNat (val (grpI x) * val (grpI y))))))))]) mo (by kernel_rfl) ?_ ?_
  · skip
    exact dE' (e_fldr (q := 0) rfl rfl fo24_0 rfl) rfl rfl <| dR (e_ld1 (cs := (bx (encI x))) (y := (vb x.neg)) rfl rfl sh4 rfl) rfl rfl rfl rfl rfl <| dE' (e_fldr (q := 0) rfl rfl fo24_0 rfl) rfl rfl <| dR (e_ld1 (cs := (bx (encI y))) (y := (vb y.neg)) rfl rfl sh4 rfl) rfl rfl rfl rfl rfl <| dE' (e_neqb rfl bo4 rfl rfl) rfl rfl <| dR (e_lda (cs := (bx (encI x))) (y := (.d (encI x))) rfl rfl sh24 rfl rfl) rfl rfl rfl rfl rfl <| dE' (e_cl (t_groups x (by omega)) rfl rfl rfl) rfl rfl <| dR (e_lda (cs := (bx (encI y))) (y := (.d (encI y))) rfl rfl sh24 rfl rfl) rfl rfl rfl rfl rfl <| dE' (e_cl (t_groups y (by omega)) rfl rfl rfl) rfl rfl <| dE' (e_cl (t_times (grpI x) (grpI y) (grpI_can _).1 (grpI_can _).1 (Nat.le_trans (grpI_len _) (by omega)) (Nat.le_trans (grpI_len _) (by omega))) rfl rfl rfl) rfl rfl <| dE' (e_cl (t_made (!(x.neg == y.neg)) (ofNat (val (grpI x) * val (grpI y))) (ofNat_dig _) (Nat.le_trans (mul_len (grpI_can _).1 (grpI_can _).1) (by have := grpI_len x; have := grpI_len y; omega))) rfl rfl rfl) rfl rfl <| dT (t_std (d := (encI (mkI (!(x.neg == y.neg)) (val (ofNat (val (grpI x) * val (grpI y))))))) (cs := (bx (encI (mkI (!(x.neg == y.neg)) (val (ofNat (val (grpI x) * val (grpI y)))))))) rfl rfl rfl sh24 rfl rfl rfl rfl) rfl rfl rfl rfl <| dNil rfl rfl (by kernel_rfl)
  refine pwp_ret ⟨_, (res_a (cs := (bx (encI (mkI (!(x.neg == y.neg)) (val (ofNat (val (grpI x) * val (grpI y)))))))) (d := (encI (mkI (!(x.neg == y.neg)) (val (ofNat (val (grpI x) * val (grpI y))))))) rfl rfl sh24 rfl rfl .nil), ?_⟩
  rw [show toZ x * toZ y = _ from rfl, toZ, toZ, ← mul_eq]; rfl
theorem t_of (n : Int) (hlo : -9223372036854775808 ≤ n) (hhi : n ≤ 9223372036854775807) : Takes Tryz.prog 110 [(.val (.int .i64 (n)))] (encI (ofZ n)) := by
  refine fn_intro Tryz.func110 rfl cb110 rfl ?_
  show PWp _ _ _ _ ⟨[(0, (vi n))], []⟩
  refine pwp_seq ?_
  refine pwp_S (S' := [(0, (vi n)), (2, (.ref 0 0))]) (B' := [(0, some (bx (encI (RInt.mk false []))))]) ?_ ?_
  · skip
    exact sN (n_al (cs := (bx (encI (RInt.mk false [])))) 0 rfl ze24 zo24 rfl) rfl rfl rfl rfl <| sNil rfl rfl
  refine pwp_seq ?_
  refine pwp_S (S' := [(0, (vi n)), (2, (.ref 0 0)), (3, (vqn ((n % 18446744073709551616).toNat)))]) (B' := [(0, some (bx (encI (RInt.mk false []))))]) ?_ ?_
  · skip
    exact sM (vi n) rfl rfl <| sE' (e_conv (r := (((n % 18446744073709551616).toNat : Nat) : Int)) rfl un3 in88 rfl (conv_u64 _)) rfl <| sM (vqn ((n % 18446744073709551616).toNat)) rfl rfl <| sNil rfl rfl
  refine pwp_seq ?_
  refine pwp_seq ?_
  refine pwp_S (S' := [(0, (vi n)), (2, (.ref 0 0)), (3, (vqn ((n % 18446744073709551616).toNat))), (7, (vb (decide (n < 0))))]) (B' := [(0, some (bx (encI (RInt.mk false []))))]) ?_ ?_
  · skip
    exact sM (vi n) rfl rfl <| sE' (e_lss rfl rfl rfl) rfl <| sNil rfl rfl
  refine pwp_cond (b := decide (n < 0)) rfl (fun h1 => ?_) (fun h1 => ?_)
  · skip
    replace h1 := of_decide_eq_true h1
    refine pwp_S (S' := [(0, (vi n)), (2, (.ref 0 0)), (3, (vqn ((-n).toNat)))]) (B' := [(0, some (bx (encI (RInt.mk false []))))]) ?_ ?_
    · skip
      exact sM (vqn ((n % 18446744073709551616).toNat)) rfl rfl <| sE' (e_neg (r := (((-n).toNat : Nat) : Int)) rfl rfl (neg_u64 (by assumption) hlo)) rfl <| sM (vqn ((-n).toNat)) rfl rfl <| sNil rfl rfl
    refine pwp_seq ?_
    refine pwp_S (S' := [(2, (.ref 0 0))]) (B' := [(0, some (bx (encI (mkI (decide (n < 0)) (val (ofNat ((-n).toNat)))))))]) ?_ ?_
    · skip
      exact sM (vi n) rfl rfl <| sE' (e_lss rfl rfl rfl) rfl <| sM (vqn ((-n).toNat)) rfl rfl <| sE' (e_cl (t_split ((-n).toNat) (by omega)) rfl rfl rfl) rfl <| sE' (e_cl (t_made (decide (n < 0)) (ofNat ((-n).toNat)) (ofNat_dig _) (Nat.le_trans (ofNat_len3 (by omega)) (by decide))) rfl rfl rfl) rfl <| sT (t_std (d := (encI (mkI (decide (n < 0)) (val (ofNat ((-n).toNat)))))) (cs := (bx (encI (mkI (decide (n < 0)) (val (ofNat ((-n).toNat))))))) rfl rfl rfl sh24 rfl rfl rfl rfl) rfl rfl rfl <| sNil rfl rfl
    refine pwp_ret ⟨_, (res_a (cs := (bx (encI (mkI (decide (n < 0)) (val (ofNat ((-n).toNat))))))) (d := (encI (mkI (decide (n < 0)) (val (ofNat ((-n).toNat)))))) rfl rfl sh24 rfl rfl .nil), ?_⟩
    rw [of_neg h1]; rfl
  · skip
    replace h1 := of_decide_eq_false h1
    refine pwp_skip ?_
    refine pwp_seq ?_
    refine pwp_S (S' := [(2, (.ref 0 0))]) (B' := [(0, some (bx (encI (mkI (decide (n < 0)) (val (ofNat ((n % 18446744073709551616).toNat)))))))]) ?_ ?_
    · skip
      exact sM (vi n) rfl rfl <| sE' (e_lss rfl rfl rfl) rfl <| sM (vqn ((n % 18446744073709551616).toNat)) rfl rfl <| sE' (e_cl (t_split ((n % 18446744073709551616).toNat) (by omega)) rfl rfl rfl) rfl <| sE' (e_cl (t_made (decide (n < 0)) (ofNat ((n % 18446744073709551616).toNat)) (ofNat_dig _) (Nat.le_trans (ofNat_len3 (by omega)) (by decide))) rfl rfl rfl) rfl <| sT (t_std (d := (encI (mkI (decide (n < 0)) (val (ofNat ((n % 18446744073709551616).toNat)))))) (cs := (bx (encI (mkI (decide (n < 0)) (val (ofNat ((n % 18446744073709551616).toNat))))))) rfl rfl rfl sh24 rfl rfl rfl rfl) rfl rfl rfl <| sNil rfl rfl
    refine pwp_ret ⟨_, (res_a (cs := (bx (encI (mkI (decide (n < 0)) (val (ofNat ((n % 18446744073709551616).toNat))))))) (d := (encI (mkI (decide (n < 0)) (val (ofNat ((n % 18446744073709551616).toNat)))))) rfl rfl sh24 rfl rfl .nil), ?_⟩
    rw [of_pos h1 hhi]; rfl
theorem t_compareI (x : RInt) (y : RInt) (hx : x.gs.length ≤ 1099511627776) (hy : y.gs.length ≤ 1099511627776) : Takes Tryz.prog 105 [(encI x), (encI y)] (.val (.int .i64 ((cmpI (toZ x) (toZ y))))) := by
  refine fn_intro Tryz.func105 rfl cb105 rfl ?_
  show PWp _ _ _ _ ⟨[(0, (.d (encI x))), (1, (.d (encI y)))], []⟩
  refine pwp_seq ?_
  refine pwp_S (S' := [(2, (.ref 0 0)), (3, (.ref 1 0))]) (B' := [(0, some (bx (encI x))), (1, some (bx (encI y)))]) ?_ ?_
  · skip
    exact sN (n_bx (d := (encI x)) (cs := (bx (encI x))) 0 rfl rfl rfl rfl) rfl rfl rfl rfl <| sN (n_bx (d := (encI y)) (cs := (bx (encI y))) 1 rfl rfl rfl rfl) rfl rfl rfl rfl <| sM (vin 0) rfl rfl <| sNil rfl rfl
  refine pwp_seq ?_
  refine pwp_seq ?_
  refine pwp_D (S' := [(2, (.ref 0 0)), (3, (.ref 1 0)), (5, (vi (signI (toZ x)))), (6, (vi (signI (toZ y))))]) (B' := [(0, some (bx (encI x))), (1, some (bx (encI y)))]) mo (by kernel_rfl) ?_ ?_
  · skip
    exact dR (e_lda (cs := (bx (encI x))) (y := (.d (encI x))) rfl rfl sh24 rfl rfl) rfl rfl rfl rfl rfl <| dE' (e_cl (t_sign x (by omega)) rfl rfl rfl) rfl rfl <| dR (e_lda (cs := (bx (encI y))) (y := (.d (encI y))) rfl rfl sh24 rfl rfl) rfl rfl rfl rfl rfl <| dE' (e_cl (t_sign y (by omega)) rfl rfl rfl) rfl rfl <| dM (vi (signI (toZ x))) rfl rfl rfl <| dM (vi (signI (toZ y))) rfl rfl rfl <| dNil rfl rfl (by kernel_rfl)
  refine pwp_seq ?_
  refine pwp_S (S' := [(2, (.ref 0 0)), (3, (.ref 1 0)), (5, (vi (signI (toZ x)))), (6, (vi (signI (toZ y)))), (14, (vb ((signI (toZ x)) != (signI (toZ y)))))]) (B' := [(0, some (bx (encI x))), (1, some (bx (encI y)))]) ?_ ?_
  · skip
    exact sM (vi (signI (toZ x))) rfl rfl <| sM (vi (signI (toZ y))) rfl rfl <| sE' (e_neq rfl rfl rfl) rfl <| sNil rfl rfl
  refine pwp_cond (b := ((signI (toZ x)) != (signI (toZ y)))) rfl (fun h1 => ?_) (fun h1 => ?_)
  · skip
    replace h1 := bne_iff_ne.1 h1
    refine pwp_seq ?_
    refine pwp_S (S' := [(4, (vi (cmpI (signI (toZ x)) (signI (toZ y)))))]) (B' := []) ?_ ?_
    · skip
      exact sM (vi (signI (toZ x))) rfl rfl <| sM (vi (signI (toZ y))) rfl rfl <| sE' (e_cl (t_cmp_int (signI (toZ x)) (signI (toZ y))) rfl rfl rfl) rfl <| sM (vi (cmpI (signI (toZ x)) (signI (toZ y)))) rfl rfl <| sNil rfl rfl
    refine pwp_ret ⟨_, (.tmp (d := (.val (.int .i64 ((cmpI (signI (toZ x)) (signI (toZ y))))))) rfl .nil), ?_⟩
    rw [← cmp_sign h1]; rfl
  · skip
    replace h1 := bne_eq_false_iff_eq.1 h1
    refine pwp_skip ?_
    refine pwp_seq ?_
    refine pwp_D (S' := [(2, (.ref 0 0)), (7, (vi (cmpI ((val (grpI x) : Nat) : Int) ((val (grpI y) : Nat) : Int))))]) (B' := [(0, some (bx (encI x)))]) mo (by kernel_rfl) ?_ ?_
    · skip
      exact dR (e_lda (cs := (bx (encI x))) (y := (.d (encI x))) rfl rfl sh24 rfl rfl) rfl rfl rfl rfl rfl <| dE' (e_cl (t_groups x (by omega)) rfl rfl rfl) rfl rfl <| dR (e_lda (cs := (bx (encI y))) (y := (.d (encI y))) rfl rfl sh24 rfl rfl) rfl rfl rfl rfl rfl <| dE' (e_cl (t_groups y (by omega)) rfl rfl rfl) rfl rfl <| dE' (e_cl (t_compare (grpI x) (grpI y) (grpI_can _) (grpI_can _) (Nat.le_trans (grpI_len _) (by omega))) rfl rfl rfl) rfl rfl <| dM (vi (cmpI ((val (grpI x) : Nat) : Int) ((val (grpI y) : Nat) : Int))) rfl rfl rfl <| dNil rfl rfl (by kernel_rfl)
    refine pwp_seq ?_
    refine pwp_seq ?_
    refine pwp_S (S' := [(7, (vi (cmpI ((val (grpI x) : Nat) : Int) ((val (grpI y) : Nat) : Int)))), (24, (vb x.neg))]) (B' := []) ?_ ?_
    · skip
      exact sE' (e_fldr (q := 0) rfl rfl fo24_0 rfl) rfl <| sR (e_ld1 (cs := (bx (encI x))) (y := (vb x.neg)) rfl rfl sh4 rfl) rfl rfl rfl rfl <| sNil rfl rfl
    refine pwp_cond (b := x.neg) rfl (fun h2 => ?_) (fun h2 => ?_)
    · skip
      refine pwp_seq ?_
      refine pwp_S (S' := [(4, (vi (-(cmpI ((val (grpI x) : Nat) : Int) ((val (grpI y) : Nat) : Int)))))]) (B' := []) ?_ ?_
      · skip
        exact sM (vi (cmpI ((val (grpI x) : Nat) : Int) ((val (grpI y) : Nat) : Int))) rfl rfl <| sE' (e_neg (r := -(cmpI ((val (grpI x) : Nat) : Int) ((val (grpI y) : Nat) : Int))) rfl rfl (wi64 (by omega) (by have := cmpI_range ((val (grpI x) : Nat) : Int) ((val (grpI y) : Nat) : Int); omega) (by have := cmpI_range ((val (grpI x) : Nat) : Int) ((val (grpI y) : Nat) : Int); omega))) rfl <| sM (vi (-(cmpI ((val (grpI x) : Nat) : Int) ((val (grpI y) : Nat) : Int)))) rfl rfl <| sNil rfl rfl
      refine pwp_ret ⟨_, (.tmp (d := (.val (.int .i64 (-(cmpI ((val (grpI x) : Nat) : Int) ((val (grpI y) : Nat) : Int)))))) rfl .nil), ?_⟩
      rw [← cmp_neg h1 h2]; rfl
    · skip
      refine pwp_skip ?_
      refine pwp_seq ?_
      refine pwp_S (S' := [(4, (vi (cmpI ((val (grpI x) : Nat) : Int) ((val (grpI y) : Nat) : Int))))]) (B' := []) ?_ ?_
      · skip
        exact sM (vi (cmpI ((val (grpI x) : Nat) : Int) ((val (grpI y) : Nat) : Int))) rfl rfl <| sM (vi (cmpI ((val (grpI x) : Nat) : Int) ((val (grpI y) : Nat) : Int))) rfl rfl <| sNil rfl rfl
      refine pwp_ret ⟨_, (.tmp (d := (.val (.int .i64 ((cmpI ((val (grpI x) : Nat) : Int) ((val (grpI y) : Nat) : Int)))))) rfl .nil), ?_⟩
      rw [← cmp_pos h1 h2]; rfl
end Go.Proofs.YtcdgmcfkhkikbaaGreat
