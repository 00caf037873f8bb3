/-
  Functions walked: each takes its data to what is said. Printed by a program of ours.
-/
import Derived.Test.YtadkkhdnccljcaaGreatIntA
namespace Go.Proofs.YtadkkhdnccljcaaGreat
open Go.Fid
set_option maxRecDepth 4000
set_option linter.unusedVariables false
set_option linter.unusedSimpArgs false
theorem bo4 : boolB Tryz.prog 4 = true := by kernel_rfl
theorem cb86 : callB Tryz.prog 86 = true := by kernel_rfl
theorem cb87 : callB Tryz.prog 87 = true := by kernel_rfl
theorem cb92 : callB Tryz.prog 92 = true := by kernel_rfl
theorem cb125 : callB Tryz.prog 125 = true := by kernel_rfl
theorem cb134 : callB Tryz.prog 134 = true := by kernel_rfl
theorem cb151 : callB Tryz.prog 151 = true := by kernel_rfl
theorem cb153 : callB Tryz.prog 153 = true := by kernel_rfl
theorem cb154 : callB Tryz.prog 154 = true := by kernel_rfl
theorem un3 : (Tryz.prog.underlying 3).isSome = true := by kernel_rfl
theorem t_sign (x : RInt) (hx : x.gs.length ≤ 1099511627776) : Takes Tryz.prog 87 [(encI x)] (.val (.int .i64 ((signI (toZ x))))) := by
  refine fn_intro Tryz.func87 rfl cb87 rfl ?_
  show PWp _ _ _ _ ⟨[(0, (.d (encI x)))], []⟩
  refine pwp_seq <| pwp_S (S' := [(1, (.ref 0 0))]) (B' := [(0, some (bx (encI x)))]) ?_ ?_
  · exact sN (n_bx (d := (encI x)) (cs := (bx (encI x))) 0 rfl rfl rfl rfl) rfl rfl rfl rfl <| sM (vin 0) rfl rfl <| sNil rfl rfl
  refine pwp_seq <| pwp_block <| pwp_seq <| pwp_S (S' := [(1, (.ref 0 0)), (3, (vb ((((grpI x).length : Nat) : Int) == 0)))]) (B' := [(0, some (bx (encI x)))]) ?_ ?_
  · exact sR (e_lda (cs := (bx (encI x))) (y := (.d (encI x))) rfl rfl sh30 rfl rfl) rfl rfl rfl rfl <| sE' (e_cl (t_groups x (by omega)) rfl rfl rfl) rfl <| sE' (e_ln (r := (((grpI x).length : Nat) : Int)) rfl el28 rfl (by simp)) rfl <| sE' (e_eql rfl rfl rfl) rfl <| sM (vb ((((grpI x).length : Nat) : Int) == 0)) rfl rfl <| sNil rfl rfl
  refine pwp_cond (b := ((((grpI x).length : Nat) : Int) == 0)) rfl (fun h1 => ?_) (fun h1 => ?_)
  · replace h1 := eq_of_beq h1
    refine pwp_seq <| pwp_S (S' := [(2, (vin 0))]) (B' := []) ?_ ?_
    · exact sM (vin 0) rfl rfl <| sNil rfl rfl
    refine pwp_ret ⟨_, (.tmp (d := (.val (.int .i64 (0)))) rfl .nil), ?_⟩
    rw [toZ_nil h1]; rfl
  · replace h1 := ne_of_beq_false h1
    refine pwp_seq <| pwp_S (S' := [(8, (vb x.neg))]) (B' := []) ?_ ?_
    · exact sE' (e_fldr (q := 0) rfl rfl fo30_0 rfl) rfl <| sR (e_ld1 (cs := (bx (encI x))) (y := (vb x.neg)) rfl rfl sh4 rfl) rfl rfl rfl rfl <| sM (vb x.neg) rfl rfl <| sNil rfl rfl
    refine pwp_cond (b := x.neg) rfl (fun h2 => ?_) (fun h2 => ?_)
    · refine pwp_seq <| pwp_S (S' := [(2, (vi (-1)))]) (B' := []) ?_ ?_
      · exact sM (vi (-1)) rfl rfl <| sNil rfl rfl
      refine pwp_ret ⟨_, (.tmp (d := (.val (.int .i64 (-1)))) rfl .nil), ?_⟩
      rw [sign_neg h1 h2]; rfl
    · refine pwp_skip <| pwp_seq <| pwp_S (S' := [(2, (vin 1))]) (B' := []) ?_ ?_
      · exact sM (vin 1) rfl rfl <| sNil rfl rfl
      refine pwp_ret ⟨_, (.tmp (d := (.val (.int .i64 (1)))) rfl .nil), ?_⟩
      rw [sign_pos h1 h2]; rfl
theorem t_neg (x : RInt) (hx : x.gs.length ≤ 1099511627776) : Takes Tryz.prog 153 [(encI x)] (encI (ofZ (-toZ x))) := by
  refine fn_intro Tryz.func153 rfl cb153 rfl ?_
  show PWp _ _ _ _ ⟨[(0, (.d (encI x)))], []⟩
  refine pwp_seq <| pwp_S (S' := [(1, (.ref 0 0)), (2, (.ref 1 0))]) (B' := [(0, some (bx (encI x))), (1, some (bx (encI (RInt.mk false []))))]) ?_ ?_
  · exact sN (n_bx (d := (encI x)) (cs := (bx (encI x))) 0 rfl rfl rfl rfl) rfl rfl rfl rfl <| sN (n_al (cs := (bx (encI (RInt.mk false [])))) 1 rfl ze30 zo30 rfl) rfl rfl rfl rfl <| sNil rfl rfl
  refine pwp_seq <| pwp_D (S' := [(2, (.ref 1 0))]) (B' := [(1, some (bx (encI (mkI (!x.neg) (val (grpI x))))))]) mo (by kernel_rfl) ?_ ?_
  · exact dE' (e_fldr (q := 0) rfl rfl fo30_0 rfl) rfl rfl <| dR (e_ld1 (cs := (bx (encI x))) (y := (vb x.neg)) rfl rfl sh4 rfl) rfl rfl rfl rfl rfl <| dE' (e_not rfl rfl) rfl rfl <| dR (e_lda (cs := (bx (encI x))) (y := (.d (encI x))) rfl rfl sh30 rfl rfl) rfl rfl rfl rfl rfl <| dE' (e_cl (t_groups x (by omega)) rfl rfl rfl) rfl rfl <| dE' (e_cl (t_clone (grpI x) (Nat.le_trans (grpI_len _) (by omega))) rfl rfl rfl) rfl rfl <| dE' (e_cl (t_made (!x.neg) (grpI x) (grpI_can _).1 (Nat.le_trans (grpI_len _) (by omega))) rfl rfl rfl) rfl rfl <| dT (t_std (d := (encI (mkI (!x.neg) (val (grpI x))))) (cs := (bx (encI (mkI (!x.neg) (val (grpI x)))))) rfl rfl rfl sh30 rfl rfl rfl rfl) rfl rfl rfl rfl <| dNil rfl rfl (by kernel_rfl)
  refine pwp_ret ⟨_, (res_a (cs := (bx (encI (mkI (!x.neg) (val (grpI x)))))) (d := (encI (mkI (!x.neg) (val (grpI x))))) rfl rfl sh30 rfl rfl .nil), ?_⟩
  rw [← neg_eq]; rfl
theorem t_sum (b : Bool) (l : List Nat) (c : Bool) (m : List Nat) (hl : Cano l) (hm : Cano m) (hll : l.length ≤ 1099511627776) (hlm : m.length ≤ 1099511627776) : Takes Tryz.prog 154 [(.val (.bool (b))), (.sl 138 1 (List.map enc_u32 l)), (.val (.bool (c))), (.sl 138 1 (List.map enc_u32 m))] (encI (ofZ (sgn b (val l) + sgn c (val m)))) := by
  refine fn_intro Tryz.func154 rfl cb154 rfl ?_
  show PWp _ _ _ _ ⟨[(0, (vb b)), (1, (vl 138 1 enc_u32 l)), (2, (vb c)), (3, (vl 138 1 enc_u32 m))], []⟩
  refine pwp_seq <| pwp_S (S' := [(0, (vb b)), (1, (vl 138 1 enc_u32 l)), (2, (vb c)), (3, (vl 138 1 enc_u32 m)), (8, (.ref 0 0))]) (B' := [(0, some (bx (encI (RInt.mk false []))))]) ?_ ?_
  · exact sN (n_al (cs := (bx (encI (RInt.mk false [])))) 0 rfl ze30 zo30 rfl) rfl rfl rfl rfl <| sNil rfl rfl
  refine pwp_seq <| pwp_block <| pwp_seq <| pwp_S (S' := [(0, (vb b)), (1, (vl 138 1 enc_u32 l)), (2, (vb c)), (3, (vl 138 1 enc_u32 m)), (8, (.ref 0 0)), (9, (vb (b == c)))]) (B' := [(0, some (bx (encI (RInt.mk false []))))]) ?_ ?_
  · exact sM (vb b) rfl rfl <| sM (vb c) rfl rfl <| sE' (e_eqlb rfl bo4 rfl rfl) rfl <| sM (vb (b == c)) rfl rfl <| sNil rfl rfl
  refine pwp_cond (b := (b == c)) rfl (fun h1 => ?_) (fun h1 => ?_)
  · replace h1 := eq_of_beq h1
    refine pwp_seq <| pwp_S (S' := [(8, (.ref 0 0))]) (B' := [(0, some (bx (encI (mkI b (val (ofNat (val l + val m)))))))]) ?_ ?_
    · exact sM (vb b) rfl rfl <| sM (vl 138 1 enc_u32 l) rfl rfl <| sM (vl 138 1 enc_u32 m) rfl rfl <| sE' (e_cl (t_plus l m hl.1 hm.1 (by omega) (by omega)) rfl rfl rfl) rfl <| sE' (e_cl (t_made b (ofNat (val l + val m)) (ofNat_dig _) (Nat.le_trans (add_len hl.1 hm.1) (by omega))) rfl rfl rfl) rfl <| sT (t_std (d := (encI (mkI b (val (ofNat (val l + val m)))))) (cs := (bx (encI (mkI b (val (ofNat (val l + val m))))))) rfl rfl rfl sh30 rfl rfl rfl rfl) rfl rfl rfl <| sNil rfl rfl
    refine pwp_ret ⟨_, (res_a (cs := (bx (encI (mkI b (val (ofNat (val l + val m))))))) (d := (encI (mkI b (val (ofNat (val l + val m)))))) rfl rfl sh30 rfl rfl .nil), ?_⟩
    rw [← sum_same h1]; rfl
  · replace h1 := ne_of_beq_false h1
    refine pwp_seq <| pwp_S (S' := [(0, (vb b)), (1, (vl 138 1 enc_u32 l)), (2, (vb c)), (3, (vl 138 1 enc_u32 m)), (8, (.ref 0 0)), (18, (vb (decide (0 ≤ (cmpI ((val l : Nat) : Int) ((val m : Nat) : Int))))))]) (B' := [(0, some (bx (encI (RInt.mk false []))))]) ?_ ?_
    · exact sM (vl 138 1 enc_u32 l) rfl rfl <| sM (vl 138 1 enc_u32 m) rfl rfl <| sE' (e_cl (t_compare l m (by assumption) (by assumption) (by omega)) rfl rfl rfl) rfl <| sE' (e_geq rfl rfl rfl) rfl <| sM (vb (decide (0 ≤ (cmpI ((val l : Nat) : Int) ((val m : Nat) : Int))))) rfl rfl <| sNil rfl rfl
    refine pwp_cond (b := decide (0 ≤ (cmpI ((val l : Nat) : Int) ((val m : Nat) : Int)))) rfl (fun h2 => ?_) (fun h2 => ?_)
    · replace h2 := of_decide_eq_true h2
      refine pwp_seq <| pwp_S (S' := [(8, (.ref 0 0))]) (B' := [(0, some (bx (encI (mkI b (val (ofNat (val l - val m)))))))]) ?_ ?_
      · exact sM (vb b) rfl rfl <| sM (vl 138 1 enc_u32 l) rfl rfl <| sM (vl 138 1 enc_u32 m) rfl rfl <| sE' (e_cl (t_minus l m hl.1 hm.1 (by have := cmpI_ge h2; omega) (by omega)) rfl rfl rfl) rfl <| sE' (e_cl (t_made b (ofNat (val l - val m)) (ofNat_dig _) (Nat.le_trans (sub_len hl.1) (by omega))) rfl rfl rfl) rfl <| sT (t_std (d := (encI (mkI b (val (ofNat (val l - val m)))))) (cs := (bx (encI (mkI b (val (ofNat (val l - val m))))))) rfl rfl rfl sh30 rfl rfl rfl rfl) rfl rfl rfl <| sNil rfl rfl
      refine pwp_ret ⟨_, (res_a (cs := (bx (encI (mkI b (val (ofNat (val l - val m))))))) (d := (encI (mkI b (val (ofNat (val l - val m)))))) rfl rfl sh30 rfl rfl .nil), ?_⟩
      rw [← sum_first h1 (by have := cmpI_ge h2; omega)]; rfl
    · replace h2 := of_decide_eq_false h2
      refine pwp_skip <| pwp_seq <| pwp_S (S' := [(8, (.ref 0 0))]) (B' := [(0, some (bx (encI (mkI c (val (ofNat (val m - val l)))))))]) ?_ ?_
      · exact sM (vb c) rfl rfl <| sM (vl 138 1 enc_u32 m) rfl rfl <| sM (vl 138 1 enc_u32 l) rfl rfl <| sE' (e_cl (t_minus m l hm.1 hl.1 (by have := cmpI_lt h2; omega) (by omega)) rfl rfl rfl) rfl <| sE' (e_cl (t_made c (ofNat (val m - val l)) (ofNat_dig _) (Nat.le_trans (sub_len hm.1) (by omega))) rfl rfl rfl) rfl <| sT (t_std (d := (encI (mkI c (val (ofNat (val m - val l)))))) (cs := (bx (encI (mkI c (val (ofNat (val m - val l))))))) rfl rfl rfl sh30 rfl rfl rfl rfl) rfl rfl rfl <| sNil rfl rfl
      refine pwp_ret ⟨_, (res_a (cs := (bx (encI (mkI c (val (ofNat (val m - val l))))))) (d := (encI (mkI c (val (ofNat (val m - val l)))))) rfl rfl sh30 rfl rfl .nil), ?_⟩
      rw [← sum_second h1 (by have := cmpI_lt h2; omega)]; rfl
theorem t_add (x : RInt) (y : RInt) (hx : x.gs.length ≤ 1099511627776) (hy : y.gs.length ≤ 1099511627776) : Takes Tryz.prog 151 [(encI x), (encI y)] (encI (ofZ (toZ x + toZ y))) := by
  refine fn_intro Tryz.func151 rfl cb151 rfl ?_
  show PWp _ _ _ _ ⟨[(0, (.d (encI x))), (1, (.d (encI y)))], []⟩
  refine pwp_seq <| pwp_S (S' := [(2, (.ref 0 0)), (3, (.ref 1 0)), (4, (.ref 2 0))]) (B' := [(0, some (bx (encI x))), (1, some (bx (encI y))), (2, some (bx (encI (RInt.mk false []))))]) ?_ ?_
  · exact sN (n_bx (d := (encI x)) (cs := (bx (encI x))) 0 rfl rfl rfl rfl) rfl rfl rfl rfl <| sN (n_bx (d := (encI y)) (cs := (bx (encI y))) 1 rfl rfl rfl rfl) rfl rfl rfl rfl <| sN (n_al (cs := (bx (encI (RInt.mk false [])))) 2 rfl ze30 zo30 rfl) rfl rfl rfl rfl <| sNil rfl rfl
  refine pwp_seq <| pwp_D (S' := [(4, (.ref 2 0))]) (B' := [(2, some (bx (encI (ofZ (sgn x.neg (val (grpI x)) + sgn y.neg (val (grpI y)))))))]) mo (by kernel_rfl) ?_ ?_
  · exact dE' (e_fldr (q := 0) rfl rfl fo30_0 rfl) rfl rfl <| dR (e_ld1 (cs := (bx (encI x))) (y := (vb x.neg)) rfl rfl sh4 rfl) rfl rfl rfl rfl rfl <| dR (e_lda (cs := (bx (encI x))) (y := (.d (encI x))) rfl rfl sh30 rfl rfl) rfl rfl rfl rfl rfl <| dE' (e_cl (t_groups x (by omega)) rfl rfl rfl) rfl rfl <| dE' (e_fldr (q := 0) rfl rfl fo30_0 rfl) rfl rfl <| dR (e_ld1 (cs := (bx (encI y))) (y := (vb y.neg)) rfl rfl sh4 rfl) rfl rfl rfl rfl rfl <| dR (e_lda (cs := (bx (encI y))) (y := (.d (encI y))) rfl rfl sh30 rfl rfl) rfl rfl rfl rfl rfl <| dE' (e_cl (t_groups y (by omega)) rfl rfl rfl) rfl rfl <| dE' (e_cl (t_sum x.neg (grpI x) y.neg (grpI y) (grpI_can _) (grpI_can _) (Nat.le_trans (grpI_len _) (by omega)) (Nat.le_trans (grpI_len _) (by omega))) rfl rfl rfl) rfl rfl <| dT (t_std (d := (encI (ofZ (sgn x.neg (val (grpI x)) + sgn y.neg (val (grpI y)))))) (cs := (bx (encI (ofZ (sgn x.neg (val (grpI x)) + sgn y.neg (val (grpI y))))))) rfl rfl rfl sh30 rfl rfl rfl rfl) rfl rfl rfl rfl <| dNil rfl rfl (by kernel_rfl)
  refine pwp_ret ⟨_, (res_a (cs := (bx (encI (ofZ (sgn x.neg (val (grpI x)) + sgn y.neg (val (grpI y))))))) (d := (encI (ofZ (sgn x.neg (val (grpI x)) + sgn y.neg (val (grpI y)))))) rfl rfl sh30 rfl rfl .nil), ?_⟩
  rfl
theorem t_sub (x : RInt) (y : RInt) (hx : x.gs.length ≤ 1099511627776) (hy : y.gs.length ≤ 1099511627776) : Takes Tryz.prog 125 [(encI x), (encI y)] (encI (ofZ (toZ x - toZ y))) := by
  refine fn_intro Tryz.func125 rfl cb125 rfl ?_
  show PWp _ _ _ _ ⟨[(0, (.d (encI x))), (1, (.d (encI y)))], []⟩
  refine pwp_seq <| pwp_S (S' := [(2, (.ref 0 0)), (3, (.ref 1 0)), (4, (.ref 2 0))]) (B' := [(0, some (bx (encI x))), (1, some (bx (encI y))), (2, some (bx (encI (RInt.mk false []))))]) ?_ ?_
  · exact sN (n_bx (d := (encI x)) (cs := (bx (encI x))) 0 rfl rfl rfl rfl) rfl rfl rfl rfl <| sN (n_bx (d := (encI y)) (cs := (bx (encI y))) 1 rfl rfl rfl rfl) rfl rfl rfl rfl <| sN (n_al (cs := (bx (encI (RInt.mk false [])))) 2 rfl ze30 zo30 rfl) rfl rfl rfl rfl <| sNil rfl rfl
  refine pwp_seq <| pwp_D (S' := [(4, (.ref 2 0))]) (B' := [(2, some (bx (encI (ofZ (sgn x.neg (val (grpI x)) + sgn (!y.neg) (val (grpI y)))))))]) mo (by kernel_rfl) ?_ ?_
  · exact dE' (e_fldr (q := 0) rfl rfl fo30_0 rfl) rfl rfl <| dR (e_ld1 (cs := (bx (encI x))) (y := (vb x.neg)) rfl rfl sh4 rfl) rfl rfl rfl rfl rfl <| dR (e_lda (cs := (bx (encI x))) (y := (.d (encI x))) rfl rfl sh30 rfl rfl) rfl rfl rfl rfl rfl <| dE' (e_cl (t_groups x (by omega)) rfl rfl rfl) rfl rfl <| dE' (e_fldr (q := 0) rfl rfl fo30_0 rfl) rfl rfl <| dR (e_ld1 (cs := (bx (encI y))) (y := (vb y.neg)) rfl rfl sh4 rfl) rfl rfl rfl rfl rfl <| dE' (e_not rfl rfl) rfl rfl <| dR (e_lda (cs := (bx (encI y))) (y := (.d (encI y))) rfl rfl sh30 rfl rfl) rfl rfl rfl rfl rfl <| dE' (e_cl (t_groups y (by omega)) rfl rfl rfl) rfl rfl <| dE' (e_cl (t_sum x.neg (grpI x) (!y.neg) (grpI y) (grpI_can _) (grpI_can _) (Nat.le_trans (grpI_len _) (by omega)) (Nat.le_trans (grpI_len _) (by omega))) rfl rfl rfl) rfl rfl <| dT (t_std (d := (encI (ofZ (sgn x.neg (val (grpI x)) + sgn (!y.neg) (val (grpI y)))))) (cs := (bx (encI (ofZ (sgn x.neg (val (grpI x)) + sgn (!y.neg) (val (grpI y))))))) rfl rfl rfl sh30 rfl rfl rfl rfl) rfl rfl rfl rfl <| dNil rfl rfl (by kernel_rfl)
  refine pwp_ret ⟨_, (res_a (cs := (bx (encI (ofZ (sgn x.neg (val (grpI x)) + sgn (!y.neg) (val (grpI y))))))) (d := (encI (ofZ (sgn x.neg (val (grpI x)) + sgn (!y.neg) (val (grpI y)))))) rfl rfl sh30 rfl rfl .nil), ?_⟩
  rw [← sub_sgn]; rfl
theorem t_mul (x : RInt) (y : RInt) (hx : x.gs.length ≤ 1099511627776) (hy : y.gs.length ≤ 1099511627776) : Takes Tryz.prog 92 [(encI x), (encI y)] (encI (ofZ (toZ x * toZ y))) := by
  refine fn_intro Tryz.func92 rfl cb92 rfl ?_
  show PWp _ _ _ _ ⟨[(0, (.d (encI x))), (1, (.d (encI y)))], []⟩
  refine pwp_seq <| pwp_S (S' := [(2, (.ref 0 0)), (3, (.ref 1 0)), (4, (.ref 2 0))]) (B' := [(0, some (bx (encI x))), (1, some (bx (encI y))), (2, some (bx (encI (RInt.mk false []))))]) ?_ ?_
  · exact sN (n_bx (d := (encI x)) (cs := (bx (encI x))) 0 rfl rfl rfl rfl) rfl rfl rfl rfl <| sN (n_bx (d := (encI y)) (cs := (bx (encI y))) 1 rfl rfl rfl rfl) rfl rfl rfl rfl <| sN (n_al (cs := (bx (encI (RInt.mk false [])))) 2 rfl ze30 zo30 rfl) rfl rfl rfl rfl <| sNil rfl rfl
  refine pwp_seq <| pwp_D (S' := [(4, (.ref 2 0))]) (B' := [(2, some (bx (encI (mkI (!(x.neg == y.neg)) (val (ofNat (val (grpI x) * val (grpI y))))))))]) mo (by kernel_rfl) ?_ ?_
  · exact dE' (e_fldr (q := 0) rfl rfl fo30_0 rfl) rfl rfl <| dR (e_ld1 (cs := (bx (encI x))) (y := (vb x.neg)) rfl rfl sh4 rfl) rfl rfl rfl rfl rfl <| dE' (e_fldr (q := 0) rfl rfl fo30_0 rfl) rfl rfl <| dR (e_ld1 (cs := (bx (encI y))) (y := (vb y.neg)) rfl rfl sh4 rfl) rfl rfl rfl rfl rfl <| dE' (e_neqb rfl bo4 rfl rfl) rfl rfl <| dR (e_lda (cs := (bx (encI x))) (y := (.d (encI x))) rfl rfl sh30 rfl rfl) rfl rfl rfl rfl rfl <| dE' (e_cl (t_groups x (by omega)) rfl rfl rfl) rfl rfl <| dR (e_lda (cs := (bx (encI y))) (y := (.d (encI y))) rfl rfl sh30 rfl rfl) rfl rfl rfl rfl rfl <| dE' (e_cl (t_groups y (by omega)) rfl rfl rfl) rfl rfl <| dE' (e_cl (t_times (grpI x) (grpI y) (grpI_can _).1 (grpI_can _).1 (Nat.le_trans (grpI_len _) (by omega)) (Nat.le_trans (grpI_len _) (by omega))) rfl rfl rfl) rfl rfl <| dE' (e_cl (t_made (!(x.neg == y.neg)) (ofNat (val (grpI x) * val (grpI y))) (ofNat_dig _) (Nat.le_trans (mul_len (grpI_can _).1 (grpI_can _).1) (by have := grpI_len x; have := grpI_len y; omega))) rfl rfl rfl) rfl rfl <| dT (t_std (d := (encI (mkI (!(x.neg == y.neg)) (val (ofNat (val (grpI x) * val (grpI y))))))) (cs := (bx (encI (mkI (!(x.neg == y.neg)) (val (ofNat (val (grpI x) * val (grpI y)))))))) rfl rfl rfl sh30 rfl rfl rfl rfl) rfl rfl rfl rfl <| dNil rfl rfl (by kernel_rfl)
  refine pwp_ret ⟨_, (res_a (cs := (bx (encI (mkI (!(x.neg == y.neg)) (val (ofNat (val (grpI x) * val (grpI y)))))))) (d := (encI (mkI (!(x.neg == y.neg)) (val (ofNat (val (grpI x) * val (grpI y))))))) rfl rfl sh30 rfl rfl .nil), ?_⟩
  rw [show toZ x * toZ y = _ from rfl, toZ, toZ, ← mul_eq]; rfl
theorem t_of (n : Int) (hlo : -9223372036854775808 ≤ n) (hhi : n ≤ 9223372036854775807) : Takes Tryz.prog 86 [(.val (.int .i64 (n)))] (encI (ofZ n)) := by
  refine fn_intro Tryz.func86 rfl cb86 rfl ?_
  show PWp _ _ _ _ ⟨[(0, (vi n))], []⟩
  refine pwp_seq <| pwp_S (S' := [(0, (vi n)), (2, (.ref 0 0))]) (B' := [(0, some (bx (encI (RInt.mk false []))))]) ?_ ?_
  · exact sN (n_al (cs := (bx (encI (RInt.mk false [])))) 0 rfl ze30 zo30 rfl) rfl rfl rfl rfl <| sNil rfl rfl
  refine pwp_seq <| pwp_S (S' := [(0, (vi n)), (2, (.ref 0 0)), (3, (vqn ((n % 18446744073709551616).toNat)))]) (B' := [(0, some (bx (encI (RInt.mk false []))))]) ?_ ?_
  · exact sM (vi n) rfl rfl <| sE' (e_conv (r := (((n % 18446744073709551616).toNat : Nat) : Int)) rfl un3 in140 rfl (conv_u64 _)) rfl <| sM (vqn ((n % 18446744073709551616).toNat)) rfl rfl <| sNil rfl rfl
  refine pwp_seq <| pwp_seq <| pwp_S (S' := [(0, (vi n)), (2, (.ref 0 0)), (3, (vqn ((n % 18446744073709551616).toNat))), (7, (vb (decide (n < 0))))]) (B' := [(0, some (bx (encI (RInt.mk false []))))]) ?_ ?_
  · exact sM (vi n) rfl rfl <| sE' (e_lss rfl rfl rfl) rfl <| sNil rfl rfl
  refine pwp_cond (b := decide (n < 0)) rfl (fun h1 => ?_) (fun h1 => ?_)
  · replace h1 := of_decide_eq_true h1
    refine pwp_S (S' := [(0, (vi n)), (2, (.ref 0 0)), (3, (vqn ((-n).toNat)))]) (B' := [(0, some (bx (encI (RInt.mk false []))))]) ?_ ?_
    · exact sM (vqn ((n % 18446744073709551616).toNat)) rfl rfl <| sE' (e_neg (r := (((-n).toNat : Nat) : Int)) rfl rfl (neg_u64 (by assumption) hlo)) rfl <| sM (vqn ((-n).toNat)) rfl rfl <| sNil rfl rfl
    refine pwp_seq <| pwp_S (S' := [(2, (.ref 0 0))]) (B' := [(0, some (bx (encI (mkI (decide (n < 0)) (val (ofNat ((-n).toNat)))))))]) ?_ ?_
    · exact sM (vi n) rfl rfl <| sE' (e_lss rfl rfl rfl) rfl <| sM (vqn ((-n).toNat)) rfl rfl <| sE' (e_cl (t_split ((-n).toNat) (by omega)) rfl rfl rfl) rfl <| sE' (e_cl (t_made (decide (n < 0)) (ofNat ((-n).toNat)) (ofNat_dig _) (Nat.le_trans (ofNat_len3 (by omega)) (by decide))) rfl rfl rfl) rfl <| sT (t_std (d := (encI (mkI (decide (n < 0)) (val (ofNat ((-n).toNat)))))) (cs := (bx (encI (mkI (decide (n < 0)) (val (ofNat ((-n).toNat))))))) rfl rfl rfl sh30 rfl rfl rfl rfl) rfl rfl rfl <| sNil rfl rfl
    refine pwp_ret ⟨_, (res_a (cs := (bx (encI (mkI (decide (n < 0)) (val (ofNat ((-n).toNat))))))) (d := (encI (mkI (decide (n < 0)) (val (ofNat ((-n).toNat)))))) rfl rfl sh30 rfl rfl .nil), ?_⟩
    rw [of_neg h1]; rfl
  · replace h1 := of_decide_eq_false h1
    refine pwp_skip <| pwp_seq <| pwp_S (S' := [(2, (.ref 0 0))]) (B' := [(0, some (bx (encI (mkI (decide (n < 0)) (val (ofNat ((n % 18446744073709551616).toNat)))))))]) ?_ ?_
    · exact sM (vi n) rfl rfl <| sE' (e_lss rfl rfl rfl) rfl <| sM (vqn ((n % 18446744073709551616).toNat)) rfl rfl <| sE' (e_cl (t_split ((n % 18446744073709551616).toNat) (by omega)) rfl rfl rfl) rfl <| sE' (e_cl (t_made (decide (n < 0)) (ofNat ((n % 18446744073709551616).toNat)) (ofNat_dig _) (Nat.le_trans (ofNat_len3 (by omega)) (by decide))) rfl rfl rfl) rfl <| sT (t_std (d := (encI (mkI (decide (n < 0)) (val (ofNat ((n % 18446744073709551616).toNat)))))) (cs := (bx (encI (mkI (decide (n < 0)) (val (ofNat ((n % 18446744073709551616).toNat))))))) rfl rfl rfl sh30 rfl rfl rfl rfl) rfl rfl rfl <| sNil rfl rfl
    refine pwp_ret ⟨_, (res_a (cs := (bx (encI (mkI (decide (n < 0)) (val (ofNat ((n % 18446744073709551616).toNat))))))) (d := (encI (mkI (decide (n < 0)) (val (ofNat ((n % 18446744073709551616).toNat)))))) rfl rfl sh30 rfl rfl .nil), ?_⟩
    rw [of_pos h1 hhi]; rfl
theorem t_compareI (x : RInt) (y : RInt) (hx : x.gs.length ≤ 1099511627776) (hy : y.gs.length ≤ 1099511627776) : Takes Tryz.prog 134 [(encI x), (encI y)] (.val (.int .i64 ((cmpI (toZ x) (toZ y))))) := by
  refine fn_intro Tryz.func134 rfl cb134 rfl ?_
  show PWp _ _ _ _ ⟨[(0, (.d (encI x))), (1, (.d (encI y)))], []⟩
  refine pwp_seq <| pwp_S (S' := [(2, (.ref 0 0)), (3, (.ref 1 0))]) (B' := [(0, some (bx (encI x))), (1, some (bx (encI y)))]) ?_ ?_
  · exact sN (n_bx (d := (encI x)) (cs := (bx (encI x))) 0 rfl rfl rfl rfl) rfl rfl rfl rfl <| sN (n_bx (d := (encI y)) (cs := (bx (encI y))) 1 rfl rfl rfl rfl) rfl rfl rfl rfl <| sM (vin 0) rfl rfl <| sNil rfl rfl
  refine pwp_seq <| pwp_seq <| pwp_D (S' := [(2, (.ref 0 0)), (3, (.ref 1 0)), (5, (vi (signI (toZ x)))), (6, (vi (signI (toZ y))))]) (B' := [(0, some (bx (encI x))), (1, some (bx (encI y)))]) mo (by kernel_rfl) ?_ ?_
  · exact dR (e_lda (cs := (bx (encI x))) (y := (.d (encI x))) rfl rfl sh30 rfl rfl) rfl rfl rfl rfl rfl <| dE' (e_cl (t_sign x (by omega)) rfl rfl rfl) rfl rfl <| dR (e_lda (cs := (bx (encI y))) (y := (.d (encI y))) rfl rfl sh30 rfl rfl) rfl rfl rfl rfl rfl <| dE' (e_cl (t_sign y (by omega)) rfl rfl rfl) rfl rfl <| dM (vi (signI (toZ x))) rfl rfl rfl <| dM (vi (signI (toZ y))) rfl rfl rfl <| dNil rfl rfl (by kernel_rfl)
  refine pwp_seq <| pwp_S (S' := [(2, (.ref 0 0)), (3, (.ref 1 0)), (5, (vi (signI (toZ x)))), (6, (vi (signI (toZ y)))), (14, (vb ((signI (toZ x)) != (signI (toZ y)))))]) (B' := [(0, some (bx (encI x))), (1, some (bx (encI y)))]) ?_ ?_
  · exact sM (vi (signI (toZ x))) rfl rfl <| sM (vi (signI (toZ y))) rfl rfl <| sE' (e_neq rfl rfl rfl) rfl <| sNil rfl rfl
  refine pwp_cond (b := ((signI (toZ x)) != (signI (toZ y)))) rfl (fun h1 => ?_) (fun h1 => ?_)
  · replace h1 := bne_iff_ne.1 h1
    refine pwp_seq <| pwp_S (S' := [(4, (vi (cmpI (signI (toZ x)) (signI (toZ y)))))]) (B' := []) ?_ ?_
    · exact sM (vi (signI (toZ x))) rfl rfl <| sM (vi (signI (toZ y))) rfl rfl <| sE' (e_cl (t_cmp_int (signI (toZ x)) (signI (toZ y))) rfl rfl rfl) rfl <| sM (vi (cmpI (signI (toZ x)) (signI (toZ y)))) rfl rfl <| sNil rfl rfl
    refine pwp_ret ⟨_, (.tmp (d := (.val (.int .i64 ((cmpI (signI (toZ x)) (signI (toZ y))))))) rfl .nil), ?_⟩
    rw [← cmp_sign h1]; rfl
  · replace h1 := bne_eq_false_iff_eq.1 h1
    refine pwp_skip <| pwp_seq <| pwp_D (S' := [(2, (.ref 0 0)), (7, (vi (cmpI ((val (grpI x) : Nat) : Int) ((val (grpI y) : Nat) : Int))))]) (B' := [(0, some (bx (encI x)))]) mo (by kernel_rfl) ?_ ?_
    · exact dR (e_lda (cs := (bx (encI x))) (y := (.d (encI x))) rfl rfl sh30 rfl rfl) rfl rfl rfl rfl rfl <| dE' (e_cl (t_groups x (by omega)) rfl rfl rfl) rfl rfl <| dR (e_lda (cs := (bx (encI y))) (y := (.d (encI y))) rfl rfl sh30 rfl rfl) rfl rfl rfl rfl rfl <| dE' (e_cl (t_groups y (by omega)) rfl rfl rfl) rfl rfl <| dE' (e_cl (t_compare (grpI x) (grpI y) (grpI_can _) (grpI_can _) (Nat.le_trans (grpI_len _) (by omega))) rfl rfl rfl) rfl rfl <| dM (vi (cmpI ((val (grpI x) : Nat) : Int) ((val (grpI y) : Nat) : Int))) rfl rfl rfl <| dNil rfl rfl (by kernel_rfl)
    refine pwp_seq <| pwp_seq <| pwp_S (S' := [(7, (vi (cmpI ((val (grpI x) : Nat) : Int) ((val (grpI y) : Nat) : Int)))), (24, (vb x.neg))]) (B' := []) ?_ ?_
    · exact sE' (e_fldr (q := 0) rfl rfl fo30_0 rfl) rfl <| sR (e_ld1 (cs := (bx (encI x))) (y := (vb x.neg)) rfl rfl sh4 rfl) rfl rfl rfl rfl <| sNil rfl rfl
    refine pwp_cond (b := x.neg) rfl (fun h2 => ?_) (fun h2 => ?_)
    · refine pwp_seq <| pwp_S (S' := [(4, (vi (-(cmpI ((val (grpI x) : Nat) : Int) ((val (grpI y) : Nat) : Int)))))]) (B' := []) ?_ ?_
      · exact sM (vi (cmpI ((val (grpI x) : Nat) : Int) ((val (grpI y) : Nat) : Int))) rfl rfl <| sE' (e_neg (r := -(cmpI ((val (grpI x) : Nat) : Int) ((val (grpI y) : Nat) : Int))) rfl rfl (wi64 (by omega) (by have := cmpI_range ((val (grpI x) : Nat) : Int) ((val (grpI y) : Nat) : Int); omega) (by have := cmpI_range ((val (grpI x) : Nat) : Int) ((val (grpI y) : Nat) : Int); omega))) rfl <| sM (vi (-(cmpI ((val (grpI x) : Nat) : Int) ((val (grpI y) : Nat) : Int)))) rfl rfl <| sNil rfl rfl
      refine pwp_ret ⟨_, (.tmp (d := (.val (.int .i64 (-(cmpI ((val (grpI x) : Nat) : Int) ((val (grpI y) : Nat) : Int)))))) rfl .nil), ?_⟩
      rw [← cmp_neg h1 h2]; rfl
    · refine pwp_skip <| pwp_seq <| pwp_S (S' := [(4, (vi (cmpI ((val (grpI x) : Nat) : Int) ((val (grpI y) : Nat) : Int))))]) (B' := []) ?_ ?_
      · exact sM (vi (cmpI ((val (grpI x) : Nat) : Int) ((val (grpI y) : Nat) : Int))) rfl rfl <| sM (vi (cmpI ((val (grpI x) : Nat) : Int) ((val (grpI y) : Nat) : Int))) rfl rfl <| sNil rfl rfl
      refine pwp_ret ⟨_, (.tmp (d := (.val (.int .i64 ((cmpI ((val (grpI x) : Nat) : Int) ((val (grpI y) : Nat) : Int)))))) rfl .nil), ?_⟩
      rw [← cmp_pos h1 h2]; rfl
end Go.Proofs.YtadkkhdnccljcaaGreat
