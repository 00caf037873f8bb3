/-
  Functions walked: each takes its data to what is said. Printed by a program of ours.
-/
import Derived.Test.YtcdgmcfkhkikbaaGreatRefB
namespace Go.Proofs.YtcdgmcfkhkikbaaGreat
open Go.Fid
set_option maxRecDepth 4000
set_option linter.unusedVariables false
set_option linter.unusedSimpArgs false
theorem cb76 : callB Tryz.prog 76 = true := by kernel_rfl
theorem cb77 : callB Tryz.prog 77 = true := by kernel_rfl
theorem cb120 : callB Tryz.prog 120 = true := by kernel_rfl
theorem r_gcd (x : RInt) (y : RInt) (hx : x.gs.length ≤ 1099511627776) (hy : y.gs.length ≤ 1099511627776) : Takes Tryz.prog 77 [(encI x), (encI y)] (encI (ofZ ((Int.gcd (toZ x) (toZ y) : Nat) : Int))) := by
  have hvx := gs_val2 x
  have hvy := gs_val2 y
  refine fn_intro Tryz.func77 rfl cb77 rfl ?_
  show PWp _ _ _ _ ⟨[(0, (.d (encI x))), (1, (.d (encI y)))], []⟩
  refine pwp_seq ?_
  refine pwp_S (S' := [(2, (.ref 0 0)), (3, (.ref 1 0)), (4, (.ref 2 0))]) (B' := [(0, some (bx (encI x))), (1, some (bx (encI y))), (2, some (bx (encI (RInt.mk false []))))]) ?_ ?_
  · skip
    exact sN (n_bx (d := (encI x)) (cs := (bx (encI x))) 0 rfl rfl rfl rfl) rfl rfl rfl rfl <| sN (n_bx (d := (encI y)) (cs := (bx (encI y))) 1 rfl rfl rfl rfl) rfl rfl rfl rfl <| sN (n_al (cs := (bx (encI (RInt.mk false [])))) 2 rfl ze24 zo24 rfl) rfl rfl rfl rfl <| sNil rfl rfl
  refine pwp_seq ?_
  refine pwp_D (S' := [(4, (.ref 2 0)), (5, (vl 83 1 enc_u32 (ofNat (Int.natAbs (toZ x))))), (6, (vl 83 1 enc_u32 (ofNat (Int.natAbs (toZ y)))))]) (B' := [(2, some (bx (encI (RInt.mk false []))))]) mo (by kernel_rfl) ?_ ?_
  · skip
    exact dR (e_lda (cs := (bx (encI x))) (y := (.d (encI x))) rfl rfl sh24 rfl rfl) rfl rfl rfl rfl rfl <| dE' (e_cl (r_value x (by omega)) rfl rfl rfl) rfl rfl <| dE' (e_fld1 (cs := (Dat.cells (encI (ofZ (toZ x))))) (y := (vl 83 1 enc_u32 (ofNat (Int.natAbs (toZ x))))) rfl rfl ft24_1 sh22 rfl rfl) rfl rfl <| dR (e_lda (cs := (bx (encI y))) (y := (.d (encI y))) rfl rfl sh24 rfl rfl) rfl rfl rfl rfl rfl <| dE' (e_cl (r_value y (by omega)) rfl rfl rfl) rfl rfl <| dE' (e_fld1 (cs := (Dat.cells (encI (ofZ (toZ y))))) (y := (vl 83 1 enc_u32 (ofNat (Int.natAbs (toZ y))))) rfl rfl ft24_1 sh22 rfl rfl) rfl rfl <| dM (vl 83 1 enc_u32 (ofNat (Int.natAbs (toZ x)))) rfl rfl rfl <| dM (vl 83 1 enc_u32 (ofNat (Int.natAbs (toZ y)))) rfl rfl rfl <| dNil rfl rfl (by kernel_rfl)
  refine pwp_seq ?_
  refine pwp_block ?_
  refine pwp_loop (α := List Nat × List Nat) (fun (a, b) => ⟨[(4, (.ref 2 0)), (5, (vl 83 1 enc_u32 a)), (6, (vl 83 1 enc_u32 b))], [(2, some (bx (encI (RInt.mk false []))))]⟩) (fun (a, b) => Cano a ∧ Cano b ∧ a.length ≤ 1099511627776 ∧ b.length ≤ 1099511627776 ∧ Nat.gcd (val a) (val b) = Int.gcd (toZ x) (toZ y)) (fun (a, b) => val b) ((ofNat (Int.natAbs (toZ x))), (ofNat (Int.natAbs (toZ y)))) (weak rfl rfl) ⟨ofNat_can _, ofNat_can _, by omega, by omega, by rw [ofNat_val, ofNat_val]; rfl⟩ ?_
  rintro ⟨a, b⟩ ⟨ha, hb, hla, hlb, hg⟩
  refine pwp_seq ?_
  refine pwp_seq ?_
  refine pwp_S (S' := [(4, (.ref 2 0)), (5, (vl 83 1 enc_u32 a)), (6, (vl 83 1 enc_u32 b)), (29, (vb (decide (0 < ((b.length : Nat) : Int)) && (decide (2 < ((a.length : Nat) : Int)) || decide (2 < ((b.length : Nat) : Int))))))]) (B' := [(2, some (bx (encI (RInt.mk false []))))]) ?_ ?_
  · skip
    refine sM (vl 83 1 enc_u32 b) rfl rfl <| sE' (e_ln (r := ((b.length : Nat) : Int)) rfl el22 rfl (by simp)) rfl <| sE' (e_gtr rfl rfl rfl) rfl <| sM (vb (decide (0 < ((b.length : Nat) : Int)))) rfl rfl <| ?_
    rcases hb1 : (decide (0 < ((b.length : Nat) : Int))) with _ | _
    · skip
      replace hb1 := of_decide_eq_false hb1
      exact sK rfl rfl rfl <| sK rfl rfl rfl <| sK rfl rfl rfl <| sK rfl rfl rfl <| sK rfl rfl rfl <| sK rfl rfl rfl <| sK rfl rfl rfl <| sK rfl rfl rfl <| sE' (e_pkf (z := (vb false)) rfl rfl rfl) rfl <| sNil rfl rfl
    · skip
      replace hb1 := of_decide_eq_true hb1
      refine sM (vl 83 1 enc_u32 a) rfl rfl <| sE' (e_ln (r := ((a.length : Nat) : Int)) rfl el22 rfl (by simp)) rfl <| sE' (e_gtr rfl rfl rfl) rfl <| sM (vb (decide (2 < ((a.length : Nat) : Int)))) rfl rfl <| ?_
      rcases hb2 : (decide (2 < ((a.length : Nat) : Int))) with _ | _
      · skip
        replace hb2 := of_decide_eq_false hb2
        exact sM (vl 83 1 enc_u32 b) rfl rfl <| sE' (e_ln (r := ((b.length : Nat) : Int)) rfl el22 rfl (by simp)) rfl <| sE' (e_gtr rfl rfl rfl) rfl <| sE' (e_pkfo rfl rfl rfl) rfl <| sE' (e_pkta rfl rfl rfl) rfl <| sNil rfl rfl
      · skip
        replace hb2 := of_decide_eq_true hb2
        exact sK rfl rfl rfl <| sK rfl rfl rfl <| sK rfl rfl rfl <| sE' (e_pkt (z := (vb true)) rfl rfl rfl) rfl <| sE' (e_pkt (z := (vb true)) rfl rfl rfl) rfl <| sNil rfl rfl
  refine pwp_cond (b := (decide (0 < ((b.length : Nat) : Int)) && (decide (2 < ((a.length : Nat) : Int)) || decide (2 < ((b.length : Nat) : Int))))) rfl (fun h3 => ?_) (fun h3 => ?_)
  · skip
    have hbl : 0 < b.length := by rw [Bool.and_eq_true, decide_eq_true_eq] at h3; omega
    have hb0 := len_pos_val hb hbl
    refine pwp_skip ?_
    refine pwp_block ?_
    refine pwp_seq ?_
    refine pwp_S (S' := [(4, (.ref 2 0)), (6, (vl 83 1 enc_u32 b)), (8, (vl 83 1 enc_u32 (ofNat (val a % val b))))]) (B' := [(2, some (bx (encI (RInt.mk false []))))]) ?_ ?_
    · skip
      exact sM (vl 83 1 enc_u32 a) rfl rfl <| sM (vl 83 1 enc_u32 b) rfl rfl <| sE' (e_cl (r_parts a b ha hb (by omega) (by omega) (by omega)) rfl rfl rfl) rfl <| sM (.d (.tup [(.sl 83 1 (List.map enc_u32 (ofNat (val a / val b)))), (.sl 83 1 (List.map enc_u32 (ofNat (val a % val b))))])) rfl rfl <| sE' (e_exD (d := (.sl 83 1 (List.map enc_u32 (ofNat (val a / val b))))) rfl rfl rfl) rfl <| sE' (e_exD (d := (.sl 83 1 (List.map enc_u32 (ofNat (val a % val b))))) rfl rfl rfl) rfl <| sM (vl 83 1 enc_u32 (ofNat (val a / val b))) rfl rfl <| sM (vl 83 1 enc_u32 (ofNat (val a % val b))) rfl rfl <| sNil rfl rfl
    refine pwp_S (S' := [(4, (.ref 2 0)), (5, (vl 83 1 enc_u32 b)), (6, (vl 83 1 enc_u32 (ofNat (val a % val b))))]) (B' := [(2, some (bx (encI (RInt.mk false []))))]) ?_ ?_
    · skip
      exact sM (vl 83 1 enc_u32 b) rfl rfl <| sM (vl 83 1 enc_u32 (ofNat (val a % val b))) rfl rfl <| sM (vl 83 1 enc_u32 b) rfl rfl <| sM (vl 83 1 enc_u32 (ofNat (val a % val b))) rfl rfl <| sNil rfl rfl
    exact ⟨(b, ofNat (val a % val b)), (weak rfl rfl), ⟨hb, ofNat_can _, hlb, Nat.le_trans (len_rem a ha _) hla, by rw [ofNat_val, ← hg, Nat.gcd_comm, ← Nat.gcd_rec, Nat.gcd_comm]⟩, (by dsimp only; rw [ofNat_val]; exact Nat.mod_lt _ hb0)⟩
  · skip
    have hex := h3
    refine pwp_exit ?_
    refine pwp_seq ?_
    refine pwp_seq ?_
    refine pwp_S (S' := [(4, (.ref 2 0)), (5, (vl 83 1 enc_u32 a)), (6, (vl 83 1 enc_u32 b)), (40, (vb (((b.length : Nat) : Int) == 0)))]) (B' := [(2, some (bx (encI (RInt.mk false []))))]) ?_ ?_
    · skip
      exact sM (vl 83 1 enc_u32 b) rfl rfl <| sE' (e_ln (r := ((b.length : Nat) : Int)) rfl el22 rfl (by simp)) rfl <| sE' (e_eql rfl rfl rfl) rfl <| sNil rfl rfl
    refine pwp_cond (b := (((b.length : Nat) : Int) == 0)) rfl (fun h4 => ?_) (fun h4 => ?_)
    · skip
      replace h4 := eq_of_beq h4
      have hb1 : b = [] := List.eq_nil_of_length_eq_zero (by omega)
      rw [hb1, val_nil, Nat.gcd_zero_right] at hg
      refine pwp_seq ?_
      refine pwp_S (S' := [(4, (.ref 2 0))]) (B' := [(2, some (bx (encI (mkI false (val a)))))]) ?_ ?_
      · skip
        exact sM (vl 83 1 enc_u32 a) rfl rfl <| sE' (e_cl (r_made false a ha.1 (by omega)) rfl rfl rfl) rfl <| sT (t_std (d := (encI (mkI false (val a)))) (cs := (bx (encI (mkI false (val a))))) rfl rfl rfl sh24 rfl rfl rfl rfl) rfl rfl rfl <| sNil rfl rfl
      refine pwp_ret ⟨_, (res_a (cs := (bx (encI (mkI false (val a))))) (d := (encI (mkI false (val a)))) rfl rfl sh24 rfl rfl .nil), ?_⟩
      rw [← hg, mkI_false]; rfl
    · skip
      replace h4 := ne_of_beq_false h4
      have hl2 : a.length ≤ 2 ∧ b.length ≤ 2 := by simp only [Bool.and_eq_false_iff, Bool.or_eq_false_iff, decide_eq_false_iff_not] at hex; omega
      refine pwp_skip ?_
      refine pwp_seq ?_
      refine pwp_S (S' := [(4, (.ref 2 0)), (9, (vqn (val a))), (10, (vqn (val b)))]) (B' := [(2, some (bx (encI (RInt.mk false []))))]) ?_ ?_
      · skip
        exact sM (vl 83 1 enc_u32 a) rfl rfl <| sE' (e_cl (r_pair a ha.1 (by omega)) rfl rfl rfl) rfl <| sM (vl 83 1 enc_u32 b) rfl rfl <| sE' (e_cl (r_pair b hb.1 (by omega)) rfl rfl rfl) rfl <| sM (vqn (val a)) rfl rfl <| sM (vqn (val b)) rfl rfl <| sNil rfl rfl
      refine pwp_seq ?_
      refine pwp_block ?_
      refine pwp_loop (α := Nat × Nat) (fun (m, n) => ⟨[(4, (.ref 2 0)), (9, (vqn m)), (10, (vqn n))], [(2, some (bx (encI (RInt.mk false []))))]⟩) (fun (m, n) => m < 1000000000000000000 ∧ n < 1000000000000000000 ∧ Nat.gcd m n = Int.gcd (toZ x) (toZ y)) (fun (m, n) => n) (val a, val b) (weak rfl rfl) ⟨val_len2 ha.1 hl2.1, val_len2 hb.1 hl2.2, hg⟩ ?_
      rintro ⟨m, n⟩ ⟨hm, hn, hg2⟩
      refine pwp_seq ?_
      refine pwp_seq ?_
      refine pwp_S (S' := [(4, (.ref 2 0)), (9, (vqn m)), (10, (vqn n)), (48, (vb (decide (0 < ((n : Nat) : Int)))))]) (B' := [(2, some (bx (encI (RInt.mk false []))))]) ?_ ?_
      · skip
        exact sM (vqn n) rfl rfl <| sE' (e_gtr rfl rfl rfl) rfl <| sNil rfl rfl
      refine pwp_cond (b := decide (0 < ((n : Nat) : Int))) rfl (fun h5 => ?_) (fun h5 => ?_)
      · skip
        replace h5 := of_decide_eq_true h5
        refine pwp_skip ?_
        refine pwp_block ?_
        refine pwp_D (S' := [(4, (.ref 2 0)), (9, (vqn n)), (10, (vqn (m % n)))]) (B' := [(2, some (bx (encI (RInt.mk false []))))]) mo (by kernel_rfl) ?_ ?_
        · skip
          exact dM (vqn n) rfl rfl rfl <| dM (vqn m) rfl rfl rfl <| dM (vqn n) rfl rfl rfl <| dE' (e_rem (r := (((m % n) : Nat) : Int)) rfl rfl rfl (by omega) (tmod_nat _ _)) rfl rfl <| dM (vqn n) rfl rfl rfl <| dM (vqn (m % n)) rfl rfl rfl <| dNil rfl rfl (by kernel_rfl)
        exact ⟨(n, m % n), (weak rfl rfl), ⟨hn, Nat.lt_of_le_of_lt (Nat.mod_le _ _) hm, by rw [← hg2, Nat.gcd_comm, ← Nat.gcd_rec, Nat.gcd_comm]⟩, (by dsimp only; exact Nat.mod_lt _ (by omega))⟩
      · skip
        replace h5 := of_decide_eq_false h5
        obtain rfl : n = 0 := by omega
        rw [Nat.gcd_zero_right] at hg2
        have hmv : val [m % 1000000000, m / 1000000000] = m := by simp only [val]; omega
        refine pwp_exit ?_
        refine pwp_seq ?_
        refine pwp_S (S' := [(4, (.ref 2 0))]) (B' := [(2, some (bx (encI (mkI false (val [(m % 1000000000), (m / 1000000000)])))))]) ?_ ?_
        · skip
          exact sM (vqn m) rfl rfl <| sE' (e_rem (r := (((m % 1000000000) : Nat) : Int)) rfl rfl rfl (by decide) (tmod_nat _ _)) rfl <| sE' (e_conv (r := (((m % 1000000000) : Nat) : Int)) rfl un88 in83 rfl (cu32 (by omega))) rfl <| sM (vqn m) rfl rfl <| sE' (e_quo (r := (((m / 1000000000) : Nat) : Int)) rfl rfl rfl (by decide) (quo_u64 _ _ (by omega))) rfl <| sE' (e_conv (r := (((m / 1000000000) : Nat) : Int)) rfl un88 in83 rfl (cu32 (by omega))) rfl <| sE' (e_bsl (pd := [(0, (.val (.int .u32 ((((m % 1000000000) : Nat) : Int))))), (1, (.val (.int .u32 ((((m / 1000000000) : Nat) : Int)))))]) (es := List.map enc_u32 [(m % 1000000000), (m / 1000000000)]) rfl el22 ze83 zo83 rfl rfl rfl rfl rfl rfl rfl rfl) rfl <| sE' (e_cl (r_made false [(m % 1000000000), (m / 1000000000)] (dig_cons.2 ⟨Nat.mod_lt _ (by decide), dig_cons.2 ⟨by omega, dig_nil⟩⟩) (by simp)) rfl rfl rfl) rfl <| sT (t_std (d := (encI (mkI false (val [(m % 1000000000), (m / 1000000000)])))) (cs := (bx (encI (mkI false (val [(m % 1000000000), (m / 1000000000)]))))) rfl rfl rfl sh24 rfl rfl rfl rfl) rfl rfl rfl <| sNil rfl rfl
        refine pwp_ret ⟨_, (res_a (cs := (bx (encI (mkI false (val [(m % 1000000000), (m / 1000000000)]))))) (d := (encI (mkI false (val [(m % 1000000000), (m / 1000000000)])))) rfl rfl sh24 rfl rfl .nil), ?_⟩
        rw [← hg2, hmv, mkI_false]; rfl
theorem r_compare (x : RInt) (y : RInt) (hx : x.gs.length ≤ 274877906944) (hy : y.gs.length ≤ 274877906944) : Takes Tryz.prog 76 [(encI x), (encI y)] (.val (.int .i64 ((cmpI (toZ x) (toZ y))))) := by
  have hv := gs_sub x y
  refine fn_intro Tryz.func76 rfl cb76 rfl ?_
  show PWp _ _ _ _ ⟨[(0, (.d (encI x))), (1, (.d (encI y)))], []⟩
  refine pwp_seq ?_
  refine pwp_S (S' := [(2, (.ref 0 0)), (3, (.ref 1 0))]) (B' := [(0, some (bx (encI x))), (1, some (bx (encI y)))]) ?_ ?_
  · skip
    exact sN (n_bx (d := (encI x)) (cs := (bx (encI x))) 0 rfl rfl rfl rfl) rfl rfl rfl rfl <| sN (n_bx (d := (encI y)) (cs := (bx (encI y))) 1 rfl rfl rfl rfl) rfl rfl rfl rfl <| sM (vin 0) rfl rfl <| sNil rfl rfl
  refine pwp_seq ?_
  refine pwp_S (S' := [(4, (vi (signI (toZ (ofZ (toZ x - toZ y))))))]) (B' := []) ?_ ?_
  · skip
    exact sR (e_lda (cs := (bx (encI x))) (y := (.d (encI x))) rfl rfl sh24 rfl rfl) rfl rfl rfl rfl <| sR (e_lda (cs := (bx (encI y))) (y := (.d (encI y))) rfl rfl sh24 rfl rfl) rfl rfl rfl rfl <| sE' (e_cl (r_sub x y (by omega) (by omega)) rfl rfl rfl) rfl <| sE' (e_cl (r_sign (ofZ (toZ x - toZ y)) (by omega)) rfl rfl rfl) rfl <| sM (vi (signI (toZ (ofZ (toZ x - toZ y))))) rfl rfl <| sNil rfl rfl
  refine pwp_ret ⟨_, (.tmp (d := (.val (.int .i64 ((signI (toZ (ofZ (toZ x - toZ y)))))))) rfl .nil), ?_⟩
  rw [toZ_ofZ, signI_sub]; rfl
theorem r_divide (x : RInt) (y : RInt) (hx : x.gs.length ≤ 274877906944) (hy : y.gs.length ≤ 274877906944) (hy0 : toZ y ≠ 0) : Takes Tryz.prog 120 [(encI x), (encI y)] (.tup [(encI (ofZ ((toZ x).fdiv (toZ y)))), (encI (ofZ ((toZ x).fmod (toZ y)))), (.val (.int .i64 (0)))]) := by
  have hvx := gs_val2 x
  have hvy := gs_val2 y
  have hmx := gs_val x
  have hmy := gs_val y
  have hy1 : 0 < (toZ y).natAbs := by omega
  have hyl := ofNat_len_pos hy1
  have hql : (ofNat (val (ofNat (Int.natAbs (toZ x))) / val (ofNat (Int.natAbs (toZ y))))).length ≤ 274877906944 := by have := len_quo (ofNat (Int.natAbs (toZ x))) (ofNat_can _) (val (ofNat (Int.natAbs (toZ y)))); omega
  have hqg : (mkI (!((ofZ (toZ x)).neg == (ofZ (toZ y)).neg)) (val (ofNat (val (ofNat (Int.natAbs (toZ x))) / val (ofNat (Int.natAbs (toZ y))))))).gs.length ≤ 274877906944 := by show (ofNat (val (ofNat (val (ofNat (Int.natAbs (toZ x))) / val (ofNat (Int.natAbs (toZ y))))))).length ≤ _; rw [ofNat_val]; exact hql
  have hone : (ofZ 1).gs.length ≤ 1 := (iok_small (z := 1) (by decide)).l
  have hqs := gs_sub (mkI (!((ofZ (toZ x)).neg == (ofZ (toZ y)).neg)) (val (ofNat (val (ofNat (Int.natAbs (toZ x))) / val (ofNat (Int.natAbs (toZ y))))))) (ofZ 1)
  refine fn_intro Tryz.func120 rfl cb120 rfl ?_
  show PWp _ _ _ _ ⟨[(0, (.d (encI x))), (1, (.d (encI y)))], []⟩
  refine pwp_seq ?_
  refine pwp_S (S' := [(2, (.ref 0 0)), (3, (.ref 1 0)), (4, (.ref 2 0)), (5, (.ref 3 0))]) (B' := [(0, some (bx (encI x))), (1, some (bx (encI y))), (2, some (bx (encI (RInt.mk false [])))), (3, some (bx (encI (RInt.mk false []))))]) ?_ ?_
  · skip
    exact sN (n_bx (d := (encI x)) (cs := (bx (encI x))) 0 rfl rfl rfl rfl) rfl rfl rfl rfl <| sN (n_bx (d := (encI y)) (cs := (bx (encI y))) 1 rfl rfl rfl rfl) rfl rfl rfl rfl <| sN (n_al (cs := (bx (encI (RInt.mk false [])))) 2 rfl ze24 zo24 rfl) rfl rfl rfl rfl <| sN (n_al (cs := (bx (encI (RInt.mk false [])))) 3 rfl ze24 zo24 rfl) rfl rfl rfl rfl <| sM (vin 0) rfl rfl <| sNil rfl rfl
  refine pwp_seq ?_
  refine pwp_D (S' := [(2, (.ref 0 0)), (3, (.ref 1 0)), (4, (.ref 2 0)), (5, (.ref 3 0))]) (B' := [(0, some (bx (encI (ofZ (toZ x))))), (1, some (bx (encI (ofZ (toZ y))))), (2, some (bx (encI (RInt.mk false [])))), (3, some (bx (encI (RInt.mk false []))))]) mo (by kernel_rfl) ?_ ?_
  · skip
    exact dR (e_lda (cs := (bx (encI x))) (y := (.d (encI x))) rfl rfl sh24 rfl rfl) rfl rfl rfl rfl rfl <| dE' (e_cl (r_value x (by omega)) rfl rfl rfl) rfl rfl <| dR (e_lda (cs := (bx (encI y))) (y := (.d (encI y))) rfl rfl sh24 rfl rfl) rfl rfl rfl rfl rfl <| dE' (e_cl (r_value y (by omega)) rfl rfl rfl) rfl rfl <| dT (t_std (d := (encI (ofZ (toZ x)))) (cs := (bx (encI (ofZ (toZ x))))) rfl rfl rfl sh24 rfl rfl rfl rfl) rfl rfl rfl rfl <| dT (t_std (d := (encI (ofZ (toZ y)))) (cs := (bx (encI (ofZ (toZ y))))) rfl rfl rfl sh24 rfl rfl rfl rfl) rfl rfl rfl rfl <| dNil rfl rfl (by kernel_rfl)
  refine pwp_seq ?_
  refine pwp_seq ?_
  refine pwp_S (S' := [(2, (.ref 0 0)), (3, (.ref 1 0)), (4, (.ref 2 0)), (5, (.ref 3 0)), (17, (vb ((((ofNat (Int.natAbs (toZ y))).length : Nat) : Int) == 0)))]) (B' := [(0, some (bx (encI (ofZ (toZ x))))), (1, some (bx (encI (ofZ (toZ y))))), (2, some (bx (encI (RInt.mk false [])))), (3, some (bx (encI (RInt.mk false []))))]) ?_ ?_
  · skip
    exact sE' (e_fldr (q := 1) rfl rfl fo24_1 rfl) rfl <| sR (e_ld1 (cs := (bx (encI (ofZ (toZ y))))) (y := (vl 83 1 enc_u32 (ofNat (Int.natAbs (toZ y))))) rfl rfl sh22 rfl) rfl rfl rfl rfl <| sE' (e_ln (r := (((ofNat (Int.natAbs (toZ y))).length : Nat) : Int)) rfl el22 rfl (by simp)) rfl <| sE' (e_eql rfl rfl rfl) rfl <| sNil rfl rfl
  refine pwp_cond (b := ((((ofNat (Int.natAbs (toZ y))).length : Nat) : Int) == 0)) rfl (fun h1 => ?_) (fun h1 => ?_)
  · skip
    replace h1 := eq_of_beq h1
    exact absurd h1 (by omega)
  · skip
    replace h1 := ne_of_beq_false h1
    refine pwp_skip ?_
    refine pwp_seq ?_
    refine pwp_S (S' := [(2, (.ref 0 0)), (3, (.ref 1 0)), (4, (.ref 2 0)), (5, (.ref 3 0)), (7, (vl 83 1 enc_u32 (ofNat (val (ofNat (Int.natAbs (toZ x))) / val (ofNat (Int.natAbs (toZ y))))))), (8, (vl 83 1 enc_u32 (ofNat (val (ofNat (Int.natAbs (toZ x))) % val (ofNat (Int.natAbs (toZ y)))))))]) (B' := [(0, some (bx (encI (ofZ (toZ x))))), (1, some (bx (encI (ofZ (toZ y))))), (2, some (bx (encI (RInt.mk false [])))), (3, some (bx (encI (RInt.mk false []))))]) ?_ ?_
    · skip
      exact sE' (e_fldr (q := 1) rfl rfl fo24_1 rfl) rfl <| sR (e_ld1 (cs := (bx (encI (ofZ (toZ x))))) (y := (vl 83 1 enc_u32 (ofNat (Int.natAbs (toZ x))))) rfl rfl sh22 rfl) rfl rfl rfl rfl <| sE' (e_fldr (q := 1) rfl rfl fo24_1 rfl) rfl <| sR (e_ld1 (cs := (bx (encI (ofZ (toZ y))))) (y := (vl 83 1 enc_u32 (ofNat (Int.natAbs (toZ y))))) rfl rfl sh22 rfl) rfl rfl rfl rfl <| sE' (e_cl (r_parts (ofNat (Int.natAbs (toZ x))) (ofNat (Int.natAbs (toZ y))) (by first | assumption | exact ofNat_can _ | exact grpI_can _) (by first | assumption | exact ofNat_can _ | exact grpI_can _) (by omega) (by omega) (by omega)) rfl rfl rfl) rfl <| sM (.d (.tup [(.sl 83 1 (List.map enc_u32 (ofNat (val (ofNat (Int.natAbs (toZ x))) / val (ofNat (Int.natAbs (toZ y))))))), (.sl 83 1 (List.map enc_u32 (ofNat (val (ofNat (Int.natAbs (toZ x))) % val (ofNat (Int.natAbs (toZ y)))))))])) rfl rfl <| sE' (e_exD (d := (.sl 83 1 (List.map enc_u32 (ofNat (val (ofNat (Int.natAbs (toZ x))) / val (ofNat (Int.natAbs (toZ y)))))))) rfl rfl rfl) rfl <| sE' (e_exD (d := (.sl 83 1 (List.map enc_u32 (ofNat (val (ofNat (Int.natAbs (toZ x))) % val (ofNat (Int.natAbs (toZ y)))))))) rfl rfl rfl) rfl <| sM (vl 83 1 enc_u32 (ofNat (val (ofNat (Int.natAbs (toZ x))) / val (ofNat (Int.natAbs (toZ y)))))) rfl rfl <| sM (vl 83 1 enc_u32 (ofNat (val (ofNat (Int.natAbs (toZ x))) % val (ofNat (Int.natAbs (toZ y)))))) rfl rfl <| sNil rfl rfl
    refine pwp_seq ?_
    refine pwp_S (S' := [(2, (.ref 0 0)), (3, (.ref 1 0)), (4, (.ref 2 0)), (5, (.ref 3 0)), (8, (vl 83 1 enc_u32 (ofNat (val (ofNat (Int.natAbs (toZ x))) % val (ofNat (Int.natAbs (toZ y))))))), (9, (.ref 4 0))]) (B' := [(0, some (bx (encI (ofZ (toZ x))))), (1, some (bx (encI (ofZ (toZ y))))), (2, some (bx (encI (RInt.mk false [])))), (3, some (bx (encI (RInt.mk false [])))), (4, some (bx (encI (mkI (!(((ofZ (toZ x)).neg) == ((ofZ (toZ y)).neg))) (val (ofNat (val (ofNat (Int.natAbs (toZ x))) / val (ofNat (Int.natAbs (toZ y))))))))))]) ?_ ?_
    · skip
      exact sE' (e_fldr (q := 0) rfl rfl fo24_0 rfl) rfl <| sR (e_ld1 (cs := (bx (encI (ofZ (toZ x))))) (y := (vb ((ofZ (toZ x)).neg))) rfl rfl sh4 rfl) rfl rfl rfl rfl <| sE' (e_fldr (q := 0) rfl rfl fo24_0 rfl) rfl <| sR (e_ld1 (cs := (bx (encI (ofZ (toZ y))))) (y := (vb ((ofZ (toZ y)).neg))) rfl rfl sh4 rfl) rfl rfl rfl rfl <| sE' (e_neqb rfl bo4 rfl rfl) rfl <| sM (vl 83 1 enc_u32 (ofNat (val (ofNat (Int.natAbs (toZ x))) / val (ofNat (Int.natAbs (toZ y)))))) rfl rfl <| sE' (e_cl (r_made (!(((ofZ (toZ x)).neg) == ((ofZ (toZ y)).neg))) (ofNat (val (ofNat (Int.natAbs (toZ x))) / val (ofNat (Int.natAbs (toZ y))))) (ofNat_dig _) (by omega)) rfl rfl rfl) rfl <| sN (n_al (cs := (bx (encI (RInt.mk false [])))) 4 rfl ze24 zo24 rfl) rfl rfl rfl rfl <| sT (t_std (d := (encI (mkI (!(((ofZ (toZ x)).neg) == ((ofZ (toZ y)).neg))) (val (ofNat (val (ofNat (Int.natAbs (toZ x))) / val (ofNat (Int.natAbs (toZ y))))))))) (cs := (bx (encI (mkI (!(((ofZ (toZ x)).neg) == ((ofZ (toZ y)).neg))) (val (ofNat (val (ofNat (Int.natAbs (toZ x))) / val (ofNat (Int.natAbs (toZ y)))))))))) rfl rfl rfl sh24 rfl rfl rfl rfl) rfl rfl rfl <| sNil rfl rfl
    refine pwp_seq ?_
    refine pwp_seq ?_
    refine pwp_S (S' := [(2, (.ref 0 0)), (3, (.ref 1 0)), (4, (.ref 2 0)), (5, (.ref 3 0)), (9, (.ref 4 0)), (44, (vb (!(((ofZ (toZ x)).neg) == ((ofZ (toZ y)).neg)) && decide (0 < (((ofNat (val (ofNat (Int.natAbs (toZ x))) % val (ofNat (Int.natAbs (toZ y))))).length : Nat) : Int)))))]) (B' := [(0, some (bx (encI (ofZ (toZ x))))), (1, some (bx (encI (ofZ (toZ y))))), (2, some (bx (encI (RInt.mk false [])))), (3, some (bx (encI (RInt.mk false [])))), (4, some (bx (encI (mkI (!(((ofZ (toZ x)).neg) == ((ofZ (toZ y)).neg))) (val (ofNat (val (ofNat (Int.natAbs (toZ x))) / val (ofNat (Int.natAbs (toZ y))))))))))]) ?_ ?_
    · skip
      refine sE' (e_fldr (q := 0) rfl rfl fo24_0 rfl) rfl <| sR (e_ld1 (cs := (bx (encI (ofZ (toZ x))))) (y := (vb ((ofZ (toZ x)).neg))) rfl rfl sh4 rfl) rfl rfl rfl rfl <| sE' (e_fldr (q := 0) rfl rfl fo24_0 rfl) rfl <| sR (e_ld1 (cs := (bx (encI (ofZ (toZ y))))) (y := (vb ((ofZ (toZ y)).neg))) rfl rfl sh4 rfl) rfl rfl rfl rfl <| sE' (e_neqb rfl bo4 rfl rfl) rfl <| sM (vb (!(((ofZ (toZ x)).neg) == ((ofZ (toZ y)).neg)))) rfl rfl <| ?_
      rcases hb2 : (!(((ofZ (toZ x)).neg) == ((ofZ (toZ y)).neg))) with _ | _
      · skip
        exact sK rfl rfl rfl <| sK rfl rfl rfl <| sK rfl rfl rfl <| sE' (e_pkf (z := (vb false)) rfl rfl rfl) rfl <| sNil rfl rfl
      · skip
        exact sM (vl 83 1 enc_u32 (ofNat (val (ofNat (Int.natAbs (toZ x))) % val (ofNat (Int.natAbs (toZ y)))))) rfl rfl <| sE' (e_ln (r := (((ofNat (val (ofNat (Int.natAbs (toZ x))) % val (ofNat (Int.natAbs (toZ y))))).length : Nat) : Int)) rfl el22 rfl (by simp)) rfl <| sE' (e_gtr rfl rfl rfl) rfl <| sE' (e_pkta rfl rfl rfl) rfl <| sNil rfl rfl
    refine pwp_cond (b := (!(((ofZ (toZ x)).neg) == ((ofZ (toZ y)).neg)) && decide (0 < (((ofNat (val (ofNat (Int.natAbs (toZ x))) % val (ofNat (Int.natAbs (toZ y))))).length : Nat) : Int)))) rfl (fun h3 => ?_) (fun h3 => ?_)
    · skip
      have hqm := gs_mul (ofZ (toZ (mkI (!((ofZ (toZ x)).neg == (ofZ (toZ y)).neg)) (val (ofNat (val (ofNat (Int.natAbs (toZ x))) / val (ofNat (Int.natAbs (toZ y))))))) - toZ (ofZ 1))) (ofZ (toZ y))
      have hk := r_div_other (X := toZ x) (Y := toZ y) hy1 (by rw [Bool.and_eq_true, Bool.not_eq_true', beq_eq_false_iff_ne, decide_eq_true_eq] at h3; exact h3)
      refine pwp_D (S' := [(2, (.ref 0 0)), (3, (.ref 1 0)), (4, (.ref 2 0)), (5, (.ref 3 0)), (9, (.ref 4 0))]) (B' := [(0, some (bx (encI (ofZ (toZ x))))), (1, some (bx (encI (ofZ (toZ y))))), (2, some (bx (encI (RInt.mk false [])))), (3, some (bx (encI (RInt.mk false [])))), (4, some (bx (encI (ofZ (toZ (mkI (!(((ofZ (toZ x)).neg) == ((ofZ (toZ y)).neg))) (val (ofNat (val (ofNat (Int.natAbs (toZ x))) / val (ofNat (Int.natAbs (toZ y))))))) - toZ (ofZ 1))))))]) mo (by kernel_rfl) ?_ ?_
      · skip
        exact dR (e_lda (cs := (bx (encI (mkI (!(((ofZ (toZ x)).neg) == ((ofZ (toZ y)).neg))) (val (ofNat (val (ofNat (Int.natAbs (toZ x))) / val (ofNat (Int.natAbs (toZ y)))))))))) (y := (.d (encI (mkI (!(((ofZ (toZ x)).neg) == ((ofZ (toZ y)).neg))) (val (ofNat (val (ofNat (Int.natAbs (toZ x))) / val (ofNat (Int.natAbs (toZ y)))))))))) rfl rfl sh24 rfl rfl) rfl rfl rfl rfl rfl <| dE' (e_cl (r_of 1 (by omega) (by omega)) rfl rfl rfl) rfl rfl <| dE' (e_cl (r_sub (mkI (!(((ofZ (toZ x)).neg) == ((ofZ (toZ y)).neg))) (val (ofNat (val (ofNat (Int.natAbs (toZ x))) / val (ofNat (Int.natAbs (toZ y))))))) (ofZ 1) (by omega) (by omega)) rfl rfl rfl) rfl rfl <| dT (t_std (d := (encI (ofZ (toZ (mkI (!(((ofZ (toZ x)).neg) == ((ofZ (toZ y)).neg))) (val (ofNat (val (ofNat (Int.natAbs (toZ x))) / val (ofNat (Int.natAbs (toZ y))))))) - toZ (ofZ 1))))) (cs := (bx (encI (ofZ (toZ (mkI (!(((ofZ (toZ x)).neg) == ((ofZ (toZ y)).neg))) (val (ofNat (val (ofNat (Int.natAbs (toZ x))) / val (ofNat (Int.natAbs (toZ y))))))) - toZ (ofZ 1)))))) rfl rfl rfl sh24 rfl rfl rfl rfl) rfl rfl rfl rfl <| dNil rfl rfl (by kernel_rfl)
      refine pwp_seq ?_
      refine pwp_D (S' := [(4, (.ref 2 0)), (5, (.ref 3 0)), (6, (vin 0))]) (B' := [(2, some (bx (encI (ofZ (toZ (mkI (!(((ofZ (toZ x)).neg) == ((ofZ (toZ y)).neg))) (val (ofNat (val (ofNat (Int.natAbs (toZ x))) / val (ofNat (Int.natAbs (toZ y))))))) - toZ (ofZ 1)))))), (3, some (bx (encI (ofZ (toZ (ofZ (toZ x)) - toZ (ofZ (toZ (ofZ (toZ (mkI (!(((ofZ (toZ x)).neg) == ((ofZ (toZ y)).neg))) (val (ofNat (val (ofNat (Int.natAbs (toZ x))) / val (ofNat (Int.natAbs (toZ y))))))) - toZ (ofZ 1))) * toZ (ofZ (toZ y)))))))))]) mo (by kernel_rfl) ?_ ?_
      · skip
        exact dR (e_lda (cs := (bx (encI (ofZ (toZ (mkI (!(((ofZ (toZ x)).neg) == ((ofZ (toZ y)).neg))) (val (ofNat (val (ofNat (Int.natAbs (toZ x))) / val (ofNat (Int.natAbs (toZ y))))))) - toZ (ofZ 1)))))) (y := (.d (encI (ofZ (toZ (mkI (!(((ofZ (toZ x)).neg) == ((ofZ (toZ y)).neg))) (val (ofNat (val (ofNat (Int.natAbs (toZ x))) / val (ofNat (Int.natAbs (toZ y))))))) - toZ (ofZ 1)))))) rfl rfl sh24 rfl rfl) rfl rfl rfl rfl rfl <| dR (e_lda (cs := (bx (encI (ofZ (toZ x))))) (y := (.d (encI (ofZ (toZ x))))) rfl rfl sh24 rfl rfl) rfl rfl rfl rfl rfl <| dR (e_lda (cs := (bx (encI (ofZ (toZ (mkI (!(((ofZ (toZ x)).neg) == ((ofZ (toZ y)).neg))) (val (ofNat (val (ofNat (Int.natAbs (toZ x))) / val (ofNat (Int.natAbs (toZ y))))))) - toZ (ofZ 1)))))) (y := (.d (encI (ofZ (toZ (mkI (!(((ofZ (toZ x)).neg) == ((ofZ (toZ y)).neg))) (val (ofNat (val (ofNat (Int.natAbs (toZ x))) / val (ofNat (Int.natAbs (toZ y))))))) - toZ (ofZ 1)))))) rfl rfl sh24 rfl rfl) rfl rfl rfl rfl rfl <| dR (e_lda (cs := (bx (encI (ofZ (toZ y))))) (y := (.d (encI (ofZ (toZ y))))) rfl rfl sh24 rfl rfl) rfl rfl rfl rfl rfl <| dE' (e_cl (r_mul (ofZ (toZ (mkI (!(((ofZ (toZ x)).neg) == ((ofZ (toZ y)).neg))) (val (ofNat (val (ofNat (Int.natAbs (toZ x))) / val (ofNat (Int.natAbs (toZ y))))))) - toZ (ofZ 1))) (ofZ (toZ y)) (by omega) (by omega)) rfl rfl rfl) rfl rfl <| dE' (e_cl (r_sub (ofZ (toZ x)) (ofZ (toZ (ofZ (toZ (mkI (!(((ofZ (toZ x)).neg) == ((ofZ (toZ y)).neg))) (val (ofNat (val (ofNat (Int.natAbs (toZ x))) / val (ofNat (Int.natAbs (toZ y))))))) - toZ (ofZ 1))) * toZ (ofZ (toZ y)))) (by omega) (by omega)) rfl rfl rfl) rfl rfl <| dT (t_std (d := (encI (ofZ (toZ (mkI (!(((ofZ (toZ x)).neg) == ((ofZ (toZ y)).neg))) (val (ofNat (val (ofNat (Int.natAbs (toZ x))) / val (ofNat (Int.natAbs (toZ y))))))) - toZ (ofZ 1))))) (cs := (bx (encI (ofZ (toZ (mkI (!(((ofZ (toZ x)).neg) == ((ofZ (toZ y)).neg))) (val (ofNat (val (ofNat (Int.natAbs (toZ x))) / val (ofNat (Int.natAbs (toZ y))))))) - toZ (ofZ 1)))))) rfl rfl rfl sh24 rfl rfl rfl rfl) rfl rfl rfl rfl <| dT (t_std (d := (encI (ofZ (toZ (ofZ (toZ x)) - toZ (ofZ (toZ (ofZ (toZ (mkI (!(((ofZ (toZ x)).neg) == ((ofZ (toZ y)).neg))) (val (ofNat (val (ofNat (Int.natAbs (toZ x))) / val (ofNat (Int.natAbs (toZ y))))))) - toZ (ofZ 1))) * toZ (ofZ (toZ y)))))))) (cs := (bx (encI (ofZ (toZ (ofZ (toZ x)) - toZ (ofZ (toZ (ofZ (toZ (mkI (!(((ofZ (toZ x)).neg) == ((ofZ (toZ y)).neg))) (val (ofNat (val (ofNat (Int.natAbs (toZ x))) / val (ofNat (Int.natAbs (toZ y))))))) - toZ (ofZ 1))) * toZ (ofZ (toZ y))))))))) rfl rfl rfl sh24 rfl rfl rfl rfl) rfl rfl rfl rfl <| dM (vin 0) rfl rfl rfl <| dNil rfl rfl (by kernel_rfl)
      refine pwp_ret ⟨_, (res_a (cs := (bx (encI (ofZ (toZ (mkI (!(((ofZ (toZ x)).neg) == ((ofZ (toZ y)).neg))) (val (ofNat (val (ofNat (Int.natAbs (toZ x))) / val (ofNat (Int.natAbs (toZ y))))))) - toZ (ofZ 1)))))) (d := (encI (ofZ (toZ (mkI (!(((ofZ (toZ x)).neg) == ((ofZ (toZ y)).neg))) (val (ofNat (val (ofNat (Int.natAbs (toZ x))) / val (ofNat (Int.natAbs (toZ y))))))) - toZ (ofZ 1))))) rfl rfl sh24 rfl rfl (res_a (cs := (bx (encI (ofZ (toZ (ofZ (toZ x)) - toZ (ofZ (toZ (ofZ (toZ (mkI (!(((ofZ (toZ x)).neg) == ((ofZ (toZ y)).neg))) (val (ofNat (val (ofNat (Int.natAbs (toZ x))) / val (ofNat (Int.natAbs (toZ y))))))) - toZ (ofZ 1))) * toZ (ofZ (toZ y))))))))) (d := (encI (ofZ (toZ (ofZ (toZ x)) - toZ (ofZ (toZ (ofZ (toZ (mkI (!(((ofZ (toZ x)).neg) == ((ofZ (toZ y)).neg))) (val (ofNat (val (ofNat (Int.natAbs (toZ x))) / val (ofNat (Int.natAbs (toZ y))))))) - toZ (ofZ 1))) * toZ (ofZ (toZ y)))))))) rfl rfl sh24 rfl rfl (.tmp (d := (.val (.int .i64 (0)))) rfl .nil))), ?_⟩
      rw [hk, r_rem_eq]; rfl
    · skip
      have hqm := gs_mul (mkI (!((ofZ (toZ x)).neg == (ofZ (toZ y)).neg)) (val (ofNat (val (ofNat (Int.natAbs (toZ x))) / val (ofNat (Int.natAbs (toZ y))))))) (ofZ (toZ y))
      have hk := r_div_same (X := toZ x) (Y := toZ y) hy1 (by rw [Bool.and_eq_false_iff, Bool.not_eq_false', beq_iff_eq, decide_eq_false_iff_not] at h3; exact h3)
      refine pwp_skip ?_
      refine pwp_seq ?_
      refine pwp_D (S' := [(4, (.ref 2 0)), (5, (.ref 3 0)), (6, (vin 0))]) (B' := [(2, some (bx (encI (mkI (!(((ofZ (toZ x)).neg) == ((ofZ (toZ y)).neg))) (val (ofNat (val (ofNat (Int.natAbs (toZ x))) / val (ofNat (Int.natAbs (toZ y)))))))))), (3, some (bx (encI (ofZ (toZ (ofZ (toZ x)) - toZ (ofZ (toZ (mkI (!(((ofZ (toZ x)).neg) == ((ofZ (toZ y)).neg))) (val (ofNat (val (ofNat (Int.natAbs (toZ x))) / val (ofNat (Int.natAbs (toZ y))))))) * toZ (ofZ (toZ y)))))))))]) mo (by kernel_rfl) ?_ ?_
      · skip
        exact dR (e_lda (cs := (bx (encI (mkI (!(((ofZ (toZ x)).neg) == ((ofZ (toZ y)).neg))) (val (ofNat (val (ofNat (Int.natAbs (toZ x))) / val (ofNat (Int.natAbs (toZ y)))))))))) (y := (.d (encI (mkI (!(((ofZ (toZ x)).neg) == ((ofZ (toZ y)).neg))) (val (ofNat (val (ofNat (Int.natAbs (toZ x))) / val (ofNat (Int.natAbs (toZ y)))))))))) rfl rfl sh24 rfl rfl) rfl rfl rfl rfl rfl <| dR (e_lda (cs := (bx (encI (ofZ (toZ x))))) (y := (.d (encI (ofZ (toZ x))))) rfl rfl sh24 rfl rfl) rfl rfl rfl rfl rfl <| dR (e_lda (cs := (bx (encI (mkI (!(((ofZ (toZ x)).neg) == ((ofZ (toZ y)).neg))) (val (ofNat (val (ofNat (Int.natAbs (toZ x))) / val (ofNat (Int.natAbs (toZ y)))))))))) (y := (.d (encI (mkI (!(((ofZ (toZ x)).neg) == ((ofZ (toZ y)).neg))) (val (ofNat (val (ofNat (Int.natAbs (toZ x))) / val (ofNat (Int.natAbs (toZ y)))))))))) rfl rfl sh24 rfl rfl) rfl rfl rfl rfl rfl <| dR (e_lda (cs := (bx (encI (ofZ (toZ y))))) (y := (.d (encI (ofZ (toZ y))))) rfl rfl sh24 rfl rfl) rfl rfl rfl rfl rfl <| dE' (e_cl (r_mul (mkI (!(((ofZ (toZ x)).neg) == ((ofZ (toZ y)).neg))) (val (ofNat (val (ofNat (Int.natAbs (toZ x))) / val (ofNat (Int.natAbs (toZ y))))))) (ofZ (toZ y)) (by omega) (by omega)) rfl rfl rfl) rfl rfl <| dE' (e_cl (r_sub (ofZ (toZ x)) (ofZ (toZ (mkI (!(((ofZ (toZ x)).neg) == ((ofZ (toZ y)).neg))) (val (ofNat (val (ofNat (Int.natAbs (toZ x))) / val (ofNat (Int.natAbs (toZ y))))))) * toZ (ofZ (toZ y)))) (by omega) (by omega)) rfl rfl rfl) rfl rfl <| dT (t_std (d := (encI (mkI (!(((ofZ (toZ x)).neg) == ((ofZ (toZ y)).neg))) (val (ofNat (val (ofNat (Int.natAbs (toZ x))) / val (ofNat (Int.natAbs (toZ y))))))))) (cs := (bx (encI (mkI (!(((ofZ (toZ x)).neg) == ((ofZ (toZ y)).neg))) (val (ofNat (val (ofNat (Int.natAbs (toZ x))) / val (ofNat (Int.natAbs (toZ y)))))))))) rfl rfl rfl sh24 rfl rfl rfl rfl) rfl rfl rfl rfl <| dT (t_std (d := (encI (ofZ (toZ (ofZ (toZ x)) - toZ (ofZ (toZ (mkI (!(((ofZ (toZ x)).neg) == ((ofZ (toZ y)).neg))) (val (ofNat (val (ofNat (Int.natAbs (toZ x))) / val (ofNat (Int.natAbs (toZ y))))))) * toZ (ofZ (toZ y)))))))) (cs := (bx (encI (ofZ (toZ (ofZ (toZ x)) - toZ (ofZ (toZ (mkI (!(((ofZ (toZ x)).neg) == ((ofZ (toZ y)).neg))) (val (ofNat (val (ofNat (Int.natAbs (toZ x))) / val (ofNat (Int.natAbs (toZ y))))))) * toZ (ofZ (toZ y))))))))) rfl rfl rfl sh24 rfl rfl rfl rfl) rfl rfl rfl rfl <| dM (vin 0) rfl rfl rfl <| dNil rfl rfl (by kernel_rfl)
      refine pwp_ret ⟨_, (res_a (cs := (bx (encI (mkI (!(((ofZ (toZ x)).neg) == ((ofZ (toZ y)).neg))) (val (ofNat (val (ofNat (Int.natAbs (toZ x))) / val (ofNat (Int.natAbs (toZ y)))))))))) (d := (encI (mkI (!(((ofZ (toZ x)).neg) == ((ofZ (toZ y)).neg))) (val (ofNat (val (ofNat (Int.natAbs (toZ x))) / val (ofNat (Int.natAbs (toZ y))))))))) rfl rfl sh24 rfl rfl (res_a (cs := (bx (encI (ofZ (toZ (ofZ (toZ x)) - toZ (ofZ (toZ (mkI (!(((ofZ (toZ x)).neg) == ((ofZ (toZ y)).neg))) (val (ofNat (val (ofNat (Int.natAbs (toZ x))) / val (ofNat (Int.natAbs (toZ y))))))) * toZ (ofZ (toZ y))))))))) (d := (encI (ofZ (toZ (ofZ (toZ x)) - toZ (ofZ (toZ (mkI (!(((ofZ (toZ x)).neg) == ((ofZ (toZ y)).neg))) (val (ofNat (val (ofNat (Int.natAbs (toZ x))) / val (ofNat (Int.natAbs (toZ y))))))) * toZ (ofZ (toZ y)))))))) rfl rfl sh24 rfl rfl (.tmp (d := (.val (.int .i64 (0)))) rfl .nil))), ?_⟩
      rw [hk, r_rem_eq]; rfl
end Go.Proofs.YtcdgmcfkhkikbaaGreat
