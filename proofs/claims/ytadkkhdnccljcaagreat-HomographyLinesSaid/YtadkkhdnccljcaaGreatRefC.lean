/-
  Functions walked: each takes its data to what is said. Printed by a program of ours.
-/
import Derived.Test.YtadkkhdnccljcaaGreatRefB
namespace Go.Proofs.YtadkkhdnccljcaaGreat
open Go.Fid
set_option maxRecDepth 4000
set_option linter.unusedVariables false
set_option linter.unusedSimpArgs false
theorem cb46 : callB Tryz.prog 46 = true := by kernel_rfl
theorem cb109 : callB Tryz.prog 109 = true := by kernel_rfl
theorem r_gcd (x : RInt) (y : RInt) (hx : x.gs.length ≤ 1099511627776) (hy : y.gs.length ≤ 1099511627776) : Takes Tryz.prog 109 [(encI x), (encI y)] (encI (ofZ ((Int.gcd (toZ x) (toZ y) : Nat) : Int))) := by
  have hvx := gs_val2 x
  have hvy := gs_val2 y
  refine fn_intro Tryz.func109 rfl cb109 rfl ?_
  show PWp _ _ _ _ ⟨[(0, (.d (encI x))), (1, (.d (encI y)))], []⟩
  refine pwp_seq <| kx [(2, (.ref 0 0)), (3, (.ref 1 0)), (4, (.ref 2 0))] [(0, some (bx (encI x))), (1, some (bx (encI y))), (2, some (bx (encI (RInt.mk false []))))] (zN (oBx 0) <| zN (oBx 1) <| zN (oAl 2 ze30 zo30) <| zZ) ?_
  refine pwp_seq <| kd [(5, (vl 138 1 enc_u32 (ofNat (Int.natAbs (toZ x))))), (6, (vl 138 1 enc_u32 (ofNat (Int.natAbs (toZ y)))))] [] mo (wR (oLa sh30) <| wE (oCl (r_value x (by omega))) <| wE (oF1 ft30_1 sh28) <| wR (oLa sh30) <| wE (oCl (r_value y (by omega))) <| wE (oF1 ft30_1 sh28) <| wM <| wM <| wZ) ?_
  refine pwp_seq <| pwp_block <| pwp_loop (α := List Nat × List Nat) (fun (a, b) => ⟨[(4, (.ref 2 0)), (5, (vl 138 1 enc_u32 a)), (6, (vl 138 1 enc_u32 b))], [(2, some (bx (encI (RInt.mk false []))))]⟩) (fun (a, b) => Cano a ∧ Cano b ∧ a.length ≤ 1099511627776 ∧ b.length ≤ 1099511627776 ∧ Nat.gcd (val a) (val b) = Int.gcd (toZ x) (toZ y)) (fun (a, b) => val b) ((ofNat (Int.natAbs (toZ x))), (ofNat (Int.natAbs (toZ y)))) wk ⟨ofNat_can _, ofNat_can _, by omega, by omega, by rw [ofNat_val, ofNat_val]; rfl⟩ ?_
  rintro ⟨a, b⟩ ⟨ha, hb, hla, hlb, hg⟩
  refine pwp_seq <| pwp_seq <| kx [(29, (vb (decide (0 < ((b.length : Nat) : Int)) && (decide (2 < ((a.length : Nat) : Int)) || decide (2 < ((b.length : Nat) : Int))))))] [] ?_ ?_
  · refine zM <| zE (oLm el28) <| zE oGt <| zE (oV (vb (decide (0 < ((b.length : Nat) : Int)))) (mv_ok (by kernel_rfl))) <| ?_
    rcases hb1 : (decide (0 < ((b.length : Nat) : Int))) with _ | _
    · replace hb1 := of_decide_eq_false hb1
      exact zK <| zK <| zK <| zK <| zK <| zK <| zK <| zK <| zE oPf <| zZ
    · replace hb1 := of_decide_eq_true hb1
      refine zM <| zE (oLm el28) <| zE oGt <| zE (oV (vb (decide (2 < ((a.length : Nat) : Int)))) (mv_ok (by kernel_rfl))) <| ?_
      rcases hb2 : (decide (2 < ((a.length : Nat) : Int))) with _ | _
      · replace hb2 := of_decide_eq_false hb2
        exact zM <| zE (oLm el28) <| zE oGt <| zE oPo <| zE oPa <| zZ
      · replace hb2 := of_decide_eq_true hb2
        exact zK <| zK <| zK <| zE oPt <| zE oPt <| zZ
  refine pwp_cond rfl (fun h3 => ?_) (fun h3 => ?_)
  · have hbl : 0 < b.length := by rw [Bool.and_eq_true, decide_eq_true_eq] at h3; omega
    have hb0 := len_pos_val hb hbl
    refine pwp_skip <| pwp_block <| pwp_seq <| kx [(8, (vl 138 1 enc_u32 (ofNat (val a % val b))))] [] (zM <| zM <| zE (oCl (r_parts a b ha hb (by omega) (by omega) (by omega))) <| zM <| zE oEx <| zE oEx <| zM <| zM <| zZ) ?_
    refine kx [(5, (vl 138 1 enc_u32 b)), (6, (vl 138 1 enc_u32 (ofNat (val a % val b))))] [] (zM <| zM <| zM <| zM <| zZ) ?_
    exact ⟨(b, ofNat (val a % val b)), wk, ⟨hb, ofNat_can _, hlb, Nat.le_trans (len_rem a ha _) hla, by rw [ofNat_val, ← hg, Nat.gcd_comm, ← Nat.gcd_rec, Nat.gcd_comm]⟩, (by dsimp only; rw [ofNat_val]; exact Nat.mod_lt _ hb0)⟩
  · have hex := h3
    refine pwp_exit <| pwp_seq <| pwp_seq <| kx [(40, (vb (((b.length : Nat) : Int) == 0)))] [] (zM <| zE (oLm el28) <| zE oEq <| zZ) ?_
    refine pwp_cond (b := (((b.length : Nat) : Int) == 0)) rfl (fun h4 => ?_) (fun h4 => ?_)
    · replace h4 := eq_of_beq h4
      have hb1 : b = [] := List.eq_nil_of_length_eq_zero (by omega)
      rw [hb1, val_nil, Nat.gcd_zero_right] at hg
      refine pwp_seq <| kx [] [(2, some (bx (encI (mkI false (val a)))))] (zM <| zE (oCl (r_made false a ha.1 (by omega))) <| zT (oSt sh30) <| zZ) ?_
      refine pwp_ret ⟨_, (res_a (cs := (bx (encI (mkI false (val a))))) (d := (encI (mkI false (val a)))) rfl rfl sh30 rfl rfl .nil), ?_⟩
      rw [← hg, mkI_false]; rfl
    · replace h4 := ne_of_beq_false h4
      have hl2 : a.length ≤ 2 ∧ b.length ≤ 2 := by simp only [Bool.and_eq_false_iff, Bool.or_eq_false_iff, decide_eq_false_iff_not] at hex; omega
      refine pwp_skip <| pwp_seq <| kx [(9, (vqn (val a))), (10, (vqn (val b)))] [] (zM <| zE (oCl (r_pair a ha.1 (by omega))) <| zM <| zE (oCl (r_pair b hb.1 (by omega))) <| zM <| zM <| zZ) ?_
      refine pwp_seq <| pwp_block <| pwp_loop (α := Nat × Nat) (fun (m, n) => ⟨[(4, (.ref 2 0)), (9, (vqn m)), (10, (vqn n))], [(2, some (bx (encI (RInt.mk false []))))]⟩) (fun (m, n) => m < 1000000000000000000 ∧ n < 1000000000000000000 ∧ Nat.gcd m n = Int.gcd (toZ x) (toZ y)) (fun (m, n) => n) (val a, val b) wk ⟨val_len2 ha.1 hl2.1, val_len2 hb.1 hl2.2, hg⟩ ?_
      rintro ⟨m, n⟩ ⟨hm, hn, hg2⟩
      refine pwp_seq <| pwp_seq <| kx [(48, (vb (decide (0 < ((n : Nat) : Int)))))] [] (zM <| zE oGt <| zZ) ?_
      refine pwp_cond (b := decide (0 < ((n : Nat) : Int))) rfl (fun h5 => ?_) (fun h5 => ?_)
      · replace h5 := of_decide_eq_true h5
        refine pwp_skip <| pwp_block <| kd [(9, (vqn n)), (10, (vqn (m % n)))] [] mo (wM <| wM <| wM <| wE (oRe (m % n)) <| wM <| wM <| wZ) ?_
        exact ⟨(n, m % n), wk, ⟨hn, Nat.lt_of_le_of_lt (Nat.mod_le _ _) hm, by rw [← hg2, Nat.gcd_comm, ← Nat.gcd_rec, Nat.gcd_comm]⟩, (by dsimp only; exact Nat.mod_lt _ (by omega))⟩
      · replace h5 := of_decide_eq_false h5
        obtain rfl : n = 0 := by omega
        rw [Nat.gcd_zero_right] at hg2
        have hmv : val [m % 1000000000, m / 1000000000] = m := by simp only [val]; omega
        refine pwp_exit <| pwp_seq <| kx [] [(2, some (bx (encI (mkI false (val [(m % 1000000000), (m / 1000000000)])))))] (zM <| zE (oRe (m % 1000000000)) <| zE (oCv un140 in138 (m % 1000000000)) <| zM <| zE (oQu (m / 1000000000)) <| zE (oCv un140 in138 (m / 1000000000)) <| zE (oBs el28 ze138 zo138) <| zE (oCl (r_made false [(m % 1000000000), (m / 1000000000)] (dig_cons.2 ⟨Nat.mod_lt _ (by decide), dig_cons.2 ⟨by omega, dig_nil⟩⟩) (by simp))) <| zT (oSt sh30) <| zZ) ?_
        refine pwp_ret ⟨_, (res_a (cs := (bx (encI (mkI false (val [(m % 1000000000), (m / 1000000000)]))))) (d := (encI (mkI false (val [(m % 1000000000), (m / 1000000000)])))) rfl rfl sh30 rfl rfl .nil), ?_⟩
        rw [← hg2, hmv, mkI_false]; rfl
theorem r_divide (x : RInt) (y : RInt) (hx : x.gs.length ≤ 274877906944) (hy : y.gs.length ≤ 274877906944) (hy0 : toZ y ≠ 0) : Takes Tryz.prog 46 [(encI x), (encI y)] (.tup [(encI (ofZ ((toZ x).fdiv (toZ y)))), (encI (ofZ ((toZ x).fmod (toZ y)))), (.val (.int .i64 (0)))]) := by
  have hvx := gs_val2 x
  have hvy := gs_val2 y
  have hmx := gs_val x
  have hmy := gs_val y
  have hy1 : 0 < (toZ y).natAbs := by omega
  have hyl := ofNat_len_pos hy1
  have hql : (ofNat (val (ofNat (Int.natAbs (toZ x))) / val (ofNat (Int.natAbs (toZ y))))).length ≤ 274877906944 := by have := len_quo (ofNat (Int.natAbs (toZ x))) (ofNat_can _) (val (ofNat (Int.natAbs (toZ y)))); omega
  have hqg : (mkI (!((ofZ (toZ x)).neg == (ofZ (toZ y)).neg)) (val (ofNat (val (ofNat (Int.natAbs (toZ x))) / val (ofNat (Int.natAbs (toZ y))))))).gs.length ≤ 274877906944 := by show (ofNat (val (ofNat (val (ofNat (Int.natAbs (toZ x))) / val (ofNat (Int.natAbs (toZ y))))))).length ≤ _; rw [ofNat_val]; exact hql
  have hone : (ofZ 1).gs.length ≤ 1 := (iok_small (z := 1) (by decide)).l
  have hqs := gs_sub (mkI (!((ofZ (toZ x)).neg == (ofZ (toZ y)).neg)) (val (ofNat (val (ofNat (Int.natAbs (toZ x))) / val (ofNat (Int.natAbs (toZ y))))))) (ofZ 1)
  refine fn_intro Tryz.func46 rfl cb46 rfl ?_
  show PWp _ _ _ _ ⟨[(0, (.d (encI x))), (1, (.d (encI y)))], []⟩
  refine pwp_seq <| kx [(2, (.ref 0 0)), (3, (.ref 1 0)), (4, (.ref 2 0)), (5, (.ref 3 0))] [(0, some (bx (encI x))), (1, some (bx (encI y))), (2, some (bx (encI (RInt.mk false [])))), (3, some (bx (encI (RInt.mk false []))))] (zN (oBx 0) <| zN (oBx 1) <| zN (oAl 2 ze30 zo30) <| zN (oAl 3 ze30 zo30) <| zM <| zZ) ?_
  refine pwp_seq <| kd [] [(0, some (bx (encI (ofZ (toZ x))))), (1, some (bx (encI (ofZ (toZ y)))))] mo (wR (oLa sh30) <| wE (oCl (r_value x (by omega))) <| wR (oLa sh30) <| wE (oCl (r_value y (by omega))) <| wT (oSt sh30) <| wT (oSt sh30) <| wZ) ?_
  refine pwp_seq <| pwp_seq <| kx [(17, (vb ((((ofNat (Int.natAbs (toZ y))).length : Nat) : Int) == 0)))] [] (zE (oFr fo30_1) <| zR (oL1 sh28) <| zE (oLm el28 (L := (ofNat (Int.natAbs (toZ y))))) <| zE oEq <| zZ) ?_
  refine pwp_cond rfl (fun h1 => ?_) (fun h1 => ?_)
  · replace h1 := eq_of_beq h1
    exact absurd h1 (by omega)
  · replace h1 := ne_of_beq_false h1
    refine pwp_skip <| pwp_seq <| kx [(7, (vl 138 1 enc_u32 (ofNat (val (ofNat (Int.natAbs (toZ x))) / val (ofNat (Int.natAbs (toZ y))))))), (8, (vl 138 1 enc_u32 (ofNat (val (ofNat (Int.natAbs (toZ x))) % val (ofNat (Int.natAbs (toZ y)))))))] [] (zE (oFr fo30_1) <| zR (oL1 sh28) <| zE (oFr fo30_1) <| zR (oL1 sh28) <| zE (oCl (r_parts (ofNat (Int.natAbs (toZ x))) (ofNat (Int.natAbs (toZ y))) (by first | assumption | exact ofNat_can _ | exact grpI_can _) (by first | assumption | exact ofNat_can _ | exact grpI_can _) (by omega) (by omega) (by omega))) <| zM <| zE oEx <| zE oEx <| zM <| zM <| zZ) ?_
    refine pwp_seq <| kx [(9, (.ref 4 0))] [(4, some (bx (encI (mkI (!(((ofZ (toZ x)).neg) == ((ofZ (toZ y)).neg))) (val (ofNat (val (ofNat (Int.natAbs (toZ x))) / val (ofNat (Int.natAbs (toZ y))))))))))] (zE (oFr fo30_0) <| zR (oL1 sh4) <| zE (oFr fo30_0) <| zR (oL1 sh4) <| zE (oNb bo4) <| zM <| zE (oCl (r_made (!(((ofZ (toZ x)).neg) == ((ofZ (toZ y)).neg))) (ofNat (val (ofNat (Int.natAbs (toZ x))) / val (ofNat (Int.natAbs (toZ y))))) (ofNat_dig _) (by omega))) <| zN (oAl 4 ze30 zo30) <| zT (oSt sh30) <| zZ) ?_
    refine pwp_seq <| pwp_seq <| kx [(44, (vb (!(((ofZ (toZ x)).neg) == ((ofZ (toZ y)).neg)) && decide (0 < (((ofNat (val (ofNat (Int.natAbs (toZ x))) % val (ofNat (Int.natAbs (toZ y))))).length : Nat) : Int)))))] [] ?_ ?_
    · refine zE (oFr fo30_0) <| zR (oL1 sh4) <| zE (oFr fo30_0) <| zR (oL1 sh4) <| zE (oNb bo4) <| zE (oV (vb (!(((ofZ (toZ x)).neg) == ((ofZ (toZ y)).neg)))) (mv_ok (by kernel_rfl))) <| ?_
      rcases hb2 : (!(((ofZ (toZ x)).neg) == ((ofZ (toZ y)).neg))) with _ | _
      · exact zK <| zK <| zK <| zE oPf <| zZ
      · exact zM <| zE (oLm el28 (L := (ofNat (val (ofNat (Int.natAbs (toZ x))) % val (ofNat (Int.natAbs (toZ y))))))) <| zE oGt <| zE oPa <| zZ
    refine pwp_cond rfl (fun h3 => ?_) (fun h3 => ?_)
    · have hqm := gs_mul (ofZ (toZ (mkI (!((ofZ (toZ x)).neg == (ofZ (toZ y)).neg)) (val (ofNat (val (ofNat (Int.natAbs (toZ x))) / val (ofNat (Int.natAbs (toZ y))))))) - toZ (ofZ 1))) (ofZ (toZ y))
      have hk := r_div_other (X := toZ x) (Y := toZ y) hy1 (by rw [Bool.and_eq_true, Bool.not_eq_true', beq_eq_false_iff_ne, decide_eq_true_eq] at h3; exact h3)
      refine kd [] [(4, some (bx (encI (ofZ (toZ (mkI (!(((ofZ (toZ x)).neg) == ((ofZ (toZ y)).neg))) (val (ofNat (val (ofNat (Int.natAbs (toZ x))) / val (ofNat (Int.natAbs (toZ y))))))) - toZ (ofZ 1))))))] mo (wR (oLa sh30) <| wE (oCl (r_of 1 (by omega) (by omega))) <| wE (oCl (r_sub (mkI (!(((ofZ (toZ x)).neg) == ((ofZ (toZ y)).neg))) (val (ofNat (val (ofNat (Int.natAbs (toZ x))) / val (ofNat (Int.natAbs (toZ y))))))) (ofZ 1) (by omega) (by omega))) <| wT (oSt sh30) <| wZ) ?_
      refine pwp_seq <| kd [(6, (vin 0))] [(2, some (bx (encI (ofZ (toZ (mkI (!(((ofZ (toZ x)).neg) == ((ofZ (toZ y)).neg))) (val (ofNat (val (ofNat (Int.natAbs (toZ x))) / val (ofNat (Int.natAbs (toZ y))))))) - toZ (ofZ 1)))))), (3, some (bx (encI (ofZ (toZ (ofZ (toZ x)) - toZ (ofZ (toZ (ofZ (toZ (mkI (!(((ofZ (toZ x)).neg) == ((ofZ (toZ y)).neg))) (val (ofNat (val (ofNat (Int.natAbs (toZ x))) / val (ofNat (Int.natAbs (toZ y))))))) - toZ (ofZ 1))) * toZ (ofZ (toZ y)))))))))] mo (wR (oLa sh30) <| wR (oLa sh30) <| wR (oLa sh30) <| wR (oLa sh30) <| wE (oCl (r_mul (ofZ (toZ (mkI (!(((ofZ (toZ x)).neg) == ((ofZ (toZ y)).neg))) (val (ofNat (val (ofNat (Int.natAbs (toZ x))) / val (ofNat (Int.natAbs (toZ y))))))) - toZ (ofZ 1))) (ofZ (toZ y)) (by omega) (by omega))) <| wE (oCl (r_sub (ofZ (toZ x)) (ofZ (toZ (ofZ (toZ (mkI (!(((ofZ (toZ x)).neg) == ((ofZ (toZ y)).neg))) (val (ofNat (val (ofNat (Int.natAbs (toZ x))) / val (ofNat (Int.natAbs (toZ y))))))) - toZ (ofZ 1))) * toZ (ofZ (toZ y)))) (by omega) (by omega))) <| wT (oSt sh30) <| wT (oSt sh30) <| wM <| wZ) ?_
      refine pwp_ret ⟨_, (res_a (cs := (bx (encI (ofZ (toZ (mkI (!(((ofZ (toZ x)).neg) == ((ofZ (toZ y)).neg))) (val (ofNat (val (ofNat (Int.natAbs (toZ x))) / val (ofNat (Int.natAbs (toZ y))))))) - toZ (ofZ 1)))))) (d := (encI (ofZ (toZ (mkI (!(((ofZ (toZ x)).neg) == ((ofZ (toZ y)).neg))) (val (ofNat (val (ofNat (Int.natAbs (toZ x))) / val (ofNat (Int.natAbs (toZ y))))))) - toZ (ofZ 1))))) rfl rfl sh30 rfl rfl (res_a (cs := (bx (encI (ofZ (toZ (ofZ (toZ x)) - toZ (ofZ (toZ (ofZ (toZ (mkI (!(((ofZ (toZ x)).neg) == ((ofZ (toZ y)).neg))) (val (ofNat (val (ofNat (Int.natAbs (toZ x))) / val (ofNat (Int.natAbs (toZ y))))))) - toZ (ofZ 1))) * toZ (ofZ (toZ y))))))))) (d := (encI (ofZ (toZ (ofZ (toZ x)) - toZ (ofZ (toZ (ofZ (toZ (mkI (!(((ofZ (toZ x)).neg) == ((ofZ (toZ y)).neg))) (val (ofNat (val (ofNat (Int.natAbs (toZ x))) / val (ofNat (Int.natAbs (toZ y))))))) - toZ (ofZ 1))) * toZ (ofZ (toZ y)))))))) rfl rfl sh30 rfl rfl (.tmp (d := (.val (.int .i64 (0)))) rfl .nil))), ?_⟩
      rw [hk, r_rem_eq]; rfl
    · have hqm := gs_mul (mkI (!((ofZ (toZ x)).neg == (ofZ (toZ y)).neg)) (val (ofNat (val (ofNat (Int.natAbs (toZ x))) / val (ofNat (Int.natAbs (toZ y))))))) (ofZ (toZ y))
      have hk := r_div_same (X := toZ x) (Y := toZ y) hy1 (by rw [Bool.and_eq_false_iff, Bool.not_eq_false', beq_iff_eq, decide_eq_false_iff_not] at h3; exact h3)
      refine pwp_skip <| pwp_seq <| kd [(6, (vin 0))] [(2, some (bx (encI (mkI (!(((ofZ (toZ x)).neg) == ((ofZ (toZ y)).neg))) (val (ofNat (val (ofNat (Int.natAbs (toZ x))) / val (ofNat (Int.natAbs (toZ y)))))))))), (3, some (bx (encI (ofZ (toZ (ofZ (toZ x)) - toZ (ofZ (toZ (mkI (!(((ofZ (toZ x)).neg) == ((ofZ (toZ y)).neg))) (val (ofNat (val (ofNat (Int.natAbs (toZ x))) / val (ofNat (Int.natAbs (toZ y))))))) * toZ (ofZ (toZ y)))))))))] mo (wR (oLa sh30) <| wR (oLa sh30) <| wR (oLa sh30) <| wR (oLa sh30) <| wE (oCl (r_mul (mkI (!(((ofZ (toZ x)).neg) == ((ofZ (toZ y)).neg))) (val (ofNat (val (ofNat (Int.natAbs (toZ x))) / val (ofNat (Int.natAbs (toZ y))))))) (ofZ (toZ y)) (by omega) (by omega))) <| wE (oCl (r_sub (ofZ (toZ x)) (ofZ (toZ (mkI (!(((ofZ (toZ x)).neg) == ((ofZ (toZ y)).neg))) (val (ofNat (val (ofNat (Int.natAbs (toZ x))) / val (ofNat (Int.natAbs (toZ y))))))) * toZ (ofZ (toZ y)))) (by omega) (by omega))) <| wT (oSt sh30) <| wT (oSt sh30) <| wM <| wZ) ?_
      refine pwp_ret ⟨_, (res_a (cs := (bx (encI (mkI (!(((ofZ (toZ x)).neg) == ((ofZ (toZ y)).neg))) (val (ofNat (val (ofNat (Int.natAbs (toZ x))) / val (ofNat (Int.natAbs (toZ y)))))))))) (d := (encI (mkI (!(((ofZ (toZ x)).neg) == ((ofZ (toZ y)).neg))) (val (ofNat (val (ofNat (Int.natAbs (toZ x))) / val (ofNat (Int.natAbs (toZ y))))))))) rfl rfl sh30 rfl rfl (res_a (cs := (bx (encI (ofZ (toZ (ofZ (toZ x)) - toZ (ofZ (toZ (mkI (!(((ofZ (toZ x)).neg) == ((ofZ (toZ y)).neg))) (val (ofNat (val (ofNat (Int.natAbs (toZ x))) / val (ofNat (Int.natAbs (toZ y))))))) * toZ (ofZ (toZ y))))))))) (d := (encI (ofZ (toZ (ofZ (toZ x)) - toZ (ofZ (toZ (mkI (!(((ofZ (toZ x)).neg) == ((ofZ (toZ y)).neg))) (val (ofNat (val (ofNat (Int.natAbs (toZ x))) / val (ofNat (Int.natAbs (toZ y))))))) * toZ (ofZ (toZ y)))))))) rfl rfl sh30 rfl rfl (.tmp (d := (.val (.int .i64 (0)))) rfl .nil))), ?_⟩
      rw [hk, r_rem_eq]; rfl
end Go.Proofs.YtadkkhdnccljcaaGreat
