/- Part 21 of a proof: rules, plain facts, and functions walked. -/
import Derived.Test.YtihgdjljnaekmaaGreatM20
import Derived.Test.YtihgdjljnaekmaaGreatM15
namespace Go.Proofs.YtihgdjljnaekmaaGreat
open Go.Fid
set_option maxRecDepth 4000
set_option linter.unusedVariables false
set_option linter.unusedSimpArgs false
theorem cb131 : callB Tryz.prog 131 = true := by kernel_rfl
theorem cb132 : callB Tryz.prog 132 = true := by kernel_rfl
theorem cb184 : callB Tryz.prog 184 = true := by kernel_rfl
theorem r_gcd (x : RInt) (y : RInt) (hx : x.gs.length ≤ 1099511627776) (hy : y.gs.length ≤ 1099511627776) : Takes Tryz.prog 132 [(encI x), (encI y)] (encI (ofZ ((Int.gcd (toZ x) (toZ y) : Nat) : Int))) := by
  have hvx := gs_val2 x
  have hvy := gs_val2 y
  refine fn_intro Tryz.func132 rfl cb132 rfl ?_
  show PWp _ _ _ _ ⟨[(0, (.d (encI x))), (1, (.d (encI y)))], []⟩
  refine pwp_seq <| kx [(2, (.ref 0 0)), (3, (.ref 1 0)), (4, (.ref 2 0))] [(0, some (bx (encI x))), (1, some (bx (encI y))), (2, some (bx (encI (RInt.mk false []))))] (zN (oBx 0) <| zN (oBx 1) <| zN (oAl 2 ze49 zo49) <| zZ) ?_
  refine pwp_seq <| kd [(5, (vl 135 1 enc_u32 (ofNat (Int.natAbs (toZ x))))), (6, (vl 135 1 enc_u32 (ofNat (Int.natAbs (toZ y)))))] [] mo (wR (oLa sh49) <| wE (oCl (r_value x (by omega))) <| wE (oF1 ft49_1 sh47) <| wR (oLa sh49) <| wE (oCl (r_value y (by omega))) <| wE (oF1 ft49_1 sh47) <| wM <| wM <| wZ) ?_
  refine pwp_seq <| pwp_block <| pwp_loop (α := List Nat × List Nat) (fun (a, b) => ⟨[(4, (.ref 2 0)), (5, (vl 135 1 enc_u32 a)), (6, (vl 135 1 enc_u32 b))], [(2, some (bx (encI (RInt.mk false []))))]⟩) (fun (a, b) => Cano a ∧ Cano b ∧ a.length ≤ 1099511627776 ∧ b.length ≤ 1099511627776 ∧ Nat.gcd (val a) (val b) = Int.gcd (toZ x) (toZ y)) (fun (a, b) => val b) ((ofNat (Int.natAbs (toZ x))), (ofNat (Int.natAbs (toZ y)))) wk ⟨ofNat_can _, ofNat_can _, by omega, by omega, by rw [ofNat_val, ofNat_val]; rfl⟩ ?_
  rintro ⟨a, b⟩ ⟨ha, hb, hla, hlb, hg⟩
  refine pwp_seq <| pwp_seq <| kx [(29, (vb (decide (0 < ((b.length : Nat) : Int)) && (decide (2 < ((a.length : Nat) : Int)) || decide (2 < ((b.length : Nat) : Int))))))] [] ?_ ?_
  · refine zM <| zE (oLm el47) <| zE oGt <| zE (oV (vb (decide (0 < ((b.length : Nat) : Int)))) (mv_ok (by kernel_rfl))) <| ?_
    rcases hb1 : (decide (0 < ((b.length : Nat) : Int))) with _ | _
    · replace hb1 := of_decide_eq_false hb1
      exact zK <| zK <| zK <| zK <| zK <| zK <| zK <| zK <| zE oPf <| zZ
    · replace hb1 := of_decide_eq_true hb1
      refine zM <| zE (oLm el47) <| zE oGt <| zE (oV (vb (decide (2 < ((a.length : Nat) : Int)))) (mv_ok (by kernel_rfl))) <| ?_
      rcases hb2 : (decide (2 < ((a.length : Nat) : Int))) with _ | _
      · replace hb2 := of_decide_eq_false hb2
        exact zM <| zE (oLm el47) <| zE oGt <| zE oPo <| zE oPa <| zZ
      · replace hb2 := of_decide_eq_true hb2
        exact zK <| zK <| zK <| zE oPt <| zE oPt <| zZ
  refine pwp_cond rfl (fun h3 => ?_) (fun h3 => ?_)
  · have hbl : 0 < b.length := by rw [Bool.and_eq_true, decide_eq_true_eq] at h3; omega
    have hb0 := len_pos_val hb hbl
    refine pwp_skip <| pwp_block <| pwp_seq <| kx [(8, (vl 135 1 enc_u32 (ofNat (val a % val b))))] [] (zM <| zM <| zE (oCl (r_parts a b ha hb (by omega) (by omega) (by omega))) <| zM <| zE oEx <| zE oEx <| zM <| zM <| zZ) ?_
    refine kx [(5, (vl 135 1 enc_u32 b)), (6, (vl 135 1 enc_u32 (ofNat (val a % val b))))] [] (zM <| zM <| zM <| zM <| zZ) ?_
    exact ⟨(b, ofNat (val a % val b)), wk, ⟨hb, ofNat_can _, hlb, Nat.le_trans (len_rem a ha _) hla, by rw [ofNat_val, ← hg, Nat.gcd_comm, ← Nat.gcd_rec, Nat.gcd_comm]⟩, (by dsimp only; rw [ofNat_val]; exact Nat.mod_lt _ hb0)⟩
  · have hex := h3
    refine pwp_exit <| pwp_seq <| pwp_seq <| kx [(40, (vb (((b.length : Nat) : Int) == 0)))] [] (zM <| zE (oLm el47) <| zE oEq <| zZ) ?_
    refine pwp_cond (b := (((b.length : Nat) : Int) == 0)) rfl (fun h4 => ?_) (fun h4 => ?_)
    · replace h4 := eq_of_beq h4
      have hb1 : b = [] := List.eq_nil_of_length_eq_zero (by omega)
      rw [hb1, val_nil, Nat.gcd_zero_right] at hg
      refine pwp_seq <| kx [] [(2, some (bx (encI (mkI false (val a)))))] (zM <| zE (oCl (r_made false a ha.1 (by omega))) <| zT (oSt sh49) <| zZ) ?_
      refine pwp_ret ⟨_, (res_a (cs := (bx (encI (mkI false (val a))))) (d := (encI (mkI false (val a)))) rfl rfl sh49 rfl rfl .nil), ?_⟩
      rw [← hg, mkI_false]; rfl
    · replace h4 := ne_of_beq_false h4
      have hl2 : a.length ≤ 2 ∧ b.length ≤ 2 := by simp only [Bool.and_eq_false_iff, Bool.or_eq_false_iff, decide_eq_false_iff_not] at hex; omega
      refine pwp_skip <| pwp_seq <| kx [(9, (vqn (val a))), (10, (vqn (val b)))] [] (zM <| zE (oCl (r_pair a ha.1 (by omega))) <| zM <| zE (oCl (r_pair b hb.1 (by omega))) <| zM <| zM <| zZ) ?_
      refine pwp_seq <| pwp_block <| pwp_loop (α := Nat × Nat) (fun (m, n) => ⟨[(4, (.ref 2 0)), (9, (vqn m)), (10, (vqn n))], [(2, some (bx (encI (RInt.mk false []))))]⟩) (fun (m, n) => m < 1000000000000000000 ∧ n < 1000000000000000000 ∧ Nat.gcd m n = Int.gcd (toZ x) (toZ y)) (fun (m, n) => n) (val a, val b) wk ⟨val_len2 ha.1 hl2.1, val_len2 hb.1 hl2.2, hg⟩ ?_
      rintro ⟨m, n⟩ ⟨hm, hn, hg2⟩
      refine pwp_seq <| pwp_seq <| kx [(48, (vb (decide (0 < ((n : Nat) : Int)))))] [] (zM <| zE oGt <| zZ) ?_
      refine pwp_cond (b := decide (0 < ((n : Nat) : Int))) rfl (fun h5 => ?_) (fun h5 => ?_)
      · replace h5 := of_decide_eq_true h5
        refine pwp_skip <| pwp_block <| kd [(9, (vqn n)), (10, (vqn (m % n)))] [] mo (wM <| wM <| wM <| wE (oRe (m % n)) <| wM <| wM <| wZ) ?_
        exact ⟨(n, m % n), wk, ⟨hn, Nat.lt_of_le_of_lt (Nat.mod_le _ _) hm, by rw [← hg2, Nat.gcd_comm, ← Nat.gcd_rec, Nat.gcd_comm]⟩, (by dsimp only; exact Nat.mod_lt _ (by omega))⟩
      · replace h5 := of_decide_eq_false h5
        obtain rfl : n = 0 := by omega
        rw [Nat.gcd_zero_right] at hg2
        have hmv : val [m % 1000000000, m / 1000000000] = m := by simp only [val]; omega
        refine pwp_exit <| pwp_seq <| kx [] [(2, some (bx (encI (mkI false (val [(m % 1000000000), (m / 1000000000)])))))] (zM <| zE (oRe (m % 1000000000)) <| zE (oCv un180 in135 (m % 1000000000)) <| zM <| zE (oQu (m / 1000000000)) <| zE (oCv un180 in135 (m / 1000000000)) <| zE (oBs el47 ze135 zo135) <| zE (oCl (r_made false [(m % 1000000000), (m / 1000000000)] (dig_cons.2 ⟨Nat.mod_lt _ (by decide), dig_cons.2 ⟨by omega, dig_nil⟩⟩) (by simp))) <| zT (oSt sh49) <| zZ) ?_
        refine pwp_ret ⟨_, (res_a (cs := (bx (encI (mkI false (val [(m % 1000000000), (m / 1000000000)]))))) (d := (encI (mkI false (val [(m % 1000000000), (m / 1000000000)])))) rfl rfl sh49 rfl rfl .nil), ?_⟩
        rw [← hg2, hmv, mkI_false]; rfl
theorem r_compare (x : RInt) (y : RInt) (hx : x.gs.length ≤ 274877906944) (hy : y.gs.length ≤ 274877906944) : Takes Tryz.prog 131 [(encI x), (encI y)] (.val (.int .i64 ((cmpI (toZ x) (toZ y))))) := by
  have hv := gs_sub x y
  refine fn_intro Tryz.func131 rfl cb131 rfl ?_
  show PWp _ _ _ _ ⟨[(0, (.d (encI x))), (1, (.d (encI y)))], []⟩
  refine pwp_seq <| kx [(2, (.ref 0 0)), (3, (.ref 1 0))] [(0, some (bx (encI x))), (1, some (bx (encI y)))] (zN (oBx 0) <| zN (oBx 1) <| zM <| zZ) ?_
  refine pwp_seq <| kx [(4, (vi (signI (toZ (ofZ (toZ x - toZ y))))))] [] (zR (oLa sh49) <| zR (oLa sh49) <| zE (oCl (r_sub x y (by omega) (by omega))) <| zE (oCl (r_sign (ofZ (toZ x - toZ y)) (by omega))) <| zM <| zZ) ?_
  refine pwp_ret ⟨_, (.tmp (d := (.val (.int .i64 ((signI (toZ (ofZ (toZ x - toZ y)))))))) rfl .nil), ?_⟩
  rw [toZ_ofZ, signI_sub]; rfl
theorem r_divide (x : RInt) (y : RInt) (hx : x.gs.length ≤ 274877906944) (hy : y.gs.length ≤ 274877906944) (hy0 : toZ y ≠ 0) : Takes Tryz.prog 184 [(encI x), (encI y)] (.tup [(encI (ofZ ((toZ x).fdiv (toZ y)))), (encI (ofZ ((toZ x).fmod (toZ y)))), (.val (.int .i64 (0)))]) := by
  have hvx := gs_val2 x
  have hvy := gs_val2 y
  have hmx := gs_val x
  have hmy := gs_val y
  have hy1 : 0 < (toZ y).natAbs := by omega
  have hyl := ofNat_len_pos hy1
  have hql : (ofNat (val (ofNat (Int.natAbs (toZ x))) / val (ofNat (Int.natAbs (toZ y))))).length ≤ 274877906944 := by have := len_quo (ofNat (Int.natAbs (toZ x))) (ofNat_can _) (val (ofNat (Int.natAbs (toZ y)))); omega
  have hqg : (mkI (!((ofZ (toZ x)).neg == (ofZ (toZ y)).neg)) (val (ofNat (val (ofNat (Int.natAbs (toZ x))) / val (ofNat (Int.natAbs (toZ y))))))).gs.length ≤ 274877906944 := by show (ofNat (val (ofNat (val (ofNat (Int.natAbs (toZ x))) / val (ofNat (Int.natAbs (toZ y))))))).length ≤ _; rw [ofNat_val]; exact hql
  have hone : (ofZ 1).gs.length ≤ 1 := (iok_small (z := 1) (by decide)).l
  have hqs := gs_sub (mkI (!((ofZ (toZ x)).neg == (ofZ (toZ y)).neg)) (val (ofNat (val (ofNat (Int.natAbs (toZ x))) / val (ofNat (Int.natAbs (toZ y))))))) (ofZ 1)
  refine fn_intro Tryz.func184 rfl cb184 rfl ?_
  show PWp _ _ _ _ ⟨[(0, (.d (encI x))), (1, (.d (encI y)))], []⟩
  refine pwp_seq <| kx [(2, (.ref 0 0)), (3, (.ref 1 0)), (4, (.ref 2 0)), (5, (.ref 3 0))] [(0, some (bx (encI x))), (1, some (bx (encI y))), (2, some (bx (encI (RInt.mk false [])))), (3, some (bx (encI (RInt.mk false []))))] (zN (oBx 0) <| zN (oBx 1) <| zN (oAl 2 ze49 zo49) <| zN (oAl 3 ze49 zo49) <| zM <| zZ) ?_
  refine pwp_seq <| kd [] [(0, some (bx (encI (ofZ (toZ x))))), (1, some (bx (encI (ofZ (toZ y)))))] mo (wR (oLa sh49) <| wE (oCl (r_value x (by omega))) <| wR (oLa sh49) <| wE (oCl (r_value y (by omega))) <| wT (oSt sh49) <| wT (oSt sh49) <| wZ) ?_
  refine pwp_seq <| pwp_seq <| kx [(17, (vb ((((ofNat (Int.natAbs (toZ y))).length : Nat) : Int) == 0)))] [] (zE (oFr fo49_1) <| zR (oL1 sh47) <| zE (oLm el47 (L := (ofNat (Int.natAbs (toZ y))))) <| zE oEq <| zZ) ?_
  refine pwp_cond rfl (fun h1 => ?_) (fun h1 => ?_)
  · replace h1 := eq_of_beq h1
    exact absurd h1 (by omega)
  · replace h1 := ne_of_beq_false h1
    refine pwp_skip <| pwp_seq <| kx [(7, (vl 135 1 enc_u32 (ofNat (val (ofNat (Int.natAbs (toZ x))) / val (ofNat (Int.natAbs (toZ y))))))), (8, (vl 135 1 enc_u32 (ofNat (val (ofNat (Int.natAbs (toZ x))) % val (ofNat (Int.natAbs (toZ y)))))))] [] (zE (oFr fo49_1) <| zR (oL1 sh47) <| zE (oFr fo49_1) <| zR (oL1 sh47) <| zE (oCl (r_parts (ofNat (Int.natAbs (toZ x))) (ofNat (Int.natAbs (toZ y))) (by first | assumption | exact ofNat_can _ | exact grpI_can _) (by first | assumption | exact ofNat_can _ | exact grpI_can _) (by omega) (by omega) (by omega))) <| zM <| zE oEx <| zE oEx <| zM <| zM <| zZ) ?_
    refine pwp_seq <| kx [(9, (.ref 4 0))] [(4, some (bx (encI (mkI (!(((ofZ (toZ x)).neg) == ((ofZ (toZ y)).neg))) (val (ofNat (val (ofNat (Int.natAbs (toZ x))) / val (ofNat (Int.natAbs (toZ y))))))))))] (zE (oFr fo49_0) <| zR (oL1 sh4) <| zE (oFr fo49_0) <| zR (oL1 sh4) <| zE (oNb bo4) <| zM <| zE (oCl (r_made (!(((ofZ (toZ x)).neg) == ((ofZ (toZ y)).neg))) (ofNat (val (ofNat (Int.natAbs (toZ x))) / val (ofNat (Int.natAbs (toZ y))))) (ofNat_dig _) (by omega))) <| zN (oAl 4 ze49 zo49) <| zT (oSt sh49) <| zZ) ?_
    refine pwp_seq <| pwp_seq <| kx [(44, (vb (!(((ofZ (toZ x)).neg) == ((ofZ (toZ y)).neg)) && decide (0 < (((ofNat (val (ofNat (Int.natAbs (toZ x))) % val (ofNat (Int.natAbs (toZ y))))).length : Nat) : Int)))))] [] ?_ ?_
    · refine zE (oFr fo49_0) <| zR (oL1 sh4) <| zE (oFr fo49_0) <| zR (oL1 sh4) <| zE (oNb bo4) <| zE (oV (vb (!(((ofZ (toZ x)).neg) == ((ofZ (toZ y)).neg)))) (mv_ok (by kernel_rfl))) <| ?_
      rcases hb2 : (!(((ofZ (toZ x)).neg) == ((ofZ (toZ y)).neg))) with _ | _
      · exact zK <| zK <| zK <| zE oPf <| zZ
      · exact zM <| zE (oLm el47 (L := (ofNat (val (ofNat (Int.natAbs (toZ x))) % val (ofNat (Int.natAbs (toZ y))))))) <| zE oGt <| zE oPa <| zZ
    refine pwp_cond rfl (fun h3 => ?_) (fun h3 => ?_)
    · have hqm := gs_mul (ofZ (toZ (mkI (!((ofZ (toZ x)).neg == (ofZ (toZ y)).neg)) (val (ofNat (val (ofNat (Int.natAbs (toZ x))) / val (ofNat (Int.natAbs (toZ y))))))) - toZ (ofZ 1))) (ofZ (toZ y))
      have hk := r_div_other (X := toZ x) (Y := toZ y) hy1 (by rw [Bool.and_eq_true, Bool.not_eq_true', beq_eq_false_iff_ne, decide_eq_true_eq] at h3; exact h3)
      refine kd [] [(4, some (bx (encI (ofZ (toZ (mkI (!(((ofZ (toZ x)).neg) == ((ofZ (toZ y)).neg))) (val (ofNat (val (ofNat (Int.natAbs (toZ x))) / val (ofNat (Int.natAbs (toZ y))))))) - toZ (ofZ 1))))))] mo (wR (oLa sh49) <| wE (oCl (r_of 1 (by omega) (by omega))) <| wE (oCl (r_sub (mkI (!(((ofZ (toZ x)).neg) == ((ofZ (toZ y)).neg))) (val (ofNat (val (ofNat (Int.natAbs (toZ x))) / val (ofNat (Int.natAbs (toZ y))))))) (ofZ 1) (by omega) (by omega))) <| wT (oSt sh49) <| wZ) ?_
      refine pwp_seq <| kd [(6, (vin 0))] [(2, some (bx (encI (ofZ (toZ (mkI (!(((ofZ (toZ x)).neg) == ((ofZ (toZ y)).neg))) (val (ofNat (val (ofNat (Int.natAbs (toZ x))) / val (ofNat (Int.natAbs (toZ y))))))) - toZ (ofZ 1)))))), (3, some (bx (encI (ofZ (toZ (ofZ (toZ x)) - toZ (ofZ (toZ (ofZ (toZ (mkI (!(((ofZ (toZ x)).neg) == ((ofZ (toZ y)).neg))) (val (ofNat (val (ofNat (Int.natAbs (toZ x))) / val (ofNat (Int.natAbs (toZ y))))))) - toZ (ofZ 1))) * toZ (ofZ (toZ y)))))))))] mo (wR (oLa sh49) <| wR (oLa sh49) <| wR (oLa sh49) <| wR (oLa sh49) <| wE (oCl (r_mul (ofZ (toZ (mkI (!(((ofZ (toZ x)).neg) == ((ofZ (toZ y)).neg))) (val (ofNat (val (ofNat (Int.natAbs (toZ x))) / val (ofNat (Int.natAbs (toZ y))))))) - toZ (ofZ 1))) (ofZ (toZ y)) (by omega) (by omega))) <| wE (oCl (r_sub (ofZ (toZ x)) (ofZ (toZ (ofZ (toZ (mkI (!(((ofZ (toZ x)).neg) == ((ofZ (toZ y)).neg))) (val (ofNat (val (ofNat (Int.natAbs (toZ x))) / val (ofNat (Int.natAbs (toZ y))))))) - toZ (ofZ 1))) * toZ (ofZ (toZ y)))) (by omega) (by omega))) <| wT (oSt sh49) <| wT (oSt sh49) <| wM <| wZ) ?_
      refine pwp_ret ⟨_, (res_a (cs := (bx (encI (ofZ (toZ (mkI (!(((ofZ (toZ x)).neg) == ((ofZ (toZ y)).neg))) (val (ofNat (val (ofNat (Int.natAbs (toZ x))) / val (ofNat (Int.natAbs (toZ y))))))) - toZ (ofZ 1)))))) (d := (encI (ofZ (toZ (mkI (!(((ofZ (toZ x)).neg) == ((ofZ (toZ y)).neg))) (val (ofNat (val (ofNat (Int.natAbs (toZ x))) / val (ofNat (Int.natAbs (toZ y))))))) - toZ (ofZ 1))))) rfl rfl sh49 rfl rfl (res_a (cs := (bx (encI (ofZ (toZ (ofZ (toZ x)) - toZ (ofZ (toZ (ofZ (toZ (mkI (!(((ofZ (toZ x)).neg) == ((ofZ (toZ y)).neg))) (val (ofNat (val (ofNat (Int.natAbs (toZ x))) / val (ofNat (Int.natAbs (toZ y))))))) - toZ (ofZ 1))) * toZ (ofZ (toZ y))))))))) (d := (encI (ofZ (toZ (ofZ (toZ x)) - toZ (ofZ (toZ (ofZ (toZ (mkI (!(((ofZ (toZ x)).neg) == ((ofZ (toZ y)).neg))) (val (ofNat (val (ofNat (Int.natAbs (toZ x))) / val (ofNat (Int.natAbs (toZ y))))))) - toZ (ofZ 1))) * toZ (ofZ (toZ y)))))))) rfl rfl sh49 rfl rfl (.tmp (d := (.val (.int .i64 (0)))) rfl .nil))), ?_⟩
      rw [hk, r_rem_eq]; rfl
    · have hqm := gs_mul (mkI (!((ofZ (toZ x)).neg == (ofZ (toZ y)).neg)) (val (ofNat (val (ofNat (Int.natAbs (toZ x))) / val (ofNat (Int.natAbs (toZ y))))))) (ofZ (toZ y))
      have hk := r_div_same (X := toZ x) (Y := toZ y) hy1 (by rw [Bool.and_eq_false_iff, Bool.not_eq_false', beq_iff_eq, decide_eq_false_iff_not] at h3; exact h3)
      refine pwp_skip <| pwp_seq <| kd [(6, (vin 0))] [(2, some (bx (encI (mkI (!(((ofZ (toZ x)).neg) == ((ofZ (toZ y)).neg))) (val (ofNat (val (ofNat (Int.natAbs (toZ x))) / val (ofNat (Int.natAbs (toZ y)))))))))), (3, some (bx (encI (ofZ (toZ (ofZ (toZ x)) - toZ (ofZ (toZ (mkI (!(((ofZ (toZ x)).neg) == ((ofZ (toZ y)).neg))) (val (ofNat (val (ofNat (Int.natAbs (toZ x))) / val (ofNat (Int.natAbs (toZ y))))))) * toZ (ofZ (toZ y)))))))))] mo (wR (oLa sh49) <| wR (oLa sh49) <| wR (oLa sh49) <| wR (oLa sh49) <| wE (oCl (r_mul (mkI (!(((ofZ (toZ x)).neg) == ((ofZ (toZ y)).neg))) (val (ofNat (val (ofNat (Int.natAbs (toZ x))) / val (ofNat (Int.natAbs (toZ y))))))) (ofZ (toZ y)) (by omega) (by omega))) <| wE (oCl (r_sub (ofZ (toZ x)) (ofZ (toZ (mkI (!(((ofZ (toZ x)).neg) == ((ofZ (toZ y)).neg))) (val (ofNat (val (ofNat (Int.natAbs (toZ x))) / val (ofNat (Int.natAbs (toZ y))))))) * toZ (ofZ (toZ y)))) (by omega) (by omega))) <| wT (oSt sh49) <| wT (oSt sh49) <| wM <| wZ) ?_
      refine pwp_ret ⟨_, (res_a (cs := (bx (encI (mkI (!(((ofZ (toZ x)).neg) == ((ofZ (toZ y)).neg))) (val (ofNat (val (ofNat (Int.natAbs (toZ x))) / val (ofNat (Int.natAbs (toZ y)))))))))) (d := (encI (mkI (!(((ofZ (toZ x)).neg) == ((ofZ (toZ y)).neg))) (val (ofNat (val (ofNat (Int.natAbs (toZ x))) / val (ofNat (Int.natAbs (toZ y))))))))) rfl rfl sh49 rfl rfl (res_a (cs := (bx (encI (ofZ (toZ (ofZ (toZ x)) - toZ (ofZ (toZ (mkI (!(((ofZ (toZ x)).neg) == ((ofZ (toZ y)).neg))) (val (ofNat (val (ofNat (Int.natAbs (toZ x))) / val (ofNat (Int.natAbs (toZ y))))))) * toZ (ofZ (toZ y))))))))) (d := (encI (ofZ (toZ (ofZ (toZ x)) - toZ (ofZ (toZ (mkI (!(((ofZ (toZ x)).neg) == ((ofZ (toZ y)).neg))) (val (ofNat (val (ofNat (Int.natAbs (toZ x))) / val (ofNat (Int.natAbs (toZ y))))))) * toZ (ofZ (toZ y)))))))) rfl rfl sh49 rfl rfl (.tmp (d := (.val (.int .i64 (0)))) rfl .nil))), ?_⟩
      rw [hk, r_rem_eq]; rfl
end Go.Proofs.YtihgdjljnaekmaaGreat
namespace Go.Proofs.YtihgdjljnaekmaaGreat
open Go.Fid
set_option maxRecDepth 4000
set_option linter.unusedVariables false
set_option linter.unusedSimpArgs false
theorem s_neg {x : RInt} {a : Int} {m : Nat} (hx : IOk x a m) (hm : m ≤ 274877906944) : Takes Tryz.prog 177 [(encI x)] (encI (ofZ (-a))) := by
  obtain ⟨rfl, hx'⟩ := hx
  exact t_neg x (by omega)
theorem s_sign {x : RInt} {a : Int} {m : Nat} (hx : IOk x a m) (hm : m ≤ 274877906944) : Takes Tryz.prog 139 [(encI x)] (.val (.int .i64 (signI a))) := by
  obtain ⟨rfl, hx'⟩ := hx
  exact t_sign x (by omega)
theorem s_add {x y : RInt} {a b : Int} {m n : Nat} (hx : IOk x a m) (hy : IOk y b n) (hm : m ≤ 274877906944) (hn : n ≤ 274877906944) : Takes Tryz.prog 120 [(encI x), (encI y)] (encI (ofZ (a + b))) := by
  obtain ⟨rfl, hx'⟩ := hx; obtain ⟨rfl, hy'⟩ := hy
  exact t_add x y (by omega) (by omega)
theorem s_mul {x y : RInt} {a b : Int} {m n : Nat} (hx : IOk x a m) (hy : IOk y b n) (hm : m ≤ 274877906944) (hn : n ≤ 274877906944) : Takes Tryz.prog 106 [(encI x), (encI y)] (encI (ofZ (a * b))) := by
  obtain ⟨rfl, hx'⟩ := hx; obtain ⟨rfl, hy'⟩ := hy
  exact t_mul x y (by omega) (by omega)
theorem s_compare {x y : RInt} {a b : Int} {m n : Nat} (hx : IOk x a m) (hy : IOk y b n) (hm : m ≤ 274877906944) (hn : n ≤ 274877906944) : Takes Tryz.prog 140 [(encI x), (encI y)] (.val (.int .i64 (cmpI a b))) := by
  obtain ⟨rfl, hx'⟩ := hx; obtain ⟨rfl, hy'⟩ := hy
  exact t_compareI x y (by omega) (by omega)
theorem s_gcd {x y : RInt} {a b : Int} {m n : Nat} (hx : IOk x a m) (hy : IOk y b n) (hm : m ≤ 274877906944) (hn : n ≤ 274877906944) : Takes Tryz.prog 141 [(encI x), (encI y)] (encI (ofZ ((Int.gcd a b : Nat) : Int))) := by
  obtain ⟨rfl, hx'⟩ := hx; obtain ⟨rfl, hy'⟩ := hy
  exact t_gcdI x y (by omega) (by omega)
theorem s_divide {x y : RInt} {a b : Int} {m n : Nat} (hx : IOk x a m) (hy : IOk y b n) (hm : m ≤ 274877906944) (hn : n ≤ 274877906944) (hb : b ≠ 0) : Takes Tryz.prog 178 [(encI x), (encI y)] (.tup [(encI (ofZ (a.fdiv b))), (encI (ofZ (a.fmod b))), (.val (.int .i64 0))]) := by
  obtain ⟨rfl, hx'⟩ := hx; obtain ⟨rfl, hy'⟩ := hy
  exact t_divideI x y (by omega) (by omega) hb
theorem rs_neg {x : RInt} {a : Int} {m : Nat} (hx : IOk x a m) (hm : m ≤ 274877906944) : Takes Tryz.prog 183 [(encI x)] (encI (ofZ (-a))) := by
  obtain ⟨rfl, hx'⟩ := hx
  exact r_neg x (by omega)
theorem rs_sign {x : RInt} {a : Int} {m : Nat} (hx : IOk x a m) (hm : m ≤ 274877906944) : Takes Tryz.prog 62 [(encI x)] (.val (.int .i64 (signI a))) := by
  obtain ⟨rfl, hx'⟩ := hx
  exact r_sign x (by omega)
theorem rs_compare {x y : RInt} {a b : Int} {m n : Nat} (hx : IOk x a m) (hy : IOk y b n) (hm : m ≤ 274877906944) (hn : n ≤ 274877906944) : Takes Tryz.prog 131 [(encI x), (encI y)] (.val (.int .i64 (cmpI a b))) := by
  obtain ⟨rfl, hx'⟩ := hx; obtain ⟨rfl, hy'⟩ := hy
  exact r_compare x y (by omega) (by omega)
theorem rs_gcd {x y : RInt} {a b : Int} {m n : Nat} (hx : IOk x a m) (hy : IOk y b n) (hm : m ≤ 274877906944) (hn : n ≤ 274877906944) : Takes Tryz.prog 132 [(encI x), (encI y)] (encI (ofZ ((Int.gcd a b : Nat) : Int))) := by
  obtain ⟨rfl, hx'⟩ := hx; obtain ⟨rfl, hy'⟩ := hy
  exact r_gcd x y (by omega) (by omega)
theorem rs_divide {x y : RInt} {a b : Int} {m n : Nat} (hx : IOk x a m) (hy : IOk y b n) (hm : m ≤ 274877906944) (hn : n ≤ 274877906944) (hb : b ≠ 0) : Takes Tryz.prog 184 [(encI x), (encI y)] (.tup [(encI (ofZ (a.fdiv b))), (encI (ofZ (a.fmod b))), (.val (.int .i64 0))]) := by
  obtain ⟨rfl, hx'⟩ := hx; obtain ⟨rfl, hy'⟩ := hy
  exact r_divide x y (by omega) (by omega) hb
end Go.Proofs.YtihgdjljnaekmaaGreat
namespace Go.Proofs.YtihgdjljnaekmaaGreat
open Go.Fid
set_option maxRecDepth 4000
set_option linter.unusedVariables false
set_option linter.unusedSimpArgs false
theorem cb83 : callB Tryz.prog 83 = true := by kernel_rfl
theorem cb84 : callB Tryz.prog 84 = true := by kernel_rfl
theorem cb85 : callB Tryz.prog 85 = true := by kernel_rfl
theorem cb86 : callB Tryz.prog 86 = true := by kernel_rfl
theorem cb108 : callB Tryz.prog 108 = true := by kernel_rfl
theorem cb142 : callB Tryz.prog 142 = true := by kernel_rfl
theorem cb149 : callB Tryz.prog 149 = true := by kernel_rfl
theorem cb152 : callB Tryz.prog 152 = true := by kernel_rfl
theorem cb153 : callB Tryz.prog 153 = true := by kernel_rfl
theorem cb176 : callB Tryz.prog 176 = true := by kernel_rfl
theorem fo51_0 : fieldB Tryz.prog 51 0 = some 0 := by kernel_rfl
theorem fo51_1 : fieldB Tryz.prog 51 1 = some 2 := by kernel_rfl
theorem ft51_0 : fieldT Tryz.prog 51 0 = some (0, 49) := by kernel_rfl
theorem pl51 : placesB Tryz.prog 51 = some [(0, 2), (2, 2)] := by kernel_rfl
theorem sh51 : shapeB Tryz.prog 51 = some (true, 4) := by kernel_rfl
theorem ze51 : zeroB Tryz.prog 51 = some [.bool false, .slice none 0 0, .bool false, .slice none 0 0] := by kernel_rfl
theorem zo51 : ZOk [.bool false, .slice none 0 0, .bool false, .slice none 0 0] [.val (.bool false), .sl 135 1 [], .val (.bool false), .sl 135 1 []] := by simp [ZOk, Value.oneCell']
theorem f_reduced (num den : RInt) (a b : Int) (hnum : IOk num a 68719476736) (hden : IOk den b 68719476736) (hb : b ≠ 0) : Takes Tryz.prog 149 [(encI num), (encI den)] (encR (ofQ (Rat.divInt a b))) := by
  refine fn_intro Tryz.func149 rfl cb149 rfl ?_
  show PWp _ _ _ _ ⟨[(0, (.d (encI num))), (1, (.d (encI den)))], []⟩
  refine pwp_seq <| kx [(2, (.ref 0 0)), (3, (.ref 1 0)), (4, (.ref 2 0))] [(0, some (bx (encI num))), (1, some (bx (encI den))), (2, some (bx (encR (RRat.mk (RInt.mk false []) (RInt.mk false [])))))] (zN (oBx 0) <| zN (oBx 1) <| zN (oAl 2 ze51 zo51) <| zZ) ?_
  refine pwp_seq <| pwp_seq <| kx [(8, (vb (decide ((signI b) < 0))))] [] (zR (oLa sh49) <| zE (oCl (s_sign hden (by decide))) <| zE oLt <| zZ) ?_
  refine pwp_cond (b := decide ((signI b) < 0)) rfl (fun h1 => ?_) (fun h1 => ?_)
  · replace h1 := of_decide_eq_true h1
    have hlt := signI_lt.1 h1
    have hb2 : -b ≠ 0 := by omega
    refine kd [] [(0, some (bx (encI (ofZ (-a))))), (1, some (bx (encI (ofZ (-b)))))] mo (wR (oLa sh49) <| wE (oCl (s_neg hnum (by decide))) <| wR (oLa sh49) <| wE (oCl (s_neg hden (by decide))) <| wT (oSt sh49) <| wT (oSt sh49) <| wZ) ?_
    refine pwp_seq <| kx [(5, (.ref 3 0))] [(3, some (bx (encI (ofZ ((Int.gcd (-a) (-b) : Nat) : Int)))))] (zR (oLa sh49) <| zR (oLa sh49) <| zE (oCl (s_gcd (iok_neg hnum) (iok_neg hden) (by decide) (by decide))) <| zN (oAl 3 ze49 zo49) <| zT (oSt sh49) <| zZ) ?_
    refine pwp_seq <| kx [] [(0, some (bx (encI (ofZ ((-a).fdiv (((Int.gcd (-a) (-b) : Nat) : Int)))))))] (zR (oLa sh49) <| zR (oLa sh49) <| zE (oCl (s_divide (iok_neg hnum) (iok_gcd (k := 68719476736) (iok_neg hnum) (iok_neg hden) (by decide)) (by decide) (by decide) (gcd_ne (by omega)))) <| zM <| zE oEx <| zE oEx <| zE oEx <| zT (oSt sh49) <| zZ) ?_
    refine pwp_seq <| kx [] [(1, some (bx (encI (ofZ ((-b).fdiv (((Int.gcd (-a) (-b) : Nat) : Int)))))))] (zR (oLa sh49) <| zR (oLa sh49) <| zE (oCl (s_divide (iok_neg hden) (iok_gcd (k := 68719476736) (iok_neg hnum) (iok_neg hden) (by decide)) (by decide) (by decide) (gcd_ne (by omega)))) <| zM <| zE oEx <| zE oEx <| zE oEx <| zT (oSt sh49) <| zZ) ?_
    refine pwp_seq <| kx [] [(2, some (bx (encR (RRat.mk (ofZ ((-a).fdiv (((Int.gcd (-a) (-b) : Nat) : Int)))) (ofZ ((-b).fdiv (((Int.gcd (-a) (-b) : Nat) : Int))))))))] (zR (oLa sh49) <| zR (oLa sh49) <| zE (oBd pl51 ze51 zo51) <| zT (oSt sh51) <| zZ) ?_
    refine pwp_ret ⟨_, (res_a (cs := (bx (encR (RRat.mk (ofZ ((-a).fdiv (((Int.gcd (-a) (-b) : Nat) : Int)))) (ofZ ((-b).fdiv (((Int.gcd (-a) (-b) : Nat) : Int)))))))) (d := (encR (RRat.mk (ofZ ((-a).fdiv (((Int.gcd (-a) (-b) : Nat) : Int)))) (ofZ ((-b).fdiv (((Int.gcd (-a) (-b) : Nat) : Int))))))) rfl rfl sh51 rfl rfl .nil), ?_⟩
    rw [red_neg hlt]; rfl
  · replace h1 := of_decide_eq_false h1
    have hge : ¬ b < 0 := fun hh => h1 (signI_lt.2 hh)
    refine pwp_skip <| pwp_seq <| kx [(5, (.ref 4 0))] [(4, some (bx (encI (ofZ ((Int.gcd a b : Nat) : Int)))))] (zR (oLa sh49) <| zR (oLa sh49) <| zE (oCl (s_gcd hnum hden (by decide) (by decide))) <| zN (oAl 4 ze49 zo49) <| zT (oSt sh49) <| zZ) ?_
    refine pwp_seq <| kx [] [(0, some (bx (encI (ofZ (a.fdiv (((Int.gcd a b : Nat) : Int)))))))] (zR (oLa sh49) <| zR (oLa sh49) <| zE (oCl (s_divide hnum (iok_gcd (k := 68719476736) hnum hden (by decide)) (by decide) (by decide) (gcd_ne (by omega)))) <| zM <| zE oEx <| zE oEx <| zE oEx <| zT (oSt sh49) <| zZ) ?_
    refine pwp_seq <| kx [] [(1, some (bx (encI (ofZ (b.fdiv (((Int.gcd a b : Nat) : Int)))))))] (zR (oLa sh49) <| zR (oLa sh49) <| zE (oCl (s_divide hden (iok_gcd (k := 68719476736) hnum hden (by decide)) (by decide) (by decide) (gcd_ne (by omega)))) <| zM <| zE oEx <| zE oEx <| zE oEx <| zT (oSt sh49) <| zZ) ?_
    refine pwp_seq <| kx [] [(2, some (bx (encR (RRat.mk (ofZ (a.fdiv (((Int.gcd a b : Nat) : Int)))) (ofZ (b.fdiv (((Int.gcd a b : Nat) : Int))))))))] (zR (oLa sh49) <| zR (oLa sh49) <| zE (oBd pl51 ze51 zo51) <| zT (oSt sh51) <| zZ) ?_
    refine pwp_ret ⟨_, (res_a (cs := (bx (encR (RRat.mk (ofZ (a.fdiv (((Int.gcd a b : Nat) : Int)))) (ofZ (b.fdiv (((Int.gcd a b : Nat) : Int)))))))) (d := (encR (RRat.mk (ofZ (a.fdiv (((Int.gcd a b : Nat) : Int)))) (ofZ (b.fdiv (((Int.gcd a b : Nat) : Int))))))) rfl rfl sh51 rfl rfl .nil), ?_⟩
    rw [red_pos hge hb]; rfl
theorem f_whole (n : Int) (hlo : -9223372036854775808 ≤ n) (hhi : n ≤ 9223372036854775807) : Takes Tryz.prog 86 [(.val (.int .i64 (n)))] (encR (ofQ ((n : Int) : Rat))) := by
  refine fn_intro Tryz.func86 rfl cb86 rfl ?_
  show PWp _ _ _ _ ⟨[(0, (vi n))], []⟩
  refine pwp_seq <| kx [(2, (.ref 0 0))] [(0, some (bx (encR (RRat.mk (RInt.mk false []) (RInt.mk false [])))))] (zN (oAl 0 ze51 zo51) <| zZ) ?_
  refine pwp_seq <| kx [] [(0, some (bx (encR (RRat.mk (ofZ n) (ofZ 1)))))] (zM <| zE (oCl (t_of n (by omega) (by omega))) <| zE (oCl (t_of 1 (by decide) (by decide))) <| zE (oBd pl51 ze51 zo51) <| zT (oSt sh51) <| zZ) ?_
  refine pwp_ret ⟨_, (res_a (cs := (bx (encR (RRat.mk (ofZ n) (ofZ 1))))) (d := (encR (RRat.mk (ofZ n) (ofZ 1)))) rfl rfl sh51 rfl rfl .nil), ?_⟩
  rfl
theorem f_valid (x : RRat) (p : Rat) (hx : QOk x p 17179869184) : Takes Tryz.prog 83 [(encR x)] (.val (.bool ((validR x)))) := by
  refine fn_intro Tryz.func83 rfl cb83 rfl ?_
  show PWp _ _ _ _ ⟨[(0, (.d (encR x)))], []⟩
  refine pwp_seq <| kx [(1, (.ref 0 0))] [(0, some (bx (encR x)))] (zN (oBx 0) <| zM <| zZ) ?_
  refine pwp_seq <| pwp_seq <| kx [(18, (vb ((!(validI x.num) || !(validI x.den)) || decide ((signI (toZ x.den)) ≤ 0))))] [] ?_ ?_
  · refine zE (oFr fo51_0) <| zR (oLa sh49) <| zE (oCl (t_valid x.num (Nat.le_trans (iok_raw hx.n1).l (by decide)))) <| zE oNt <| zE (oV (vb (!(validI x.num))) (mv_ok (by kernel_rfl))) <| ?_
    rcases hb1 : (!(validI x.num)) with _ | _
    · refine zE (oFr fo51_1) <| zR (oLa sh49) <| zE (oCl (t_valid x.den (Nat.le_trans (iok_raw hx.n2).l (by decide)))) <| zE oNt <| zE oPo <| zE (oV (vb (false || !(validI x.den))) (mv_ok (by kernel_rfl))) <| ?_
      rcases hb2 : (false || !(validI x.den)) with _ | _
      · exact zE (oFr fo51_1) <| zR (oLa sh49) <| zE (oCl (s_sign (iok_raw hx.n2) (by decide))) <| zE oLe <| zE oPo <| zZ
      · exact zK <| zK <| zK <| zK <| zE oPt <| zZ
    · exact zK <| zK <| zK <| zK <| zE oPt <| zM <| zK <| zK <| zK <| zK <| zE oPt <| zZ
  refine pwp_cond rfl (fun h3 => ?_) (fun h3 => ?_)
  · refine pwp_seq <| kx [(2, (vb false))] [] (zM <| zZ) ?_
    refine pwp_ret ⟨_, (.tmp (d := (.val (.bool (false)))) rfl .nil), ?_⟩
    rw [validR_no h3]; rfl
  · refine pwp_skip <| pwp_seq <| kx [(2, (vb ((cmpI (((Int.gcd (toZ x.num) (toZ x.den) : Nat) : Int)) 1) == 0)))] [] (zE (oFr fo51_0) <| zR (oLa sh49) <| zE (oFr fo51_1) <| zR (oLa sh49) <| zE (oCl (s_gcd (iok_raw hx.n1) (iok_raw hx.n2) (by decide) (by decide))) <| zE (oCl (t_of 1 (by decide) (by decide))) <| zE (oCl (s_compare (iok_gcd (k := 17179869184) (iok_raw hx.n1) (iok_raw hx.n2) (by decide)) (iok_small (z := 1) (by decide)) (by decide) (by decide))) <| zE oEq <| zM <| zZ) ?_
    refine pwp_ret ⟨_, (.tmp (d := (.val (.bool (((cmpI (((Int.gcd (toZ x.num) (toZ x.den) : Nat) : Int)) 1) == 0))))) rfl .nil), ?_⟩
    rw [validR_yes h3]; rfl
theorem f_copied (x : RRat) (p : Rat) (hx : QOk x p 17179869184) : Takes Tryz.prog 176 [(encR x)] (encR (RRat.mk (ofZ (-(-toZ x.num))) (ofZ (-(-toZ x.den))))) := by
  refine fn_intro Tryz.func176 rfl cb176 rfl ?_
  show PWp _ _ _ _ ⟨[(0, (.d (encR x)))], []⟩
  refine pwp_seq <| kx [(1, (.ref 0 0)), (2, (.ref 1 0))] [(0, some (bx (encR x))), (1, some (bx (encR (RRat.mk (RInt.mk false []) (RInt.mk false [])))))] (zN (oBx 0) <| zN (oAl 1 ze51 zo51) <| zZ) ?_
  refine pwp_seq <| kd [] [(1, some (bx (encR (RRat.mk (ofZ (-(-(toZ x.num)))) (ofZ (-(-(toZ x.den))))))))] mo (wE (oFr fo51_0) <| wR (oLa sh49) <| wE (oCl (s_neg (iok_raw hx.n1) (by decide))) <| wE (oCl (s_neg (iok_neg (iok_raw hx.n1)) (by decide))) <| wE (oFr fo51_1) <| wR (oLa sh49) <| wE (oCl (s_neg (iok_raw hx.n2) (by decide))) <| wE (oCl (s_neg (iok_neg (iok_raw hx.n2)) (by decide))) <| wE (oBd pl51 ze51 zo51) <| wT (oSt sh51) <| wZ) ?_
  refine pwp_ret ⟨_, (res_a (cs := (bx (encR (RRat.mk (ofZ (-(-(toZ x.num)))) (ofZ (-(-(toZ x.den)))))))) (d := (encR (RRat.mk (ofZ (-(-(toZ x.num)))) (ofZ (-(-(toZ x.den))))))) rfl rfl sh51 rfl rfl .nil), ?_⟩
  rfl
theorem f_value (x : RRat) (p : Rat) (hx : QOk x p 17179869184) : Takes Tryz.prog 142 [(encR x)] (encR (ofQ p)) := by
  refine fn_intro Tryz.func142 rfl cb142 rfl ?_
  show PWp _ _ _ _ ⟨[(0, (.d (encR x)))], []⟩
  refine pwp_seq <| kx [(1, (.ref 0 0)), (2, (.ref 1 0))] [(0, some (bx (encR x))), (1, some (bx (encR (RRat.mk (RInt.mk false []) (RInt.mk false [])))))] (zN (oBx 0) <| zN (oAl 1 ze51 zo51) <| zZ) ?_
  refine pwp_seq <| pwp_seq <| kx [(4, (vb (validR x)))] [] (zR (oLa sh51) <| zE (oCl (f_valid x p hx)) <| zZ) ?_
  refine pwp_cond (b := (validR x)) rfl (fun h1 => ?_) (fun h1 => ?_)
  · refine pwp_seq <| kx [] [(1, some (bx (encR (RRat.mk (ofZ (-(-toZ x.num))) (ofZ (-(-toZ x.den)))))))] (zR (oLa sh51) <| zE (oCl (f_copied x p hx)) <| zT (oSt sh51) <| zZ) ?_
    refine pwp_ret ⟨_, (res_a (cs := (bx (encR (RRat.mk (ofZ (-(-toZ x.num))) (ofZ (-(-toZ x.den))))))) (d := (encR (RRat.mk (ofZ (-(-toZ x.num))) (ofZ (-(-toZ x.den)))))) rfl rfl sh51 rfl rfl .nil), ?_⟩
    rw [← hx.v, ← copied_eq h1]; rfl
  · refine pwp_skip <| pwp_seq <| kx [] [(1, some (bx (encR (ofQ ((0 : Int) : Rat)))))] (zE (oCl (f_whole 0 (by decide) (by decide))) <| zT (oSt sh51) <| zZ) ?_
    refine pwp_ret ⟨_, (res_a (cs := (bx (encR (ofQ ((0 : Int) : Rat))))) (d := (encR (ofQ ((0 : Int) : Rat)))) rfl rfl sh51 rfl rfl .nil), ?_⟩
    rw [← hx.v, toQ_bad h1]; rfl
theorem f_sign (x : RRat) (p : Rat) (hx : QOk x p 17179869184) : Takes Tryz.prog 84 [(encR x)] (.val (.int .i64 ((signQ p)))) := by
  refine fn_intro Tryz.func84 rfl cb84 rfl ?_
  show PWp _ _ _ _ ⟨[(0, (.d (encR x)))], []⟩
  refine pwp_seq <| kx [(1, (.ref 0 0))] [(0, some (bx (encR x)))] (zN (oBx 0) <| zM <| zZ) ?_
  refine pwp_seq <| kx [(2, (vi (signI p.num)))] [] (zR (oLa sh51) <| zE (oCl (f_value x p hx)) <| zE (oFv ft51_0 sh49) <| zE (oCl (s_sign (qok_num hx.ql) (by decide))) <| zM <| zZ) ?_
  refine pwp_ret ⟨_, (.tmp (d := (.val (.int .i64 ((signI p.num))))) rfl .nil), ?_⟩
  rfl
theorem f_neg (x : RRat) (p : Rat) (hx : QOk x p 17179869184) : Takes Tryz.prog 153 [(encR x)] (encR (ofQ (-p))) := by
  refine fn_intro Tryz.func153 rfl cb153 rfl ?_
  show PWp _ _ _ _ ⟨[(0, (.d (encR x)))], []⟩
  refine pwp_seq <| kx [(1, (.ref 0 0)), (2, (.ref 1 0))] [(0, some (bx (encR x))), (1, some (bx (encR (RRat.mk (RInt.mk false []) (RInt.mk false [])))))] (zN (oBx 0) <| zN (oAl 1 ze51 zo51) <| zZ) ?_
  refine pwp_seq <| kx [] [(0, some (bx (encR (ofQ p))))] (zR (oLa sh51) <| zE (oCl (f_value x p hx)) <| zT (oSt sh51) <| zZ) ?_
  refine pwp_seq <| kd [] [(1, some (bx (encR (RRat.mk (ofZ (-p.num)) ((ofQ p).den)))))] mo (wE (oFr fo51_0) <| wR (oLa sh49) <| wE (oCl (s_neg (qok_num hx.ql) (by decide))) <| wE (oFr fo51_1) <| wR (oLa sh49) <| wE (oBd pl51 ze51 zo51) <| wT (oSt sh51) <| wZ) ?_
  refine pwp_ret ⟨_, (res_a (cs := (bx (encR (RRat.mk (ofZ (-p.num)) ((ofQ p).den))))) (d := (encR (RRat.mk (ofZ (-p.num)) ((ofQ p).den)))) rfl rfl sh51 rfl rfl .nil), ?_⟩
  rfl
theorem f_add (x : RRat) (y : RRat) (p : Rat) (q : Rat) (hx : QOk x p 17179869184) (hy : QOk y q 17179869184) : Takes Tryz.prog 152 [(encR x), (encR y)] (encR (ofQ (p + q))) := by
  refine fn_intro Tryz.func152 rfl cb152 rfl ?_
  show PWp _ _ _ _ ⟨[(0, (.d (encR x))), (1, (.d (encR y)))], []⟩
  refine pwp_seq <| kx [(2, (.ref 0 0)), (3, (.ref 1 0)), (4, (.ref 2 0))] [(0, some (bx (encR x))), (1, some (bx (encR y))), (2, some (bx (encR (RRat.mk (RInt.mk false []) (RInt.mk false [])))))] (zN (oBx 0) <| zN (oBx 1) <| zN (oAl 2 ze51 zo51) <| zZ) ?_
  refine pwp_seq <| kd [] [(0, some (bx (encR (ofQ p)))), (1, some (bx (encR (ofQ q))))] mo (wR (oLa sh51) <| wE (oCl (f_value x p hx)) <| wR (oLa sh51) <| wE (oCl (f_value y q hy)) <| wT (oSt sh51) <| wT (oSt sh51) <| wZ) ?_
  refine pwp_seq <| kd [] [(2, some (bx (encR (ofQ (Rat.divInt ((p.num * (q.den : Int)) + (q.num * (p.den : Int))) ((p.den : Int) * (q.den : Int)))))))] mo (wE (oFr fo51_0) <| wR (oLa sh49) <| wE (oFr fo51_1) <| wR (oLa sh49) <| wE (oCl (s_mul (qok_num hx.ql) (qok_den hy.ql) (by decide) (by decide))) <| wE (oFr fo51_0) <| wR (oLa sh49) <| wE (oFr fo51_1) <| wR (oLa sh49) <| wE (oCl (s_mul (qok_num hy.ql) (qok_den hx.ql) (by decide) (by decide))) <| wE (oCl (s_add (iok_mul (k := 34359738368) (qok_num hx.ql) (qok_den hy.ql) (by decide)) (iok_mul (k := 34359738368) (qok_num hy.ql) (qok_den hx.ql) (by decide)) (by decide) (by decide))) <| wE (oFr fo51_1) <| wR (oLa sh49) <| wE (oFr fo51_1) <| wR (oLa sh49) <| wE (oCl (s_mul (qok_den hx.ql) (qok_den hy.ql) (by decide) (by decide))) <| wE (oCl (f_reduced (ofZ ((p.num * (q.den : Int)) + (q.num * (p.den : Int)))) (ofZ ((p.den : Int) * (q.den : Int))) ((p.num * (q.den : Int)) + (q.num * (p.den : Int))) ((p.den : Int) * (q.den : Int)) (iok_up (iok_add (k := 34359738369) (iok_mul (k := 34359738368) (qok_num hx.ql) (qok_den hy.ql) (by decide)) (iok_mul (k := 34359738368) (qok_num hy.ql) (qok_den hx.ql) (by decide)) (by decide)) (by decide)) (iok_up (iok_mul (k := 34359738368) (qok_den hx.ql) (qok_den hy.ql) (by decide)) (by decide)) (mul_ne (den_ne _) (den_ne _)))) <| wT (oSt sh51) <| wZ) ?_
  refine pwp_ret ⟨_, (res_a (cs := (bx (encR (ofQ (Rat.divInt ((p.num * (q.den : Int)) + (q.num * (p.den : Int))) ((p.den : Int) * (q.den : Int))))))) (d := (encR (ofQ (Rat.divInt ((p.num * (q.den : Int)) + (q.num * (p.den : Int))) ((p.den : Int) * (q.den : Int)))))) rfl rfl sh51 rfl rfl .nil), ?_⟩
  rw [add_divInt]; rfl
theorem f_sub (x : RRat) (y : RRat) (p : Rat) (q : Rat) (hx : QOk x p 17179869184) (hy : QOk y q 17179869184) : Takes Tryz.prog 108 [(encR x), (encR y)] (encR (ofQ (p - q))) := by
  refine fn_intro Tryz.func108 rfl cb108 rfl ?_
  show PWp _ _ _ _ ⟨[(0, (.d (encR x))), (1, (.d (encR y)))], []⟩
  refine pwp_seq <| kx [(2, (.ref 0 0)), (3, (.ref 1 0)), (4, (.ref 2 0))] [(0, some (bx (encR x))), (1, some (bx (encR y))), (2, some (bx (encR (RRat.mk (RInt.mk false []) (RInt.mk false [])))))] (zN (oBx 0) <| zN (oBx 1) <| zN (oAl 2 ze51 zo51) <| zZ) ?_
  refine pwp_seq <| kd [] [(2, some (bx (encR (ofQ (p + (-q))))))] mo (wR (oLa sh51) <| wR (oLa sh51) <| wE (oCl (f_neg y q hy)) <| wE (oCl (f_add x (ofQ (-q)) p (-q) hx (qok_of (ql_neg hy.ql)))) <| wT (oSt sh51) <| wZ) ?_
  refine pwp_ret ⟨_, (res_a (cs := (bx (encR (ofQ (p + (-q)))))) (d := (encR (ofQ (p + (-q))))) rfl rfl sh51 rfl rfl .nil), ?_⟩
  rw [Rat.sub_eq_add_neg]; rfl
theorem f_compare (x : RRat) (y : RRat) (p : Rat) (q : Rat) (hx : QOk x p 17179869184) (hy : QOk y q 17179869184) : Takes Tryz.prog 85 [(encR x), (encR y)] (.val (.int .i64 ((cmpQ p q)))) := by
  refine fn_intro Tryz.func85 rfl cb85 rfl ?_
  show PWp _ _ _ _ ⟨[(0, (.d (encR x))), (1, (.d (encR y)))], []⟩
  refine pwp_seq <| kx [(2, (.ref 0 0)), (3, (.ref 1 0))] [(0, some (bx (encR x))), (1, some (bx (encR y)))] (zN (oBx 0) <| zN (oBx 1) <| zM <| zZ) ?_
  refine pwp_seq <| kd [] [(0, some (bx (encR (ofQ p)))), (1, some (bx (encR (ofQ q))))] mo (wR (oLa sh51) <| wE (oCl (f_value x p hx)) <| wR (oLa sh51) <| wE (oCl (f_value y q hy)) <| wT (oSt sh51) <| wT (oSt sh51) <| wZ) ?_
  refine pwp_seq <| kd [(4, (vi (cmpI (p.num * (q.den : Int)) (q.num * (p.den : Int)))))] [] mo (wE (oFr fo51_0) <| wR (oLa sh49) <| wE (oFr fo51_1) <| wR (oLa sh49) <| wE (oCl (s_mul (qok_num hx.ql) (qok_den hy.ql) (by decide) (by decide))) <| wE (oFr fo51_0) <| wR (oLa sh49) <| wE (oFr fo51_1) <| wR (oLa sh49) <| wE (oCl (s_mul (qok_num hy.ql) (qok_den hx.ql) (by decide) (by decide))) <| wE (oCl (s_compare (iok_mul (k := 34359738368) (qok_num hx.ql) (qok_den hy.ql) (by decide)) (iok_mul (k := 34359738368) (qok_num hy.ql) (qok_den hx.ql) (by decide)) (by decide) (by decide))) <| wM <| wZ) ?_
  refine pwp_ret ⟨_, (.tmp (d := (.val (.int .i64 ((cmpI (p.num * (q.den : Int)) (q.num * (p.den : Int))))))) rfl .nil), ?_⟩
  rw [← cmpQ_cross]; rfl
end Go.Proofs.YtihgdjljnaekmaaGreat
namespace Go.Proofs.YtihgdjljnaekmaaGreat
open Go.Fid
set_option maxRecDepth 4000
set_option linter.unusedVariables false
set_option linter.unusedSimpArgs false
theorem cb122 : callB Tryz.prog 122 = true := by kernel_rfl
theorem cb123 : callB Tryz.prog 123 = true := by kernel_rfl
theorem cb159 : callB Tryz.prog 159 = true := by kernel_rfl
theorem g_reduced (num den : RInt) (a b : Int) (hnum : IOk num a 68719476736) (hden : IOk den b 68719476736) (hb : b ≠ 0) : Takes Tryz.prog 159 [(encI num), (encI den)] (encR (ofQ (Rat.divInt a b))) := by
  refine fn_intro Tryz.func159 rfl cb159 rfl ?_
  show PWp _ _ _ _ ⟨[(0, (.d (encI num))), (1, (.d (encI den)))], []⟩
  refine pwp_seq <| kx [(2, (.ref 0 0)), (3, (.ref 1 0)), (4, (.ref 2 0))] [(0, some (bx (encI num))), (1, some (bx (encI den))), (2, some (bx (encR (RRat.mk (RInt.mk false []) (RInt.mk false [])))))] (zN (oBx 0) <| zN (oBx 1) <| zN (oAl 2 ze51 zo51) <| zZ) ?_
  refine pwp_seq <| kx [(5, (.ref 3 0))] [(3, some (bx (encI (ofZ ((Int.gcd a b : Nat) : Int)))))] (zR (oLa sh49) <| zR (oLa sh49) <| zE (oCl (rs_gcd hnum hden (by decide) (by decide))) <| zN (oAl 3 ze49 zo49) <| zT (oSt sh49) <| zZ) ?_
  refine pwp_seq <| pwp_seq <| kx [(17, (vb (decide ((signI b) < 0))))] [] (zR (oLa sh49) <| zE (oCl (rs_sign hden (by decide))) <| zE oLt <| zZ) ?_
  refine pwp_cond (b := decide ((signI b) < 0)) rfl (fun h1 => ?_) (fun h1 => ?_)
  · replace h1 := of_decide_eq_true h1
    have hlt := signI_lt.1 h1
    refine kx [] [(3, some (bx (encI (ofZ (-(((Int.gcd a b : Nat) : Int)))))))] (zR (oLa sh49) <| zE (oCl (rs_neg (iok_gcd (k := 68719476736) hnum hden (by decide)) (by decide))) <| zT (oSt sh49) <| zZ) ?_
    refine pwp_seq <| kx [(6, (.ref 4 0))] [(4, some (bx (encI (ofZ (a.fdiv (-(((Int.gcd a b : Nat) : Int)))))))), (5, none)] (zR (oLa sh49) <| zR (oLa sh49) <| zE (oCl (rs_divide hnum (iok_neg (iok_gcd (k := 68719476736) hnum hden (by decide))) (by decide) (by decide) (by have := gcd_ne (a := a) hb; omega))) <| zM <| zE oEx <| zE oEx <| zE oEx <| zN (oAl 4 ze49 zo49) <| zN (oAl 5 ze49 zo49) <| zT (oSt sh49) <| zT (oSt sh49) <| zM <| zZ) ?_
    refine pwp_seq <| kx [(9, (.ref 6 0))] [(6, some (bx (encI (ofZ (b.fdiv (-(((Int.gcd a b : Nat) : Int)))))))), (7, none)] (zR (oLa sh49) <| zR (oLa sh49) <| zE (oCl (rs_divide hden (iok_neg (iok_gcd (k := 68719476736) hnum hden (by decide))) (by decide) (by decide) (by have := gcd_ne (a := a) hb; omega))) <| zM <| zE oEx <| zE oEx <| zE oEx <| zN (oAl 6 ze49 zo49) <| zN (oAl 7 ze49 zo49) <| zT (oSt sh49) <| zT (oSt sh49) <| zM <| zZ) ?_
    refine pwp_seq <| kx [] [(2, some (bx (encR (RRat.mk (ofZ (a.fdiv (-(((Int.gcd a b : Nat) : Int))))) (ofZ (b.fdiv (-(((Int.gcd a b : Nat) : Int)))))))))] (zR (oLa sh49) <| zR (oLa sh49) <| zE (oBd pl51 ze51 zo51) <| zT (oSt sh51) <| zZ) ?_
    refine pwp_ret ⟨_, (res_a (cs := (bx (encR (RRat.mk (ofZ (a.fdiv (-(((Int.gcd a b : Nat) : Int))))) (ofZ (b.fdiv (-(((Int.gcd a b : Nat) : Int))))))))) (d := (encR (RRat.mk (ofZ (a.fdiv (-(((Int.gcd a b : Nat) : Int))))) (ofZ (b.fdiv (-(((Int.gcd a b : Nat) : Int)))))))) rfl rfl sh51 rfl rfl .nil), ?_⟩
    rw [← red_neg2 hlt]; rfl
  · replace h1 := of_decide_eq_false h1
    have hge : ¬ b < 0 := fun hh => h1 (signI_lt.2 hh)
    refine pwp_skip <| pwp_seq <| kx [(6, (.ref 8 0))] [(8, some (bx (encI (ofZ (a.fdiv (((Int.gcd a b : Nat) : Int))))))), (9, none)] (zR (oLa sh49) <| zR (oLa sh49) <| zE (oCl (rs_divide hnum (iok_gcd (k := 68719476736) hnum hden (by decide)) (by decide) (by decide) (by have := gcd_ne (a := a) hb; omega))) <| zM <| zE oEx <| zE oEx <| zE oEx <| zN (oAl 8 ze49 zo49) <| zN (oAl 9 ze49 zo49) <| zT (oSt sh49) <| zT (oSt sh49) <| zM <| zZ) ?_
    refine pwp_seq <| kx [(9, (.ref 10 0))] [(10, some (bx (encI (ofZ (b.fdiv (((Int.gcd a b : Nat) : Int))))))), (11, none)] (zR (oLa sh49) <| zR (oLa sh49) <| zE (oCl (rs_divide hden (iok_gcd (k := 68719476736) hnum hden (by decide)) (by decide) (by decide) (by have := gcd_ne (a := a) hb; omega))) <| zM <| zE oEx <| zE oEx <| zE oEx <| zN (oAl 10 ze49 zo49) <| zN (oAl 11 ze49 zo49) <| zT (oSt sh49) <| zT (oSt sh49) <| zM <| zZ) ?_
    refine pwp_seq <| kx [] [(2, some (bx (encR (RRat.mk (ofZ (a.fdiv (((Int.gcd a b : Nat) : Int)))) (ofZ (b.fdiv (((Int.gcd a b : Nat) : Int))))))))] (zR (oLa sh49) <| zR (oLa sh49) <| zE (oBd pl51 ze51 zo51) <| zT (oSt sh51) <| zZ) ?_
    refine pwp_ret ⟨_, (res_a (cs := (bx (encR (RRat.mk (ofZ (a.fdiv (((Int.gcd a b : Nat) : Int)))) (ofZ (b.fdiv (((Int.gcd a b : Nat) : Int)))))))) (d := (encR (RRat.mk (ofZ (a.fdiv (((Int.gcd a b : Nat) : Int)))) (ofZ (b.fdiv (((Int.gcd a b : Nat) : Int))))))) rfl rfl sh51 rfl rfl .nil), ?_⟩
    rw [red_pos hge hb]; rfl
theorem g_whole1 (n : Int) (hlo : -9223372036854775808 ≤ n) (hhi : n ≤ 9223372036854775807) : Takes Tryz.prog 123 [(.val (.int .i64 (n)))] (encI (ofZ n)) := by
  refine fn_intro Tryz.func123 rfl cb123 rfl ?_
  show PWp _ _ _ _ ⟨[(0, (vi n))], []⟩
  refine pwp_seq <| kx [(2, (.ref 0 0))] [(0, some (bx (encI (RInt.mk false []))))] (zN (oAl 0 ze49 zo49) <| zZ) ?_
  refine pwp_seq <| kx [] [(0, some (bx (encI (ofZ n))))] (zM <| zE (oCl (r_of n (by omega) (by omega))) <| zT (oSt sh49) <| zZ) ?_
  refine pwp_ret ⟨_, (res_a (cs := (bx (encI (ofZ n)))) (d := (encI (ofZ n))) rfl rfl sh49 rfl rfl .nil), ?_⟩
  rfl
end Go.Proofs.YtihgdjljnaekmaaGreat
namespace Go.Proofs.YtihgdjljnaekmaaGreat
open Go.Fid
set_option maxRecDepth 4000
set_option linter.unusedVariables false
set_option linter.unusedSimpArgs false
end Go.Proofs.YtihgdjljnaekmaaGreat
set_option linter.unusedVariables false
set_option linter.unusedSimpArgs false
namespace Go.Fid
open Go.RowKit (Below)
section
variable {P : Program} {o : Oper} {S : Nat → SV}
theorem e_mkf {f : FuncId} {ks : List Nat} {caps : List Operand} (ho : o.op = .makeFunc (.func f) #[] caps.toArray) (hx : caps.map (ev S) = ks.map (fun k => .ref k 0)) : EOk P o S [] (.clo f ks) :=
  EOk.same fun a w D β hop _ => by
    refine ⟨.func (.func f) #[] (caps.map a.eval).toArray, ?_, caps.map a.eval, rfl, ?_, fun i k hk => ?_⟩
    · simp only [execOp, ho, Instr.makeFunc, Array.map_empty, List.map_toArray, Sem.run_bind, Sem.run_pure, Result.andThen_ok]
      rfl
    · simpa using congrArg List.length hx
    · have hi := congrArg (fun l : List SV => l[i]?) hx
      simp only [List.getElem?_map, hk, Option.map_some, Option.map_eq_some_iff] at hi
      obtain ⟨c, hc, e⟩ := hi
      have hm := hop c (by simp [ho, Op.operands, List.mem_of_getElem? hc])
      rw [e] at hm
      obtain ⟨b, h1, h2⟩ := hm
      exact ⟨b, h1, by rw [List.getElem?_map, hc, Option.map_some, h2]⟩
theorem oMf {f : FuncId} {caps : List Operand} (ks : List Nat) (ho : o.op = .makeFunc (.func f) #[] caps.toArray := by exact rfl) (hx : caps.map (ev S) = ks.map (fun k => .ref k 0) := by kernel_rfl) : EOk P o S [] (.clo f ks) := e_mkf ho hx
end
section
variable {P : Program} {n : Fr} {ops : Array Oper} {K : SL → BS → Prop} {S : SL} {B : BS} {l : List Oper} {o : Oper} {news : List Nat} {acc0 : List (List Nat × List Nat)}
end
end Go.Fid
