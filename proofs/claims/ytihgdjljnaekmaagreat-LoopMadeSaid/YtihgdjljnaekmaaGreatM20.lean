/- Part 20 of a proof: rules, plain facts, and functions walked. -/
import Derived.Test.YtihgdjljnaekmaaGreatM19
namespace Go.Proofs.YtihgdjljnaekmaaGreat
open Go.Fid
set_option maxRecDepth 4000
set_option linter.unusedVariables false
set_option linter.unusedSimpArgs false
theorem cb62 : callB Tryz.prog 62 = true := by kernel_rfl
theorem cb162 : callB Tryz.prog 162 = true := by kernel_rfl
theorem cb163 : callB Tryz.prog 163 = true := by kernel_rfl
theorem cb165 : callB Tryz.prog 165 = true := by kernel_rfl
theorem cb168 : callB Tryz.prog 168 = true := by kernel_rfl
theorem cb183 : callB Tryz.prog 183 = true := by kernel_rfl
theorem cb186 : callB Tryz.prog 186 = true := by kernel_rfl
theorem cb187 : callB Tryz.prog 187 = true := by kernel_rfl
theorem r_neg (x : RInt) (hx : x.gs.length ≤ 1099511627776) : Takes Tryz.prog 183 [(encI x)] (encI (ofZ (-toZ x))) := by
  have hvx := gs_val2 x
  refine fn_intro Tryz.func183 rfl cb183 rfl ?_
  show PWp _ _ _ _ ⟨[(0, (.d (encI x)))], []⟩
  refine pwp_seq <| kx [(1, (.ref 0 0)), (2, (.ref 1 0))] [(0, some (bx (encI x))), (1, some (bx (encI (RInt.mk false []))))] (zN (oBx 0) <| zN (oAl 1 ze49 zo49) <| zZ) ?_
  refine pwp_seq <| kx [] [(0, some (bx (encI (ofZ (toZ x)))))] (zR (oLa sh49) <| zE (oCl (r_value x (by omega))) <| zT (oSt sh49) <| zZ) ?_
  refine pwp_seq <| kx [] [(1, some (bx (encI (mkI (!((ofZ (toZ x)).neg)) (val (ofNat (Int.natAbs (toZ x))))))))] (zE (oFr fo49_0) <| zR (oL1 sh4) <| zE oNt <| zE (oFr fo49_1) <| zR (oL1 sh47) <| zE (oCl (r_made (!((ofZ (toZ x)).neg)) (ofNat (Int.natAbs (toZ x))) (by first | assumption | exact ofNat_dig _ | exact (ofNat_can _).1 | exact (grpI_can _).1) (by omega))) <| zT (oSt sh49) <| zZ) ?_
  refine pwp_ret ⟨_, (res_a (cs := (bx (encI (mkI (!((ofZ (toZ x)).neg)) (val (ofNat (Int.natAbs (toZ x)))))))) (d := (encI (mkI (!((ofZ (toZ x)).neg)) (val (ofNat (Int.natAbs (toZ x))))))) rfl rfl sh49 rfl rfl .nil), ?_⟩
  rw [← rneg_eq]; rfl
theorem r_sign (x : RInt) (hx : x.gs.length ≤ 1099511627776) : Takes Tryz.prog 62 [(encI x)] (.val (.int .i64 ((signI (toZ x))))) := by
  have hvx := gs_val2 x
  refine fn_intro Tryz.func62 rfl cb62 rfl ?_
  show PWp _ _ _ _ ⟨[(0, (.d (encI x)))], []⟩
  refine pwp_seq <| kx [(1, (.ref 0 0))] [(0, some (bx (encI x)))] (zN (oBx 0) <| zM <| zZ) ?_
  refine pwp_seq <| kx [] [(0, some (bx (encI (ofZ (toZ x)))))] (zR (oLa sh49) <| zE (oCl (r_value x (by omega))) <| zT (oSt sh49) <| zZ) ?_
  refine pwp_seq <| pwp_seq <| kx [(8, (vb ((((ofNat (Int.natAbs (toZ x))).length : Nat) : Int) == 0)))] [] (zE (oFr fo49_1) <| zR (oL1 sh47) <| zE (oLm el47 (L := (ofNat (Int.natAbs (toZ x))))) <| zE oEq <| zZ) ?_
  refine pwp_cond rfl (fun h1 => ?_) (fun h1 => ?_)
  · replace h1 := eq_of_beq h1
    refine pwp_seq <| kx [(2, (vin 0))] [] (zM <| zZ) ?_
    refine pwp_ret ⟨_, (.tmp (d := (.val (.int .i64 (0)))) rfl .nil), ?_⟩
    rw [rsign_zero h1]; rfl
  · replace h1 := ne_of_beq_false h1
    refine pwp_skip <| pwp_seq <| pwp_seq <| kx [(10, (vb ((ofZ (toZ x)).neg)))] [] (zE (oFr fo49_0) <| zR (oL1 sh4) <| zZ) ?_
    refine pwp_cond (b := (ofZ (toZ x)).neg) rfl (fun h2 => ?_) (fun h2 => ?_)
    · refine pwp_seq <| kx [(2, (vi (-1)))] [] (zM <| zZ) ?_
      refine pwp_ret ⟨_, (.tmp (d := (.val (.int .i64 (-1)))) rfl .nil), ?_⟩
      rw [rsign_neg h1 h2]; rfl
    · refine pwp_skip <| pwp_seq <| kx [(2, (vin 1))] [] (zM <| zZ) ?_
      refine pwp_ret ⟨_, (.tmp (d := (.val (.int .i64 (1)))) rfl .nil), ?_⟩
      rw [rsign_pos h1 h2]; rfl
theorem r_add (x : RInt) (y : RInt) (hx : x.gs.length ≤ 1099511627776) (hy : y.gs.length ≤ 1099511627776) : Takes Tryz.prog 186 [(encI x), (encI y)] (encI (ofZ (toZ x + toZ y))) := by
  have hvx := gs_val2 x
  have hvy := gs_val2 y
  refine fn_intro Tryz.func186 rfl cb186 rfl ?_
  show PWp _ _ _ _ ⟨[(0, (.d (encI x))), (1, (.d (encI y)))], []⟩
  refine pwp_seq <| kx [(2, (.ref 0 0)), (3, (.ref 1 0)), (4, (.ref 2 0))] [(0, some (bx (encI x))), (1, some (bx (encI y))), (2, some (bx (encI (RInt.mk false []))))] (zN (oBx 0) <| zN (oBx 1) <| zN (oAl 2 ze49 zo49) <| zZ) ?_
  refine pwp_seq <| kd [] [(0, some (bx (encI (ofZ (toZ x))))), (1, some (bx (encI (ofZ (toZ y)))))] mo (wR (oLa sh49) <| wE (oCl (r_value x (by omega))) <| wR (oLa sh49) <| wE (oCl (r_value y (by omega))) <| wT (oSt sh49) <| wT (oSt sh49) <| wZ) ?_
  refine pwp_seq <| pwp_seq <| kx [(13, (vb (((ofZ (toZ x)).neg) == ((ofZ (toZ y)).neg))))] [] (zE (oFr fo49_0) <| zR (oL1 sh4) <| zE (oFr fo49_0) <| zR (oL1 sh4) <| zE (oEb bo4) <| zZ) ?_
  refine pwp_cond rfl (fun h1 => ?_) (fun h1 => ?_)
  · replace h1 := eq_of_beq h1
    refine pwp_seq <| kd [] [(2, some (bx (encI (mkI ((ofZ (toZ x)).neg) (val (ofNat (val (ofNat (Int.natAbs (toZ x))) + val (ofNat (Int.natAbs (toZ y))))))))))] mo (wE (oFr fo49_0) <| wR (oL1 sh4) <| wE (oFr fo49_1) <| wR (oL1 sh47) <| wE (oFr fo49_1) <| wR (oL1 sh47) <| wE (oCl (r_plus (ofNat (Int.natAbs (toZ x))) (ofNat (Int.natAbs (toZ y))) (by first | assumption | exact ofNat_dig _ | exact (ofNat_can _).1 | exact (grpI_can _).1) (by first | assumption | exact ofNat_dig _ | exact (ofNat_can _).1 | exact (grpI_can _).1) (by omega) (by omega))) <| wE (oCl (r_made ((ofZ (toZ x)).neg) (ofNat (val (ofNat (Int.natAbs (toZ x))) + val (ofNat (Int.natAbs (toZ y))))) (by first | assumption | exact ofNat_dig _ | exact (ofNat_can _).1 | exact (grpI_can _).1) (by first | omega | exact Nat.le_trans (add_len (ofNat_dig _) (ofNat_dig _)) (by omega) | exact Nat.le_trans (sub_len (ofNat_dig _)) (by omega)))) <| wT (oSt sh49) <| wZ) ?_
    refine pwp_ret ⟨_, (res_a (cs := (bx (encI (mkI ((ofZ (toZ x)).neg) (val (ofNat (val (ofNat (Int.natAbs (toZ x))) + val (ofNat (Int.natAbs (toZ y)))))))))) (d := (encI (mkI ((ofZ (toZ x)).neg) (val (ofNat (val (ofNat (Int.natAbs (toZ x))) + val (ofNat (Int.natAbs (toZ y))))))))) rfl rfl sh49 rfl rfl .nil), ?_⟩
    rw [← rsum_same h1]; rfl
  · replace h1 := ne_of_beq_false h1
    refine pwp_skip <| pwp_seq <| pwp_seq <| kx [(27, (vb (decide (0 ≤ (cmpI ((val (ofNat (Int.natAbs (toZ x))) : Nat) : Int) ((val (ofNat (Int.natAbs (toZ y))) : Nat) : Int))))))] [] (zE (oFr fo49_1) <| zR (oL1 sh47) <| zE (oFr fo49_1) <| zR (oL1 sh47) <| zE (oCl (r_size (ofNat (Int.natAbs (toZ x))) (ofNat (Int.natAbs (toZ y))) (by first | assumption | exact ofNat_can _ | exact grpI_can _) (by first | assumption | exact ofNat_can _ | exact grpI_can _) (by omega) (by omega))) <| zE oGe <| zZ) ?_
    refine pwp_cond rfl (fun h2 => ?_) (fun h2 => ?_)
    · replace h2 := of_decide_eq_true h2
      refine pwp_seq <| kd [] [(2, some (bx (encI (mkI ((ofZ (toZ x)).neg) (val (ofNat (val (ofNat (Int.natAbs (toZ x))) - val (ofNat (Int.natAbs (toZ y))))))))))] mo (wE (oFr fo49_0) <| wR (oL1 sh4) <| wE (oFr fo49_1) <| wR (oL1 sh47) <| wE (oFr fo49_1) <| wR (oL1 sh47) <| wE (oCl (r_minus (ofNat (Int.natAbs (toZ x))) (ofNat (Int.natAbs (toZ y))) (by first | assumption | exact ofNat_dig _ | exact (ofNat_can _).1 | exact (grpI_can _).1) (by first | assumption | exact ofNat_dig _ | exact (ofNat_can _).1 | exact (grpI_can _).1) (by have := cmpI_ge h2; omega) (by omega))) <| wE (oCl (r_made ((ofZ (toZ x)).neg) (ofNat (val (ofNat (Int.natAbs (toZ x))) - val (ofNat (Int.natAbs (toZ y))))) (by first | assumption | exact ofNat_dig _ | exact (ofNat_can _).1 | exact (grpI_can _).1) (by first | omega | exact Nat.le_trans (add_len (ofNat_dig _) (ofNat_dig _)) (by omega) | exact Nat.le_trans (sub_len (ofNat_dig _)) (by omega)))) <| wT (oSt sh49) <| wZ) ?_
      refine pwp_ret ⟨_, (res_a (cs := (bx (encI (mkI ((ofZ (toZ x)).neg) (val (ofNat (val (ofNat (Int.natAbs (toZ x))) - val (ofNat (Int.natAbs (toZ y)))))))))) (d := (encI (mkI ((ofZ (toZ x)).neg) (val (ofNat (val (ofNat (Int.natAbs (toZ x))) - val (ofNat (Int.natAbs (toZ y))))))))) rfl rfl sh49 rfl rfl .nil), ?_⟩
      rw [← rsum_first h1 (by have := cmpI_ge h2; omega)]; rfl
    · replace h2 := of_decide_eq_false h2
      refine pwp_skip <| pwp_seq <| kd [] [(2, some (bx (encI (mkI ((ofZ (toZ y)).neg) (val (ofNat (val (ofNat (Int.natAbs (toZ y))) - val (ofNat (Int.natAbs (toZ x))))))))))] mo (wE (oFr fo49_0) <| wR (oL1 sh4) <| wE (oFr fo49_1) <| wR (oL1 sh47) <| wE (oFr fo49_1) <| wR (oL1 sh47) <| wE (oCl (r_minus (ofNat (Int.natAbs (toZ y))) (ofNat (Int.natAbs (toZ x))) (by first | assumption | exact ofNat_dig _ | exact (ofNat_can _).1 | exact (grpI_can _).1) (by first | assumption | exact ofNat_dig _ | exact (ofNat_can _).1 | exact (grpI_can _).1) (by have := cmpI_lt h2; omega) (by omega))) <| wE (oCl (r_made ((ofZ (toZ y)).neg) (ofNat (val (ofNat (Int.natAbs (toZ y))) - val (ofNat (Int.natAbs (toZ x))))) (by first | assumption | exact ofNat_dig _ | exact (ofNat_can _).1 | exact (grpI_can _).1) (by first | omega | exact Nat.le_trans (add_len (ofNat_dig _) (ofNat_dig _)) (by omega) | exact Nat.le_trans (sub_len (ofNat_dig _)) (by omega)))) <| wT (oSt sh49) <| wZ) ?_
      refine pwp_ret ⟨_, (res_a (cs := (bx (encI (mkI ((ofZ (toZ y)).neg) (val (ofNat (val (ofNat (Int.natAbs (toZ y))) - val (ofNat (Int.natAbs (toZ x)))))))))) (d := (encI (mkI ((ofZ (toZ y)).neg) (val (ofNat (val (ofNat (Int.natAbs (toZ y))) - val (ofNat (Int.natAbs (toZ x))))))))) rfl rfl sh49 rfl rfl .nil), ?_⟩
      rw [← rsum_second h1 (by have := cmpI_lt h2; omega)]; rfl
theorem r_sub (x : RInt) (y : RInt) (hx : x.gs.length ≤ 1099511627776) (hy : y.gs.length ≤ 1099511627776) : Takes Tryz.prog 162 [(encI x), (encI y)] (encI (ofZ (toZ x - toZ y))) := by
  have hv := gs_neg y
  refine fn_intro Tryz.func162 rfl cb162 rfl ?_
  show PWp _ _ _ _ ⟨[(0, (.d (encI x))), (1, (.d (encI y)))], []⟩
  refine pwp_seq <| kx [(2, (.ref 0 0)), (3, (.ref 1 0)), (4, (.ref 2 0))] [(0, some (bx (encI x))), (1, some (bx (encI y))), (2, some (bx (encI (RInt.mk false []))))] (zN (oBx 0) <| zN (oBx 1) <| zN (oAl 2 ze49 zo49) <| zZ) ?_
  refine pwp_seq <| kd [] [(2, some (bx (encI (ofZ (toZ x + toZ (ofZ (-toZ y)))))))] mo (wR (oLa sh49) <| wR (oLa sh49) <| wE (oCl (r_neg y (by omega))) <| wE (oCl (r_add x (ofZ (-toZ y)) (by omega) (by omega))) <| wT (oSt sh49) <| wZ) ?_
  refine pwp_ret ⟨_, (res_a (cs := (bx (encI (ofZ (toZ x + toZ (ofZ (-toZ y))))))) (d := (encI (ofZ (toZ x + toZ (ofZ (-toZ y)))))) rfl rfl sh49 rfl rfl .nil), ?_⟩
  rw [toZ_ofZ, ← Int.sub_eq_add_neg]; rfl
theorem r_mul (x : RInt) (y : RInt) (hx : x.gs.length ≤ 1099511627776) (hy : y.gs.length ≤ 1099511627776) : Takes Tryz.prog 168 [(encI x), (encI y)] (encI (ofZ (toZ x * toZ y))) := by
  have hvx := gs_val2 x
  have hvy := gs_val2 y
  have hda := ofNat_dig (Int.natAbs (toZ x))
  have hdb := ofNat_dig (Int.natAbs (toZ y))
  refine fn_intro Tryz.func168 rfl cb168 rfl ?_
  show PWp _ _ _ _ ⟨[(0, (.d (encI x))), (1, (.d (encI y)))], []⟩
  refine pwp_seq <| kx [(2, (.ref 0 0)), (3, (.ref 1 0)), (4, (.ref 2 0))] [(0, some (bx (encI x))), (1, some (bx (encI y))), (2, some (bx (encI (RInt.mk false []))))] (zN (oBx 0) <| zN (oBx 1) <| zN (oAl 2 ze49 zo49) <| zZ) ?_
  refine pwp_seq <| kd [] [(0, some (bx (encI (ofZ (toZ x))))), (1, some (bx (encI (ofZ (toZ y)))))] mo (wR (oLa sh49) <| wE (oCl (r_value x (by omega))) <| wR (oLa sh49) <| wE (oCl (r_value y (by omega))) <| wT (oSt sh49) <| wT (oSt sh49) <| wZ) ?_
  refine pwp_seq <| kx [(5, (.own 3 135 1 ((ofNat (Int.natAbs (toZ x))).length + (ofNat (Int.natAbs (toZ y))).length)))] [(3, some (bm enc_u32 (List.replicate ((ofNat (Int.natAbs (toZ x))).length + (ofNat (Int.natAbs (toZ y))).length) 0)))] (zE (oFr fo49_1) <| zR (oL1 sh47) <| zE (oLm el47 (L := (ofNat (Int.natAbs (toZ x))))) <| zE (oFr fo49_1) <| zR (oL1 sh47) <| zE (oLm el47 (L := (ofNat (Int.natAbs (toZ y))))) <| zE (oAd ((ofNat (Int.natAbs (toZ x))).length + (ofNat (Int.natAbs (toZ y))).length)) <| zN (oMk 3 enc_u32 (0 : Nat) ((ofNat (Int.natAbs (toZ x))).length + (ofNat (Int.natAbs (toZ y))).length) ((ofNat (Int.natAbs (toZ x))).length + (ofNat (Int.natAbs (toZ y))).length) el47 ze135 zo135 by135) <| zM <| zZ) ?_
  refine pwp_seq <| pwp_seq <| kx [(6, (vin 0))] [] (zM <| zZ) ?_
  refine pwp_block <| pwp_loop (α := Nat × List Nat) (fun (i, out) => ⟨[(2, (.ref 0 0)), (3, (.ref 1 0)), (4, (.ref 2 0)), (5, (.own 3 135 1 ((ofNat (Int.natAbs (toZ x))).length + (ofNat (Int.natAbs (toZ y))).length))), (6, (vin i))], [(0, some (bx (encI (ofZ (toZ x))))), (1, some (bx (encI (ofZ (toZ y))))), (2, some (bx (encI (RInt.mk false [])))), (3, some (bm enc_u32 out))]⟩) (fun (i, out) => out.length = (ofNat (Int.natAbs (toZ x))).length + (ofNat (Int.natAbs (toZ y))).length ∧ Dig out ∧ i ≤ (ofNat (Int.natAbs (toZ x))).length ∧ (∀ k, i + (ofNat (Int.natAbs (toZ y))).length ≤ k → out.getD k 0 = 0) ∧ val out = val ((ofNat (Int.natAbs (toZ x))).take i) * val (ofNat (Int.natAbs (toZ y)))) (fun (i, out) => (ofNat (Int.natAbs (toZ x))).length - i) (0, List.replicate ((ofNat (Int.natAbs (toZ x))).length + (ofNat (Int.natAbs (toZ y))).length) 0) wk ⟨by simp, dig_replicate _, Nat.zero_le _, fun k _ => getD_replicate _ k, by simp [val, val_replicate]⟩ ?_
  rintro ⟨i, out⟩ ⟨hlen, hdo, hi, hz, hv⟩
  have hai := hda.getD i
  refine pwp_seq <| pwp_seq <| kx [(26, (vb (decide (((i : Nat) : Int) < (((ofNat (Int.natAbs (toZ x))).length : Nat) : Int)))))] [] (zM <| zE (oFr fo49_1) <| zR (oL1 sh47) <| zE (oLm el47 (L := (ofNat (Int.natAbs (toZ x))))) <| zE oLt <| zZ) ?_
  refine pwp_cond rfl (fun h1 => ?_) (fun h1 => ?_)
  · replace h1 := of_decide_eq_true h1
    refine pwp_skip <| pwp_seq <| pwp_block <| pwp_seq <| kx [(7, (vqn 0))] [] (zM <| zZ) ?_
    refine pwp_seq <| pwp_seq <| kx [(8, (vin 0))] [] (zM <| zZ) ?_
    refine pwp_block <| pwp_loop (α := Nat × List Nat × Nat) (fun (j, o2, c) => ⟨[(2, (.ref 0 0)), (3, (.ref 1 0)), (4, (.ref 2 0)), (5, (.own 3 135 1 ((ofNat (Int.natAbs (toZ x))).length + (ofNat (Int.natAbs (toZ y))).length))), (6, (vin i)), (7, (vqn c)), (8, (vin j))], [(0, some (bx (encI (ofZ (toZ x))))), (1, some (bx (encI (ofZ (toZ y))))), (2, some (bx (encI (RInt.mk false [])))), (3, some (bm enc_u32 o2))]⟩) (fun (j, o2, c) => o2.length = (ofNat (Int.natAbs (toZ x))).length + (ofNat (Int.natAbs (toZ y))).length ∧ Dig o2 ∧ j ≤ (ofNat (Int.natAbs (toZ y))).length ∧ c < 1000000000 ∧ (∀ k, i + (ofNat (Int.natAbs (toZ y))).length ≤ k → o2.getD k 0 = 0) ∧ val o2 + pw (i + j) * c = val ((ofNat (Int.natAbs (toZ x))).take i) * val (ofNat (Int.natAbs (toZ y))) + pw i * ((ofNat (Int.natAbs (toZ x))).getD i 0 * val ((ofNat (Int.natAbs (toZ y))).take j))) (fun (j, o2, c) => (ofNat (Int.natAbs (toZ y))).length - j) (0, out, 0) wk ⟨hlen, hdo, Nat.zero_le _, by decide, hz, by simp [val, hv]⟩ ?_
    rintro ⟨j, o2, c⟩ ⟨hlen2, hdo2, hj, hc, hz2, hv2⟩
    have hbj := hdb.getD j
    have hoj := hdo2.getD (i + j)
    have hpq : (ofNat (Int.natAbs (toZ x))).getD i 0 * (ofNat (Int.natAbs (toZ y))).getD j 0 ≤ 999999999 * 999999999 := Nat.mul_le_mul (by omega) (by omega)
    refine pwp_seq <| pwp_seq <| kx [(33, (vb (decide (((j : Nat) : Int) < (((ofNat (Int.natAbs (toZ y))).length : Nat) : Int)))))] [] (zM <| zE (oFr fo49_1) <| zR (oL1 sh47) <| zE (oLm el47 (L := (ofNat (Int.natAbs (toZ y))))) <| zE oLt <| zZ) ?_
    refine pwp_cond rfl (fun h2 => ?_) (fun h2 => ?_)
    · replace h2 := of_decide_eq_true h2
      refine pwp_skip <| pwp_seq <| pwp_block <| pwp_seq <| kd [(9, (vqn (((o2.getD (i + j) 0) + (((ofNat (Int.natAbs (toZ x))).getD i 0) * ((ofNat (Int.natAbs (toZ y))).getD j 0))) + c)))] [] mo (wM <| wM <| wM <| wE (oAd (i + j)) <| wE (oXo el47 (i + j)) <| wR (oLp sh135 (i + j) (0 : Nat)) <| wE (oCv un135 in180 (o2.getD (i + j) 0)) <| wE (oFr fo49_1) <| wR (oL1 sh47) <| wM <| wE (oXl el47 i (0 : Nat) (L := (ofNat (Int.natAbs (toZ x))))) <| wE (oC1 sh135) <| wE (oCv un135 in180 ((ofNat (Int.natAbs (toZ x))).getD i 0)) <| wE (oFr fo49_1) <| wR (oL1 sh47) <| wM <| wE (oXl el47 j (0 : Nat) (L := (ofNat (Int.natAbs (toZ y))))) <| wE (oC1 sh135) <| wE (oCv un135 in180 ((ofNat (Int.natAbs (toZ y))).getD j 0)) <| wE (oMl (((ofNat (Int.natAbs (toZ x))).getD i 0) * ((ofNat (Int.natAbs (toZ y))).getD j 0))) <| wE (oAd ((o2.getD (i + j) 0) + (((ofNat (Int.natAbs (toZ x))).getD i 0) * ((ofNat (Int.natAbs (toZ y))).getD j 0)))) <| wM <| wE (oAd (((o2.getD (i + j) 0) + (((ofNat (Int.natAbs (toZ x))).getD i 0) * ((ofNat (Int.natAbs (toZ y))).getD j 0))) + c)) <| wM <| wZ) ?_
      refine pwp_seq <| kx [] [(3, some (bm enc_u32 (o2.set (i + j) ((((o2.getD (i + j) 0) + (((ofNat (Int.natAbs (toZ x))).getD i 0) * ((ofNat (Int.natAbs (toZ y))).getD j 0))) + c) % 1000000000))))] (zM <| zM <| zM <| zE (oAd (i + j)) <| zM <| zE (oRe ((((o2.getD (i + j) 0) + (((ofNat (Int.natAbs (toZ x))).getD i 0) * ((ofNat (Int.natAbs (toZ y))).getD j 0))) + c) % 1000000000)) <| zE (oCv un180 in135 ((((o2.getD (i + j) 0) + (((ofNat (Int.natAbs (toZ x))).getD i 0) * ((ofNat (Int.natAbs (toZ y))).getD j 0))) + c) % 1000000000)) <| zE (oXo el47 (i + j)) <| zT (oSp sh135 (i + j) ((((o2.getD (i + j) 0) + (((ofNat (Int.natAbs (toZ x))).getD i 0) * ((ofNat (Int.natAbs (toZ y))).getD j 0))) + c) % 1000000000)) <| zZ) ?_
      refine kx [(7, (vqn ((((o2.getD (i + j) 0) + (((ofNat (Int.natAbs (toZ x))).getD i 0) * ((ofNat (Int.natAbs (toZ y))).getD j 0))) + c) / 1000000000)))] [] (zM <| zE (oQu ((((o2.getD (i + j) 0) + (((ofNat (Int.natAbs (toZ x))).getD i 0) * ((ofNat (Int.natAbs (toZ y))).getD j 0))) + c) / 1000000000)) <| zM <| zZ) ?_
      refine kx [(8, (vin (j + 1)))] [] (zM <| zE (oAd (j + 1)) <| zM <| zZ) ?_
      exact ⟨(j + 1, o2.set (i + j) ((o2.getD (i + j) 0 + (ofNat (Int.natAbs (toZ x))).getD i 0 * (ofNat (Int.natAbs (toZ y))).getD j 0 + c) % 1000000000), (o2.getD (i + j) 0 + (ofNat (Int.natAbs (toZ x))).getD i 0 * (ofNat (Int.natAbs (toZ y))).getD j 0 + c) / 1000000000), wk, (by obtain ⟨q1, q2⟩ := times_step (by omega) hdo2 hv2 rfl (val_take_succ _ j); exact ⟨by simpa using hlen2, q1, by omega, by omega, zero_set (by omega) hz2, q2⟩), (by first | omega | (dsimp only; omega))⟩
    · replace h2 := of_decide_eq_false h2
      have hje : j = (ofNat (Int.natAbs (toZ y))).length := by omega
      rw [hje] at hv2
      refine pwp_exit <| kx [] [(3, some (bm enc_u32 (o2.set (i + (ofNat (Int.natAbs (toZ y))).length) c)))] (zM <| zM <| zE (oFr fo49_1) <| zR (oL1 sh47) <| zE (oLm el47 (L := (ofNat (Int.natAbs (toZ y))))) <| zE (oAd (i + (ofNat (Int.natAbs (toZ y))).length)) <| zM <| zE (oCv un180 in135 c) <| zE (oXo el47 (i + (ofNat (Int.natAbs (toZ y))).length)) <| zT (oSp sh135 (i + (ofNat (Int.natAbs (toZ y))).length) c) <| zZ) ?_
      refine kx [(6, (vin (i + 1)))] [] (zM <| zE (oAd (i + 1)) <| zM <| zZ) ?_
      exact ⟨(i + 1, o2.set (i + (ofNat (Int.natAbs (toZ y))).length) c), wk, (by obtain ⟨q1, q2, q3, q4⟩ := times_row hdo2 (by omega) hlen2 hz2 hc hv2; exact ⟨q1, q2, by omega, q3, q4⟩), (by first | omega | (dsimp only; omega))⟩
  · replace h1 := of_decide_eq_false h1
    have hie : i = (ofNat (Int.natAbs (toZ x))).length := by omega
    rw [hie, List.take_length] at hv
    refine pwp_exit <| pwp_seq <| pwp_sim (publish (t := 5) (k := 3) (es := List.map enc_u32 out) rfl rfl (pub_cells _ _ (fun _ => rfl)) (map_len _ _ hlen) (pub_take _ _ (fun _ => rfl) hlen)) ?_
    refine kx [] [(2, some (bx (encI (mkI (!(((ofZ (toZ x)).neg) == ((ofZ (toZ y)).neg))) (val out)))))] (zE (oFr fo49_0) <| zR (oL1 sh4) <| zE (oFr fo49_0) <| zR (oL1 sh4) <| zE (oNb bo4) <| zM <| zE (oCl (r_made (!(((ofZ (toZ x)).neg) == ((ofZ (toZ y)).neg))) out hdo (by omega))) <| zT (oSt sh49) <| zZ) ?_
    refine pwp_ret ⟨_, (res_a (cs := (bx (encI (mkI (!(((ofZ (toZ x)).neg) == ((ofZ (toZ y)).neg))) (val out))))) (d := (encI (mkI (!(((ofZ (toZ x)).neg) == ((ofZ (toZ y)).neg))) (val out)))) rfl rfl sh49 rfl rfl .nil), ?_⟩
    rw [hv, rmul_eq]; rfl
theorem r_short (a : List Nat) (d : Nat) (hda : Dig a) (hd0 : 0 < d) (hd1 : d ≤ 1000000000) (hla : a.length ≤ 17592186044416) : Takes Tryz.prog 187 [(.sl 135 1 (List.map enc_u32 a)), (.val (.int .u64 (((d : Nat) : Int))))] (.tup [(.sl 135 1 (List.map enc_u32 (ofNat (val a / d)))), (.val (.int .u64 ((((val a % d) : Nat) : Int))))]) := by
  refine fn_intro Tryz.func187 rfl cb187 rfl ?_
  show PWp _ _ _ _ ⟨[(0, (vl 135 1 enc_u32 a)), (1, (vqn d))], []⟩
  refine pwp_seq <| kx [] [] (zE (oNl 135 1) <| zM <| zZ) ?_
  refine pwp_seq <| kx [(6, (.own 0 135 1 a.length))] [(0, some (bm enc_u32 (List.replicate a.length 0)))] (zM <| zE (oLm el47) <| zN (oMk 0 enc_u32 (0 : Nat) a.length a.length el47 ze135 zo135 by135) <| zM <| zZ) ?_
  refine pwp_seq <| kx [(7, (vqn 0))] [] (zM <| zZ) ?_
  refine pwp_seq <| pwp_seq <| kx [(8, (vi (((a.length : Nat) : Int) - 1)))] [] (zM <| zE (oLm el47) <| zE (zSb (((a.length : Nat) : Int) - 1)) <| zM <| zZ) ?_
  refine pwp_block <| pwp_loop (α := Nat × List Nat × Nat) (fun (k, q, rest) => ⟨[(0, (vl 135 1 enc_u32 a)), (1, (vqn d)), (6, (.own 0 135 1 a.length)), (7, (vqn rest)), (8, (vi (((k : Nat) : Int) - 1)))], [(0, some (bm enc_u32 q))]⟩) (fun (k, q, rest) => k ≤ a.length ∧ q.length = a.length ∧ Dig q ∧ rest < d ∧ val (a.drop k) = val (q.drop k) * d + rest) (fun (k, q, rest) => k) (a.length, List.replicate a.length 0, 0) wk ⟨Nat.le_refl _, by simp, dig_replicate _, hd0, by simp [val]⟩ ?_
  rintro ⟨k, q, rest⟩ ⟨hk, hlen, hdq, hr, hv⟩
  refine pwp_seq <| pwp_seq <| kx [(17, (vb (decide (0 ≤ (((k : Nat) : Int) - 1)))))] [] (zM <| zE oGe <| zZ) ?_
  refine pwp_cond (b := decide (0 ≤ (((k : Nat) : Int) - 1))) rfl (fun h1 => ?_) (fun h1 => ?_)
  · replace h1 := of_decide_eq_true h1
    obtain ⟨i, rfl⟩ : ∃ i, k = i + 1 := ⟨k - 1, by omega⟩
    rw [show (((i + 1 : Nat) : Int) - 1) = ((i : Nat) : Int) from by omega]
    have hg := hda.getD i
    obtain ⟨hb1, hb2⟩ := short_bound hr hd1 hg
    refine pwp_skip <| pwp_seq <| pwp_block <| pwp_seq <| kx [(8, (vin i)), (9, (vqn ((rest * 1000000000) + (a.getD i 0))))] [] (zM <| zE (oMl (rest * 1000000000)) <| zM <| zM <| zE (oXl el47 i (0 : Nat)) <| zE (oC1 sh135) <| zE (oCv un135 in180 (a.getD i 0)) <| zE (oAd ((rest * 1000000000) + (a.getD i 0))) <| zM <| zZ) ?_
    refine pwp_seq <| kx [] [(0, some (bm enc_u32 (q.set i (((rest * 1000000000) + (a.getD i 0)) / d))))] (zM <| zM <| zM <| zM <| zE (oQu (((rest * 1000000000) + (a.getD i 0)) / d)) <| zE (oCv un180 in135 (((rest * 1000000000) + (a.getD i 0)) / d)) <| zE (oXo el47 i) <| zT (oSp sh135 i (((rest * 1000000000) + (a.getD i 0)) / d)) <| zZ) ?_
    refine kx [(7, (vqn (((rest * 1000000000) + (a.getD i 0)) % d)))] [] (zM <| zM <| zE (oRe (((rest * 1000000000) + (a.getD i 0)) % d)) <| zM <| zZ) ?_
    refine kx [(8, (vi (((i : Nat) : Int) - 1)))] [] (zM <| zE (zSb (((i : Nat) : Int) - 1)) <| zM <| zZ) ?_
    exact ⟨(i, q.set i ((rest * 1000000000 + a.getD i 0) / d), (rest * 1000000000 + a.getD i 0) % d), wk, ⟨by omega, by simpa using hlen, hdq.set _ hb2, Nat.mod_lt _ hd0, rshort_step (by omega) hv rfl⟩, (by first | omega | (dsimp only; omega))⟩
  · replace h1 := of_decide_eq_false h1
    obtain rfl : k = 0 := by omega
    obtain ⟨e1, e2⟩ := short_end (a := a) (q := q) (by rw [Nat.sub_self]; exact hv) hr
    refine pwp_exit <| pwp_seq <| pwp_sim (publish (t := 6) (k := 0) (es := List.map enc_u32 q) rfl rfl (pub_cells _ _ (fun _ => rfl)) (map_len _ _ hlen) (pub_take _ _ (fun _ => rfl) hlen)) ?_
    refine kx [(4, (vl 135 1 enc_u32 (ofNat (val q)))), (5, (vqn rest))] [] (zM <| zE (oCl (r_made false q (by first | assumption | exact ofNat_dig _ | exact (ofNat_can _).1 | exact (grpI_can _).1) (by omega))) <| zE (oF1 ft49_1 sh47) <| zM <| zM <| zM <| zZ) ?_
    refine pwp_ret ⟨_, (.tmp (d := (.sl 135 1 (List.map enc_u32 (ofNat (val q))))) rfl (.tmp (d := (.val (.int .u64 (((rest : Nat) : Int))))) rfl .nil)), ?_⟩
    rw [← e1, ← e2]; rfl
theorem r_pair (l : List Nat) (hd : Dig l) (h2 : l.length ≤ 2) : Takes Tryz.prog 165 [(.sl 135 1 (List.map enc_u32 l))] (.val (.int .u64 ((((val l) : Nat) : Int)))) := by
  have h0 := hd.getD 0
  have h1 := hd.getD 1
  refine fn_intro Tryz.func165 rfl cb165 rfl ?_
  show PWp _ _ _ _ ⟨[(0, (vl 135 1 enc_u32 l))], []⟩
  refine pwp_seq <| kx [] [] (zM <| zZ) ?_
  refine pwp_seq <| kx [(2, (vqn (((l.getD 1 0) * 1000000000) + (l.getD 0 0))))] [] (zM <| zE (oCl (r_group l 1 (by first | assumption | exact ofNat_dig _ | exact (ofNat_can _).1 | exact (grpI_can _).1))) <| zE (oMl ((l.getD 1 0) * 1000000000)) <| zM <| zE (oCl (r_group l 0 (by first | assumption | exact ofNat_dig _ | exact (ofNat_can _).1 | exact (grpI_can _).1))) <| zE (oAd (((l.getD 1 0) * 1000000000) + (l.getD 0 0))) <| zM <| zZ) ?_
  refine pwp_ret ⟨_, (.tmp (d := (.val (.int .u64 ((((((l.getD 1 0) * 1000000000) + (l.getD 0 0)) : Nat) : Int))))) rfl .nil), ?_⟩
  rw [val_pair h2]; rfl
theorem r_parts (a b : List Nat) (hda : Cano a) (hdb : Cano b) (hb0 : 0 < b.length) (hla : a.length ≤ 1099511627776) (hlb : b.length ≤ 1099511627776) : Takes Tryz.prog 163 [(.sl 135 1 (List.map enc_u32 a)), (.sl 135 1 (List.map enc_u32 b))] (.tup [(.sl 135 1 (List.map enc_u32 (ofNat (val a / val b)))), (.sl 135 1 (List.map enc_u32 (ofNat (val a % val b))))]) := by
  have hsc := scl_bound hdb hb0
  have htp := top_pos hdb hb0
  have hbp := len_pos_val hdb hb0
  refine fn_intro Tryz.func163 rfl cb163 rfl ?_
  show PWp _ _ _ _ ⟨[(0, (vl 135 1 enc_u32 a)), (1, (vl 135 1 enc_u32 b))], []⟩
  refine pwp_seq <| kx [] [] (zE (oNl 135 1) <| zE (oNl 135 1) <| zZ) ?_
  refine pwp_seq <| kx [(6, (vin b.length))] [] (zM <| zE (oLm el47) <| zM <| zZ) ?_
  refine pwp_seq <| pwp_seq <| kx [(19, (vb (((b.length : Nat) : Int) == 1)))] [] (zM <| zE oEq <| zZ) ?_
  refine pwp_cond (b := (((b.length : Nat) : Int) == 1)) rfl (fun h1 => ?_) (fun h1 => ?_)
  · replace h1 := eq_of_beq h1
    have hg0 := hdb.1.getD 0
    have hv1 := val_len1 (b := b) (by omega)
    have hb00 : 0 < b.getD 0 0 := by omega
    have hrl : val a % b.getD 0 0 < 1000000000 := Nat.lt_trans (Nat.mod_lt _ hb00) (by omega)
    refine pwp_seq <| kx [(7, (vl 135 1 enc_u32 (ofNat (val a / (b.getD 0 0))))), (8, (vqn (val a % (b.getD 0 0))))] [] (zM <| zM <| zE (oXl el47 0 (0 : Nat)) <| zE (oC1 sh135) <| zE (oCv un135 in180 (b.getD 0 0)) <| zE (oCl (r_short a (b.getD 0 0) hda.1 (by omega) (by omega) (by omega))) <| zM <| zE oEx <| zE oEx <| zM <| zM <| zZ) ?_
    refine pwp_seq <| kx [(4, (vl 135 1 enc_u32 (ofNat (val a / (b.getD 0 0))))), (5, (vl 135 1 enc_u32 (ofNat (val [(val a % (b.getD 0 0))]))))] [] (zM <| zM <| zE (oCv un180 in135 (val a % (b.getD 0 0))) <| zE (oBs el47 ze135 zo135) <| zE (oCl (r_made false [(val a % (b.getD 0 0))] (dig_cons.2 ⟨by omega, dig_nil⟩) (by simp))) <| zE (oF1 ft49_1 sh47) <| zM <| zM <| zZ) ?_
    refine pwp_ret ⟨_, (.tmp (d := (.sl 135 1 (List.map enc_u32 (ofNat (val a / (b.getD 0 0)))))) rfl (.tmp (d := (.sl 135 1 (List.map enc_u32 (ofNat (val [(val a % (b.getD 0 0))]))))) rfl .nil)), ?_⟩
    rw [hv1, val_one]; rfl
  · replace h1 := ne_of_beq_false h1
    refine pwp_skip <| pwp_seq <| pwp_seq <| kx [(38, (vb (decide ((cmpI ((val a : Nat) : Int) ((val b : Nat) : Int)) < 0))))] [] (zM <| zM <| zE (oCl (r_size a b (by first | assumption | exact ofNat_can _ | exact grpI_can _) (by first | assumption | exact ofNat_can _ | exact grpI_can _) (by omega) (by omega))) <| zE oLt <| zZ) ?_
    refine pwp_cond rfl (fun h2 => ?_) (fun h2 => ?_)
    · replace h2 := of_decide_eq_true h2
      refine pwp_seq <| kx [(4, (vl 135 1 enc_u32 [])), (5, (vl 135 1 enc_u32 a))] [] (zE (oBs el47 ze135 zo135) <| zM <| zM <| zM <| zZ) ?_
      refine pwp_ret ⟨_, (.tmp (d := (.sl 135 1 (List.map enc_u32 []))) rfl (.tmp (d := (.sl 135 1 (List.map enc_u32 a))) rfl .nil)), ?_⟩
      have hlt := cmpI_neg h2
      rw [Nat.div_eq_of_lt hlt, Nat.mod_eq_of_lt hlt, ofNat_zero, ← can_eq hda]; rfl
    · replace h2 := of_decide_eq_false h2
      obtain ⟨u, hue⟩ : ∃ u, u = ofNat (val a * scl b) := ⟨_, rfl⟩
      obtain ⟨v, hve⟩ : ∃ v, v = ofNat (val b * scl b) := ⟨_, rfl⟩
      have hu : Dig u := by rw [hue]; exact ofNat_dig _
      have hcv : Cano v := by rw [hve]; exact ofNat_can _
      have hvd := hcv.1
      have hvl : v.length = b.length := by rw [hve]; exact scl_len hdb hb0
      have hvv : val v = val b * scl b := by rw [hve]; exact ofNat_val _
      have huv : val u = val a * scl b := by rw [hue]; exact ofNat_val _
      have hab := len_of_le hda hdb (cmpI_nn h2)
      have hul : a.length ≤ u.length ∧ u.length ≤ a.length + 1 := by rw [hue]; exact scl_lenA hda hdb hb0
      have hvp := len_pos_val hcv (by omega)
      have hpv : pw (b.length - 1) ≤ val v := by have h1 := val_top hvd (by omega); have h3 := top_pos hcv (by omega); rw [hvl] at h1 h3; have h2 := Nat.mul_le_mul_right (pw (b.length - 1)) h3.1; omega
      refine pwp_skip <| pwp_seq <| kx [(9, (vqn (scl b)))] [] (zM <| zM <| zE (oSb (b.length - 1)) <| zE (oXl el47 (b.length - 1) (0 : Nat)) <| zE (oC1 sh135) <| zE (oCv un135 in180 (b.getD (b.length - 1) 0)) <| zE (oAd ((b.getD (b.length - 1) 0) + 1)) <| zE (oQu (scl b) (hr := by exact (quo_u64 1000000000 (b.getD (b.length - 1) 0 + 1) (by decide)))) <| zM <| zZ) ?_
      refine pwp_seq <| kx [(0, (vl 135 1 enc_u32 u)), (1, (vl 135 1 enc_u32 v))] [] (zM <| zM <| zE (oCl (hue ▸ r_scaled a (scl b) hda.1 (by omega) (by omega))) <| zM <| zM <| zE (oCl (hve ▸ r_scaled b (scl b) hdb.1 (by omega) (by omega))) <| zM <| zM <| zZ) ?_
      refine pwp_seq <| kx [(10, (vl 135 1 enc_u32 (ofNat (val (List.drop ((u.length - b.length) + 1) u)))))] [] (zM <| zM <| zE (oLm el47) <| zM <| zE (oSb (u.length - b.length)) <| zE (oAd ((u.length - b.length) + 1)) <| zE (e_slc (l := ((u.length - b.length) + 1)) (h := (List.map enc_u32 u).length) (kl := .i64) (kh := .i64) (es' := List.map enc_u32 (List.drop ((u.length - b.length) + 1) u)) (by exact rfl) el47 (by exact rfl) (by exact rfl) (by exact rfl) (by simp only [List.length_map]; omega) (Nat.le_refl _) (by rw [List.take_length, List.map_drop])) <| zE (oCl (r_made false (List.drop ((u.length - b.length) + 1) u) (hu.drop _) (by rw [List.length_drop]; omega))) <| zE (oF1 ft49_1 sh47) <| zM <| zZ) ?_
      refine pwp_seq <| kx [(11, (.own 0 135 1 ((u.length - b.length) + 1)))] [(0, some (bm enc_u32 (List.replicate ((u.length - b.length) + 1) 0)))] (zM <| zE (oLm el47) <| zM <| zE (oSb (u.length - b.length)) <| zE (oAd ((u.length - b.length) + 1)) <| zN (oMk 0 enc_u32 (0 : Nat) ((u.length - b.length) + 1) ((u.length - b.length) + 1) el47 ze135 zo135 by135) <| zM <| zZ) ?_
      refine pwp_seq <| pwp_seq <| kx [(12, (vi ((((u.length - b.length) + 1 : Nat) : Int) - 1)))] [] (zM <| zE (oLm el47) <| zM <| zE (zSb ((((u.length - b.length) + 1 : Nat) : Int) - 1)) <| zM <| zZ) ?_
      refine pwp_block <| pwp_loop (α := Nat × List Nat × List Nat) (fun (k, r, q) => ⟨[(0, (vl 135 1 enc_u32 u)), (1, (vl 135 1 enc_u32 v)), (6, (vin b.length)), (9, (vqn (scl b))), (10, (vl 135 1 enc_u32 r)), (11, (.own 0 135 1 ((u.length - b.length) + 1))), (12, (vi (((k : Nat) : Int) - 1)))], [(0, some (bm enc_u32 q))]⟩) (fun (k, r, q) => Cano r ∧ k ≤ ((u.length - b.length) + 1) ∧ q.length = ((u.length - b.length) + 1) ∧ Dig q ∧ val r < val v ∧ val (u.drop k) = val v * val (q.drop k) + val r) (fun (k, r, q) => k) (((u.length - b.length) + 1), ofNat (val (List.drop ((u.length - b.length) + 1) u)), List.replicate ((u.length - b.length) + 1) 0) wk ⟨ofNat_can _, Nat.le_refl _, by simp, dig_replicate _, by rw [ofNat_val]; have h7 := val_lt (hu.drop ((u.length - b.length) + 1)); rw [List.length_drop, show u.length - ((u.length - b.length) + 1) = b.length - 1 by omega] at h7; omega, by rw [ofNat_val]; simp [val]⟩ ?_
      rintro ⟨k, r, q⟩ ⟨hrc, hk, hql, hqd, hr, hv⟩
      refine pwp_seq <| pwp_seq <| kx [(75, (vb (decide (0 ≤ (((k : Nat) : Int) - 1)))))] [] (zM <| zE oGe <| zZ) ?_
      refine pwp_cond (b := decide (0 ≤ (((k : Nat) : Int) - 1))) rfl (fun h3 => ?_) (fun h3 => ?_)
      · replace h3 := of_decide_eq_true h3
        obtain ⟨i, rfl⟩ : ∃ i, k = i + 1 := ⟨k - 1, by omega⟩
        rw [show (((i + 1 : Nat) : Int) - 1) = ((i : Nat) : Int) from by omega]
        have hgu := hu.getD i
        have hW : (u.getD i 0 + 1000000000 * val r) < 1000000000 * val v := by omega
        have hrs := rshift_val u hv
        obtain ⟨hg1, hg2⟩ := rguess hvd hvl hb0 hW
        have hgv := hvd.getD (b.length - 1)
        have hgw1 := (ofNat_dig (u.getD i 0 + 1000000000 * val r)).getD b.length
        have hgw2 := (ofNat_dig (u.getD i 0 + 1000000000 * val r)).getD (b.length - 1)
        have hrl : r.length ≤ b.length := by have h9 := ofNat_len_mono (Nat.le_of_lt hr); rwa [← can_eq hrc, ← can_eq hcv, hvl] at h9
        have hwl : (ofNat (u.getD i 0 + 1000000000 * val r)).length ≤ b.length + 1 := ofNat_length_le (by rw [pw_succ]; have := val_lt hvd; rw [hvl] at this; omega)
        refine pwp_skip <| pwp_seq <| pwp_block <| pwp_seq <| kx [(10, (vl 135 1 enc_u32 (ofNat ((u.getD i 0) + 1000000000 * val r)))), (12, (vin i))] [] (zM <| zM <| zM <| zE (oXl el47 i (0 : Nat)) <| zE (oC1 sh135) <| zE (oCl (r_shifted r (u.getD i 0) hrc.1 (by omega) (by omega))) <| zM <| zZ) ?_
        refine pwp_seq <| kd [(13, (vqn (((((ofNat ((u.getD i 0) + 1000000000 * val r)).getD b.length 0) * 1000000000) + ((ofNat ((u.getD i 0) + 1000000000 * val r)).getD (b.length - 1) 0)) / ((v.getD (b.length - 1) 0) + 1))))] [] mo (wM <| wM <| wE (oCl (r_group (ofNat ((u.getD i 0) + 1000000000 * val r)) b.length (ofNat_dig _))) <| wE (oMl (((ofNat ((u.getD i 0) + 1000000000 * val r)).getD b.length 0) * 1000000000)) <| wM <| wM <| wE (oSb (b.length - 1)) <| wE (oCl (r_group (ofNat ((u.getD i 0) + 1000000000 * val r)) (b.length - 1) (by first | assumption | exact ofNat_dig _ | exact (ofNat_can _).1 | exact (grpI_can _).1))) <| wE (oAd ((((ofNat ((u.getD i 0) + 1000000000 * val r)).getD b.length 0) * 1000000000) + ((ofNat ((u.getD i 0) + 1000000000 * val r)).getD (b.length - 1) 0))) <| wM <| wM <| wE (oSb (b.length - 1)) <| wE (oXl el47 (b.length - 1) (0 : Nat)) <| wE (oC1 sh135) <| wE (oCv un135 in180 (v.getD (b.length - 1) 0)) <| wE (oAd ((v.getD (b.length - 1) 0) + 1)) <| wE (oQu (((((ofNat ((u.getD i 0) + 1000000000 * val r)).getD b.length 0) * 1000000000) + ((ofNat ((u.getD i 0) + 1000000000 * val r)).getD (b.length - 1) 0)) / ((v.getD (b.length - 1) 0) + 1))) <| wM <| wZ) ?_
        refine pwp_seq <| kx [(10, (vl 135 1 enc_u32 (ofNat (val (ofNat ((u.getD i 0) + 1000000000 * val r)) - val (ofNat (val v * (((((ofNat ((u.getD i 0) + 1000000000 * val r)).getD b.length 0) * 1000000000) + ((ofNat ((u.getD i 0) + 1000000000 * val r)).getD (b.length - 1) 0)) / ((v.getD (b.length - 1) 0) + 1))))))))] [] (zM <| zM <| zM <| zE (oCl (r_scaled v (((((ofNat ((u.getD i 0) + 1000000000 * val r)).getD b.length 0) * 1000000000) + ((ofNat ((u.getD i 0) + 1000000000 * val r)).getD (b.length - 1) 0)) / ((v.getD (b.length - 1) 0) + 1)) hvd (by omega) (by omega))) <| zE (oCl (r_minus (ofNat ((u.getD i 0) + 1000000000 * val r)) (ofNat (val v * (((((ofNat ((u.getD i 0) + 1000000000 * val r)).getD b.length 0) * 1000000000) + ((ofNat ((u.getD i 0) + 1000000000 * val r)).getD (b.length - 1) 0)) / ((v.getD (b.length - 1) 0) + 1)))) (ofNat_dig _) (ofNat_dig _) (by rw [ofNat_val, ofNat_val, Nat.mul_comm]; exact hg1) (by omega))) <| zM <| zZ) ?_
        refine pwp_seq <| pwp_block <| pwp_loop (α := Nat × List Nat) (fun (G, r2) => ⟨[(0, (vl 135 1 enc_u32 u)), (1, (vl 135 1 enc_u32 v)), (6, (vin b.length)), (9, (vqn (scl b))), (10, (vl 135 1 enc_u32 r2)), (11, (.own 0 135 1 ((u.length - b.length) + 1))), (12, (vin i)), (13, (vqn G))], [(0, some (bm enc_u32 q))]⟩) (fun (G, r2) => Cano r2 ∧ val v * G + val r2 = (u.getD i 0 + 1000000000 * val r)) (fun (G, r2) => val r2) ((((ofNat (u.getD i 0 + 1000000000 * val r)).getD b.length 0 * 1000000000 + (ofNat (u.getD i 0 + 1000000000 * val r)).getD (b.length - 1) 0) / (v.getD (b.length - 1) 0 + 1)), ofNat (val (ofNat (u.getD i 0 + 1000000000 * val r)) - val (ofNat (val v * (((ofNat (u.getD i 0 + 1000000000 * val r)).getD b.length 0 * 1000000000 + (ofNat (u.getD i 0 + 1000000000 * val r)).getD (b.length - 1) 0) / (v.getD (b.length - 1) 0 + 1)))))) wk ⟨ofNat_can _, by rw [ofNat_val, ofNat_val, ofNat_val]; rw [Nat.mul_comm] at hg1; omega⟩ ?_
        rintro ⟨G, r2⟩ ⟨hr2, hr2v⟩
        have hr2l : r2.length ≤ b.length + 1 := by have h9 := ofNat_len_mono (show val r2 ≤ (u.getD i 0 + 1000000000 * val r) by omega); rw [← can_eq hr2] at h9; omega
        refine pwp_seq <| pwp_seq <| kx [(109, (vb (decide (0 ≤ (cmpI ((val r2 : Nat) : Int) ((val v : Nat) : Int))))))] [] (zM <| zM <| zE (oCl (r_size r2 v hr2 hcv (by omega) (by omega))) <| zE oGe <| zZ) ?_
        refine pwp_cond rfl (fun h4 => ?_) (fun h4 => ?_)
        · replace h4 := of_decide_eq_true h4
          have hge := cmpI_ge h4
          have hG := rquo_lt hr2v hW
          have hr2l : r2.length ≤ b.length + 1 := by have h9 := ofNat_len_mono (show val r2 ≤ (u.getD i 0 + 1000000000 * val r) by omega); rw [← can_eq hr2] at h9; omega
          refine pwp_skip <| pwp_block <| pwp_seq <| kx [(10, (vl 135 1 enc_u32 (ofNat (val r2 - val v))))] [] (zM <| zM <| zE (oCl (r_minus r2 v hr2.1 hvd (by omega) (by omega))) <| zM <| zZ) ?_
          refine kx [(13, (vqn (G + 1)))] [] (zM <| zE (oAd (G + 1)) <| zM <| zZ) ?_
          exact ⟨(G + 1, ofNat (val r2 - val v)), wk, (by have hge := cmpI_ge h4; exact ⟨ofNat_can _, by rw [ofNat_val, Nat.mul_add, Nat.mul_one]; omega⟩), (by have hge := cmpI_ge h4; dsimp only; rw [ofNat_val]; omega)⟩
        · replace h4 := of_decide_eq_false h4
          have hG := rquo_lt hr2v hW
          have hlt : val r2 < val v := by have h9 := cmpI_lt h4; omega
          refine pwp_exit <| kx [] [(0, some (bm enc_u32 (q.set i G)))] (zM <| zM <| zM <| zE (oCv un180 in135 G) <| zE (oXo el47 i) <| zT (oSp sh135 i G) <| zZ) ?_
          refine kx [(12, (vi (((i : Nat) : Int) - 1)))] [] (zM <| zE (zSb (((i : Nat) : Int) - 1)) <| zM <| zZ) ?_
          exact ⟨(i, r2, q.set i G), wk, ⟨hr2, by omega, by simpa using hql, hqd.set _ hG, hlt, rround (by omega) (by rw [hr2v]; exact hrs)⟩, (by first | omega | (dsimp only; omega))⟩
      · replace h3 := of_decide_eq_false h3
        obtain rfl : k = 0 := by omega
        obtain ⟨e1, e2⟩ := scl_div (a := a) (b := b) (q := q) (u := r) hdb hb0 (by rw [List.drop_zero, List.drop_zero] at hv; rw [pw_zero, Nat.one_mul, List.drop_zero, ← huv, ← hvv, hv]; omega) (by rw [List.drop_zero, ← hvv]; exact hr)
        have hrl : r.length ≤ b.length := by have h9 := ofNat_len_mono (Nat.le_of_lt hr); rwa [← can_eq hrc, ← can_eq hcv, hvl] at h9
        refine pwp_exit <| pwp_seq <| kx [(14, (vl 135 1 enc_u32 (ofNat (val r / (scl b)))))] [] (zM <| zM <| zE (oCl (r_short r (scl b) hrc.1 (by omega) (by omega) (by omega))) <| zM <| zE oEx <| zE oEx <| zM <| zM <| zZ) ?_
        refine pwp_seq <| pwp_sim (publish (t := 11) (k := 0) (es := List.map enc_u32 q) rfl rfl (pub_cells _ _ (fun _ => rfl)) (map_len _ _ hql) (pub_take _ _ (fun _ => rfl) hql)) ?_
        refine kx [(4, (vl 135 1 enc_u32 (ofNat (val q)))), (5, (vl 135 1 enc_u32 (ofNat (val r / (scl b)))))] [] (zM <| zE (oCl (r_made false q hqd (by omega))) <| zE (oF1 ft49_1 sh47) <| zM <| zM <| zM <| zZ) ?_
        refine pwp_ret ⟨_, (.tmp (d := (.sl 135 1 (List.map enc_u32 (ofNat (val q))))) rfl (.tmp (d := (.sl 135 1 (List.map enc_u32 (ofNat (val r / (scl b)))))) rfl .nil)), ?_⟩
        rw [← e1, ← e2]; rfl
end Go.Proofs.YtihgdjljnaekmaaGreat
