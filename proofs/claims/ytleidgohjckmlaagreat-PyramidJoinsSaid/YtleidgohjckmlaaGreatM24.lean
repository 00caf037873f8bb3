/- Part 24 of a proof: rules, plain facts, and functions walked. -/
import Derived.Test.YtleidgohjckmlaaGreatM23
namespace Go.Proofs.YtleidgohjckmlaaGreat
open Go.Fid
set_option maxRecDepth 4000
set_option linter.unusedVariables false
set_option linter.unusedSimpArgs false
theorem bo4 : boolB Tryz.prog 4 = true := by kernel_rfl
theorem cb82 : callB Tryz.prog 82 = true := by kernel_rfl
theorem cb83 : callB Tryz.prog 83 = true := by kernel_rfl
theorem cb97 : callB Tryz.prog 97 = true := by kernel_rfl
theorem t_over (a b : List Nat) (ha : Cano a) (hb : Cano b) (hb0 : 0 < val b) (hla : a.length ≤ 1099511627776) (hlb : b.length ≤ 1099511627776) : Takes Tryz.prog 97 [(.sl 105 1 (List.map enc_u32 a)), (.sl 105 1 (List.map enc_u32 b))] (.tup [(.sl 105 1 (List.map enc_u32 (ofNat (val a / val b)))), (.sl 105 1 (List.map enc_u32 (ofNat (val a % val b))))]) := by
  refine fn_intro Tryz.func97 rfl cb97 rfl ?_
  show PWp _ _ _ _ ⟨[(0, (vl 105 1 enc_u32 a)), (1, (vl 105 1 enc_u32 b))], []⟩
  refine pwp_seq <| kx [] [] (zE (oNl 105 1) <| zE (oNl 105 1) <| zZ) ?_
  refine pwp_seq <| pwp_seq <| kx [(15, (vb (decide ((cmpI ((val a : Nat) : Int) ((val b : Nat) : Int)) < 0))))] [] (zM <| zM <| zE (oCl (t_compare a b ha hb (by omega))) <| zE oLt <| zZ) ?_
  refine pwp_cond rfl (fun h1 => ?_) (fun h1 => ?_)
  · replace h1 := of_decide_eq_true h1
    refine pwp_seq <| kx [(4, (vl 105 1 enc_u32 [])), (5, (vl 105 1 enc_u32 a))] [] (zM <| zE (oNl 105 1) <| zM <| zZ) ?_
    refine pwp_ret ⟨_, (.tmp (d := (.sl 105 1 (List.map enc_u32 []))) rfl (.tmp (d := (.sl 105 1 (List.map enc_u32 a))) rfl .nil)), ?_⟩
    have hlt := cmpI_neg h1
    rw [Nat.div_eq_of_lt hlt, Nat.mod_eq_of_lt hlt, ofNat_zero, ← can_eq ha]; rfl
  · replace h1 := of_decide_eq_false h1
    refine pwp_skip <| pwp_seq <| kx [(6, (vqn (wordV a))), (7, (vb (wordB a)))] [] (zM <| zE (oCl (t_word a ha.1)) <| zM <| zE oEx <| zE oEx <| zM <| zM <| zZ) ?_
    refine pwp_seq <| kx [(8, (vqn (wordV b))), (9, (vb (wordB b)))] [] (zM <| zE (oCl (t_word b hb.1)) <| zM <| zE oEx <| zE oEx <| zM <| zM <| zZ) ?_
    refine pwp_seq <| pwp_seq <| kx [(30, (vb ((wordB a) && (wordB b))))] [] ?_ ?_
    · refine zM <| zE (oV (vb (wordB a)) (mv_ok (by kernel_rfl))) <| ?_
      rcases hb2 : (wordB a) with _ | _
      · exact zK <| zE oPf <| zZ
      · exact zM <| zE oPa <| zZ
    refine pwp_cond (b := ((wordB a) && (wordB b))) rfl (fun h3 => ?_) (fun h3 => ?_)
    · obtain ⟨w1, w2, w3⟩ := word_both ha.1 h3
      have w4 : wordV a / wordV b < 18446744073709551616 := Nat.lt_of_le_of_lt (Nat.div_le_self _ _) (by omega)
      have w5 : wordV a % wordV b < 18446744073709551616 := Nat.lt_of_le_of_lt (Nat.mod_le _ _) (by omega)
      refine pwp_seq <| kd [(4, (vl 105 1 enc_u32 (ofNat ((wordV a) / (wordV b))))), (5, (vl 105 1 enc_u32 (ofNat ((wordV a) % (wordV b)))))] [] mo (wM <| wM <| wE (oQu ((wordV a) / (wordV b))) <| wE (oCl (t_split ((wordV a) / (wordV b)) (by omega))) <| wM <| wM <| wE (oRe ((wordV a) % (wordV b))) <| wE (oCl (t_split ((wordV a) % (wordV b)) (by omega))) <| wM <| wM <| wZ) ?_
      refine pwp_ret ⟨_, (.tmp (d := (.sl 105 1 (List.map enc_u32 (ofNat ((wordV a) / (wordV b)))))) rfl (.tmp (d := (.sl 105 1 (List.map enc_u32 (ofNat ((wordV a) % (wordV b)))))) rfl .nil)), ?_⟩
      rw [w1, w2]; rfl
    · refine pwp_skip <| pwp_seq <| pwp_seq <| kx [(41, (vb (((b.length : Nat) : Int) == 1)))] [] (zM <| zE (oLm el47) <| zE oEq <| zZ) ?_
      refine pwp_cond (b := (((b.length : Nat) : Int) == 1)) rfl (fun h4 => ?_) (fun h4 => ?_)
      · replace h4 := eq_of_beq h4
        have hv1 := val_len1 (b := b) (by omega)
        have hg := hb.1.getD 0
        have w5 : val a % b.getD 0 0 < 4294967296 := Nat.lt_trans (Nat.mod_lt _ (by omega)) (by omega)
        refine pwp_seq <| kx [(10, (vl 105 1 enc_u32 (ofNat (val a / (b.getD 0 0))))), (11, (vwn (val a % (b.getD 0 0))))] [] (zM <| zM <| zE (oXl el47 0 (0 : Nat)) <| zE (oC1 sh105) <| zE (oCl (t_short a (b.getD 0 0) ha.1 (by omega) (by omega) (by omega))) <| zM <| zE oEx <| zE oEx <| zM <| zM <| zZ) ?_
        refine pwp_seq <| kx [(4, (vl 105 1 enc_u32 (ofNat (val a / (b.getD 0 0))))), (5, (vl 105 1 enc_u32 (ofNat (val a % (b.getD 0 0)))))] [] (zM <| zM <| zE (oCv un105 in91 (val a % (b.getD 0 0))) <| zE (oCl (t_split (val a % (b.getD 0 0)) (by omega))) <| zM <| zM <| zZ) ?_
        refine pwp_ret ⟨_, (.tmp (d := (.sl 105 1 (List.map enc_u32 (ofNat (val a / (b.getD 0 0)))))) rfl (.tmp (d := (.sl 105 1 (List.map enc_u32 (ofNat (val a % (b.getD 0 0)))))) rfl .nil)), ?_⟩
        rw [hv1]; rfl
      · replace h4 := ne_of_beq_false h4
        have hbl := val_pos_len hb0
        refine pwp_skip <| pwp_seq <| kx [(4, (vl 105 1 enc_u32 (ofNat (val a / val b)))), (5, (vl 105 1 enc_u32 (ofNat (val a % val b))))] [] (zM <| zM <| zE (oCl (t_long a b ha hb (by omega) (cmpI_nn h1) (by omega))) <| zE oEx <| zE oEx <| zM <| zM <| zZ) ?_
        refine pwp_ret ⟨_, (.tmp (d := (.sl 105 1 (List.map enc_u32 (ofNat (val a / val b))))) rfl (.tmp (d := (.sl 105 1 (List.map enc_u32 (ofNat (val a % val b))))) rfl .nil)), ?_⟩
        rfl
theorem t_divideI (x y : RInt) (hx : x.gs.length ≤ 1099511627776) (hy : y.gs.length ≤ 1099511627776) (hy0 : toZ y ≠ 0) : Takes Tryz.prog 83 [(encI x), (encI y)] (.tup [(encI (ofZ ((toZ x).fdiv (toZ y)))), (encI (ofZ ((toZ x).fmod (toZ y)))), (.val (.int .i64 (0)))]) := by
  have hgx := grpI_can x
  have hlx := grpI_len x
  have hgy := grpI_can y
  have hly := grpI_len y
  have hn : 0 < val (grpI y) := by have := toZ_natAbs y; omega
  have hq := len_quo (grpI x) hgx (val (grpI y))
  have hr := len_rem (grpI x) hgx (val (grpI y))
  have hrn := Nat.mod_lt (val (grpI x)) hn
  refine fn_intro Tryz.func83 rfl cb83 rfl ?_
  show PWp _ _ _ _ ⟨[(0, (.d (encI x))), (1, (.d (encI y)))], []⟩
  refine pwp_seq <| kx [(2, (.ref 0 0)), (3, (.ref 1 0)), (4, (.ref 2 0)), (5, (.ref 3 0))] [(0, some (bx (encI x))), (1, some (bx (encI y))), (2, some (bx (encI (RInt.mk false [])))), (3, some (bx (encI (RInt.mk false []))))] (zN (oBx 0) <| zN (oBx 1) <| zN (oAl 2 ze49 zo49) <| zN (oAl 3 ze49 zo49) <| zM <| zZ) ?_
  refine pwp_seq <| kd [(7, (vl 105 1 enc_u32 (grpI x))), (8, (vl 105 1 enc_u32 (grpI y)))] [] mo (wR (oLa sh49) <| wE (oCl (t_groups x (by omega))) <| wR (oLa sh49) <| wE (oCl (t_groups y (by omega))) <| wM <| wM <| wZ) ?_
  refine pwp_seq <| pwp_seq <| kx [(17, (vb ((((grpI y).length : Nat) : Int) == 0)))] [] (zM <| zE (oLm el47 (L := (grpI y))) <| zE oEq <| zZ) ?_
  refine pwp_cond (b := ((((grpI y).length : Nat) : Int) == 0)) rfl (fun h1 => ?_) (fun h1 => ?_)
  · replace h1 := eq_of_beq h1
    exact absurd (toZ_nil h1) hy0
  · replace h1 := ne_of_beq_false h1
    refine pwp_skip <| pwp_seq <| kx [(9, (vl 105 1 enc_u32 (ofNat (val (grpI x) / val (grpI y))))), (10, (vl 105 1 enc_u32 (ofNat (val (grpI x) % val (grpI y)))))] [] (zM <| zM <| zE (oCl (t_over (grpI x) (grpI y) hgx hgy (by omega) (by omega) (by omega))) <| zM <| zE oEx <| zE oEx <| zM <| zM <| zZ) ?_
    refine pwp_seq <| kx [(10, (vl 105 1 enc_u32 (ofNat (val (grpI x) % val (grpI y)))))] [] (zM <| zE (oCl (t_clone (ofNat (val (grpI x) % val (grpI y))) (by omega))) <| zM <| zZ) ?_
    refine pwp_seq <| pwp_seq <| kx [(37, (vb (decide (0 < (((ofNat (val (grpI x) % val (grpI y))).length : Nat) : Int)) && !(x.neg == y.neg))))] [] ?_ ?_
    · refine zM <| zE (oLm el47 (L := (ofNat (val (grpI x) % val (grpI y))))) <| zE oGt <| zE (oV (vb (decide (0 < (((ofNat (val (grpI x) % val (grpI y))).length : Nat) : Int)))) (mv_ok (by kernel_rfl))) <| ?_
      rcases hb2 : (decide (0 < (((ofNat (val (grpI x) % val (grpI y))).length : Nat) : Int))) with _ | _
      · replace hb2 := of_decide_eq_false hb2
        exact zK <| zK <| zK <| zK <| zK <| zE oPf <| zZ
      · replace hb2 := of_decide_eq_true hb2
        exact zE (oFr fo49_0) <| zR (oL1 sh4) <| zE (oFr fo49_0) <| zR (oL1 sh4) <| zE (oNb bo4) <| zE oPa <| zZ
    refine pwp_cond rfl (fun h3 => ?_) (fun h3 => ?_)
    · have e1 : (ofNat (val (ofNat (val (grpI x) / val (grpI y))) + val [1])).length ≤ 1099511627777 := ofNat_length_le (by rw [ofNat_val, val_one]; have := ofNat_lt_pw (val (grpI x) / val (grpI y)); have h3 : pw (ofNat (val (grpI x) / val (grpI y))).length ≤ pw 1099511627776 := pw_mono (by omega); have h4 := pw_lt (show 1099511627776 < 1099511627777 by decide); omega)
      have e2 := sub_len (b := ofNat (val (grpI x) % val (grpI y))) hgy.1
      rw [Bool.and_eq_true, decide_eq_true_eq, Bool.not_eq_true', beq_eq_false_iff_ne] at h3
      obtain ⟨k1, k2⟩ := h3
      have k3 : 0 < val (grpI x) % val (grpI y) := by have := len_pos_val (ofNat_can (val (grpI x) % val (grpI y))) (by omega); rwa [ofNat_val] at this
      obtain ⟨d1, d2⟩ := div_other hn k2 k3
      refine kx [(9, (vl 105 1 enc_u32 (ofNat (val (ofNat (val (grpI x) / val (grpI y))) + val [1])))), (10, (vl 105 1 enc_u32 (ofNat (val (grpI y) - val (ofNat (val (grpI x) % val (grpI y)))))))] [] (zM <| zE (oBs el47 ze105 zo105) <| zE (oCl (t_plus (ofNat (val (grpI x) / val (grpI y))) [1] (ofNat_dig _) (dig_cons.2 ⟨by decide, dig_nil⟩) (by omega) (by decide))) <| zM <| zM <| zE (oCl (t_minus (grpI y) (ofNat (val (grpI x) % val (grpI y))) hgy.1 (ofNat_dig _) (by rw [ofNat_val]; omega) (by omega))) <| zM <| zM <| zZ) ?_
      refine pwp_seq <| kd [(6, (vin 0))] [(2, some (bx (encI (mkI (!(x.neg == y.neg)) (val (ofNat (val (ofNat (val (grpI x) / val (grpI y))) + val [1]))))))), (3, some (bx (encI (mkI y.neg (val (ofNat (val (grpI y) - val (ofNat (val (grpI x) % val (grpI y))))))))))] mo (wE (oFr fo49_0) <| wR (oL1 sh4) <| wE (oFr fo49_0) <| wR (oL1 sh4) <| wE (oNb bo4) <| wM <| wE (oCl (t_made (!(x.neg == y.neg)) (ofNat (val (ofNat (val (grpI x) / val (grpI y))) + val [1])) (ofNat_dig _) (by omega))) <| wE (oFr fo49_0) <| wR (oL1 sh4) <| wM <| wE (oCl (t_made y.neg (ofNat (val (grpI y) - val (ofNat (val (grpI x) % val (grpI y))))) (ofNat_dig _) (by omega))) <| wT (oSt sh49) <| wT (oSt sh49) <| wM <| wZ) ?_
      refine pwp_ret ⟨_, (res_a (cs := (bx (encI (mkI (!(x.neg == y.neg)) (val (ofNat (val (ofNat (val (grpI x) / val (grpI y))) + val [1]))))))) (d := (encI (mkI (!(x.neg == y.neg)) (val (ofNat (val (ofNat (val (grpI x) / val (grpI y))) + val [1])))))) rfl rfl sh49 rfl rfl (res_a (cs := (bx (encI (mkI y.neg (val (ofNat (val (grpI y) - val (ofNat (val (grpI x) % val (grpI y)))))))))) (d := (encI (mkI y.neg (val (ofNat (val (grpI y) - val (ofNat (val (grpI x) % val (grpI y))))))))) rfl rfl sh49 rfl rfl (.tmp (d := (.val (.int .i64 (0)))) rfl .nil))), ?_⟩
      unfold toZ
      rw [d1, d2]
      simp only [ofNat_val, val_one]
      rfl
    · obtain ⟨d1, d2⟩ := div_same (b := x.neg) (c := y.neg) (m := val (grpI x)) hn (by rw [Bool.and_eq_false_iff, decide_eq_false_iff_not, Bool.not_eq_false', beq_iff_eq] at h3; rcases h3 with k | k; right; have := ofNat_len_pos (n := val (grpI x) % val (grpI y)); omega; exact .inl k)
      refine pwp_skip <| pwp_seq <| kd [(6, (vin 0))] [(2, some (bx (encI (mkI (!(x.neg == y.neg)) (val (ofNat (val (grpI x) / val (grpI y)))))))), (3, some (bx (encI (mkI y.neg (val (ofNat (val (grpI x) % val (grpI y))))))))] mo (wE (oFr fo49_0) <| wR (oL1 sh4) <| wE (oFr fo49_0) <| wR (oL1 sh4) <| wE (oNb bo4) <| wM <| wE (oCl (t_made (!(x.neg == y.neg)) (ofNat (val (grpI x) / val (grpI y))) (ofNat_dig _) (by omega))) <| wE (oFr fo49_0) <| wR (oL1 sh4) <| wM <| wE (oCl (t_made y.neg (ofNat (val (grpI x) % val (grpI y))) (ofNat_dig _) (by omega))) <| wT (oSt sh49) <| wT (oSt sh49) <| wM <| wZ) ?_
      refine pwp_ret ⟨_, (res_a (cs := (bx (encI (mkI (!(x.neg == y.neg)) (val (ofNat (val (grpI x) / val (grpI y)))))))) (d := (encI (mkI (!(x.neg == y.neg)) (val (ofNat (val (grpI x) / val (grpI y))))))) rfl rfl sh49 rfl rfl (res_a (cs := (bx (encI (mkI y.neg (val (ofNat (val (grpI x) % val (grpI y)))))))) (d := (encI (mkI y.neg (val (ofNat (val (grpI x) % val (grpI y))))))) rfl rfl sh49 rfl rfl (.tmp (d := (.val (.int .i64 (0)))) rfl .nil))), ?_⟩
      unfold toZ
      rw [d1, d2]
      simp only [ofNat_val]
      rfl
theorem t_gcdI (x y : RInt) (hx : x.gs.length ≤ 1099511627776) (hy : y.gs.length ≤ 1099511627776) : Takes Tryz.prog 82 [(encI x), (encI y)] (encI (ofZ ((Int.gcd (toZ x) (toZ y) : Nat) : Int))) := by
  have hgx := grpI_can x
  have hlx := grpI_len x
  have hgy := grpI_can y
  have hly := grpI_len y
  refine fn_intro Tryz.func82 rfl cb82 rfl ?_
  show PWp _ _ _ _ ⟨[(0, (.d (encI x))), (1, (.d (encI y)))], []⟩
  refine pwp_seq <| kx [(2, (.ref 0 0)), (3, (.ref 1 0)), (4, (.ref 2 0))] [(0, some (bx (encI x))), (1, some (bx (encI y))), (2, some (bx (encI (RInt.mk false []))))] (zN (oBx 0) <| zN (oBx 1) <| zN (oAl 2 ze49 zo49) <| zZ) ?_
  refine pwp_seq <| kd [(5, (vl 105 1 enc_u32 (grpI x))), (6, (vl 105 1 enc_u32 (grpI y)))] [] mo (wR (oLa sh49) <| wE (oCl (t_groups x (by omega))) <| wR (oLa sh49) <| wE (oCl (t_groups y (by omega))) <| wM <| wM <| wZ) ?_
  refine pwp_seq <| pwp_block <| pwp_loop (α := List Nat × List Nat) (fun (a, b) => ⟨[(4, (.ref 2 0)), (5, (vl 105 1 enc_u32 a)), (6, (vl 105 1 enc_u32 b))], [(2, some (bx (encI (RInt.mk false []))))]⟩) (fun (a, b) => Cano a ∧ Cano b ∧ a.length ≤ 1099511627776 ∧ b.length ≤ 1099511627776 ∧ Nat.gcd (val a) (val b) = Int.gcd (toZ x) (toZ y)) (fun (a, b) => val b) (grpI x, grpI y) wk ⟨hgx, hgy, by omega, by omega, gcd_toZ x y⟩ ?_
  rintro ⟨a, b⟩ ⟨ha, hb, hla, hlb, hg⟩
  refine pwp_seq <| pwp_seq <| kx [(19, (vb (decide (0 < ((b.length : Nat) : Int)))))] [] (zM <| zE (oLm el47) <| zE oGt <| zZ) ?_
  refine pwp_cond (b := decide (0 < ((b.length : Nat) : Int))) rfl (fun h1 => ?_) (fun h1 => ?_)
  · replace h1 := of_decide_eq_true h1
    have hb0 := len_pos_val hb (by omega)
    refine pwp_skip <| pwp_block <| pwp_seq <| kx [(7, (vqn (wordV a))), (8, (vb (wordB a)))] [] (zM <| zE (oCl (t_word a ha.1)) <| zM <| zE oEx <| zE oEx <| zM <| zM <| zZ) ?_
    refine pwp_seq <| kx [(9, (vqn (wordV b))), (10, (vb (wordB b)))] [] (zM <| zE (oCl (t_word b hb.1)) <| zM <| zE oEx <| zE oEx <| zM <| zM <| zZ) ?_
    refine pwp_seq <| pwp_seq <| kx [(33, (vb ((wordB a) && (wordB b))))] [] ?_ ?_
    · refine zM <| zE (oV (vb (wordB a)) (mv_ok (by kernel_rfl))) <| ?_
      rcases hb2 : (wordB a) with _ | _
      · exact zK <| zE oPf <| zZ
      · exact zM <| zE oPa <| zZ
    refine pwp_cond (b := ((wordB a) && (wordB b))) rfl (fun h3 => ?_) (fun h3 => ?_)
    · obtain ⟨w1, w2, w3⟩ := word_both ha.1 h3
      have w4 : val b < 1000000000000000000 := by rw [Bool.and_eq_true] at h3; exact val_len2 hb.1 (of_decide_eq_true h3.2)
      refine pwp_seq <| pwp_block <| pwp_loop (α := Nat × Nat) (fun (m, n) => ⟨[(4, (.ref 2 0)), (7, (vqn m)), (9, (vqn n))], [(2, some (bx (encI (RInt.mk false []))))]⟩) (fun (m, n) => m < 1000000000000000000 ∧ n < 1000000000000000000 ∧ Nat.gcd m n = Int.gcd (toZ x) (toZ y)) (fun (m, n) => n) (wordV a, wordV b) wk ⟨by omega, by omega, by rw [w1, w2]; exact hg⟩ ?_
      rintro ⟨m, n⟩ ⟨hm, hn, hg2⟩
      refine pwp_seq <| pwp_seq <| kx [(35, (vb (decide (0 < ((n : Nat) : Int)))))] [] (zM <| zE oGt <| zZ) ?_
      refine pwp_cond (b := decide (0 < ((n : Nat) : Int))) rfl (fun h4 => ?_) (fun h4 => ?_)
      · replace h4 := of_decide_eq_true h4
        refine pwp_skip <| pwp_block <| kd [(7, (vqn n)), (9, (vqn (m % n)))] [] mo (wM <| wM <| wM <| wE (oRe (m % n)) <| wM <| wM <| wZ) ?_
        exact ⟨(n, m % n), wk, ⟨hn, Nat.lt_of_le_of_lt (Nat.mod_le _ _) hm, by rw [← hg2, Nat.gcd_comm, ← Nat.gcd_rec, Nat.gcd_comm]⟩, (by dsimp only; exact Nat.mod_lt _ (by omega))⟩
      · replace h4 := of_decide_eq_false h4
        obtain rfl : n = 0 := by omega
        rw [Nat.gcd_zero_right] at hg2
        refine pwp_exit <| pwp_seq <| kx [] [(2, some (bx (encI (mkI false (val (ofNat m))))))] (zM <| zE (oCl (t_split m (by omega))) <| zE (oCl (t_made false (ofNat m) (ofNat_dig _) (Nat.le_trans (ofNat_len3 (by omega)) (by decide)))) <| zT (oSt sh49) <| zZ) ?_
        refine pwp_ret ⟨_, (res_a (cs := (bx (encI (mkI false (val (ofNat m)))))) (d := (encI (mkI false (val (ofNat m))))) rfl rfl sh49 rfl rfl .nil), ?_⟩
        rw [← hg2, ofNat_val, mkI_false]; rfl
    · refine pwp_skip <| pwp_seq <| kx [(12, (vl 105 1 enc_u32 (ofNat (val a % val b))))] [] (zM <| zM <| zE (oCl (t_over a b ha hb hb0 (by omega) (by omega))) <| zM <| zE oEx <| zE oEx <| zM <| zM <| zZ) ?_
      refine kx [(5, (vl 105 1 enc_u32 b)), (6, (vl 105 1 enc_u32 (ofNat (val a % val b))))] [] (zM <| zM <| zM <| zM <| zZ) ?_
      exact ⟨(b, ofNat (val a % val b)), wk, ⟨hb, ofNat_can _, hlb, Nat.le_trans (len_rem a ha _) hla, by rw [ofNat_val, ← hg, Nat.gcd_comm, ← Nat.gcd_rec, Nat.gcd_comm]⟩, (by dsimp only; rw [ofNat_val]; exact Nat.mod_lt _ hb0)⟩
  · replace h1 := of_decide_eq_false h1
    have hb1 : b = [] := List.eq_nil_of_length_eq_zero (by omega)
    rw [hb1, val_nil, Nat.gcd_zero_right] at hg
    refine pwp_exit <| pwp_seq <| kx [] [(2, some (bx (encI (mkI false (val a)))))] (zM <| zE (oCl (t_clone a (by omega))) <| zE (oCl (t_made false a ha.1 (by omega))) <| zT (oSt sh49) <| zZ) ?_
    refine pwp_ret ⟨_, (res_a (cs := (bx (encI (mkI false (val a))))) (d := (encI (mkI false (val a)))) rfl rfl sh49 rfl rfl .nil), ?_⟩
    rw [← hg, mkI_false]; rfl
end Go.Proofs.YtleidgohjckmlaaGreat
