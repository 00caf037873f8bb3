/-
  Functions walked: each takes its data to what is said. Printed by a program of ours.
-/
import Derived.Test.YtadkkhdnccljcaaGreatIntA
namespace Go.Proofs.YtadkkhdnccljcaaGreat
open Go.Fid
set_option maxRecDepth 4000
set_option linter.unusedVariables false
set_option linter.unusedSimpArgs false
theorem bo4 : boolB Tryz.prog 4 = true := by kernel_rfl
theorem cb86 : callB Tryz.prog 86 = true := by kernel_rfl
theorem cb87 : callB Tryz.prog 87 = true := by kernel_rfl
theorem cb92 : callB Tryz.prog 92 = true := by kernel_rfl
theorem cb125 : callB Tryz.prog 125 = true := by kernel_rfl
theorem cb134 : callB Tryz.prog 134 = true := by kernel_rfl
theorem cb151 : callB Tryz.prog 151 = true := by kernel_rfl
theorem cb153 : callB Tryz.prog 153 = true := by kernel_rfl
theorem cb154 : callB Tryz.prog 154 = true := by kernel_rfl
theorem un3 : (Tryz.prog.underlying 3).isSome = true := by kernel_rfl
theorem t_sign (x : RInt) (hx : x.gs.length ≤ 1099511627776) : Takes Tryz.prog 87 [(encI x)] (.val (.int .i64 ((signI (toZ x))))) := by
  refine fn_intro Tryz.func87 rfl cb87 rfl ?_
  show PWp _ _ _ _ ⟨[(0, (.d (encI x)))], []⟩
  refine pwp_seq <| kx [(1, (.ref 0 0))] [(0, some (bx (encI x)))] (zN (oBx 0) <| zM <| zZ) ?_
  refine pwp_seq <| pwp_block <| pwp_seq <| kx [(3, (vb ((((grpI x).length : Nat) : Int) == 0)))] [] (zR (oLa sh30) <| zE (oCl (t_groups x (by omega))) <| zE (oLm el28 (L := (grpI x))) <| zE oEq <| zM <| zZ) ?_
  refine pwp_cond (b := ((((grpI x).length : Nat) : Int) == 0)) rfl (fun h1 => ?_) (fun h1 => ?_)
  · replace h1 := eq_of_beq h1
    refine pwp_seq <| kx [(2, (vin 0))] [] (zM <| zZ) ?_
    refine pwp_ret ⟨_, (.tmp (d := (.val (.int .i64 (0)))) rfl .nil), ?_⟩
    rw [toZ_nil h1]; rfl
  · replace h1 := ne_of_beq_false h1
    refine pwp_seq <| kx [(8, (vb x.neg))] [] (zE (oFr fo30_0) <| zR (oL1 sh4) <| zM <| zZ) ?_
    refine pwp_cond (b := x.neg) rfl (fun h2 => ?_) (fun h2 => ?_)
    · refine pwp_seq <| kx [(2, (vi (-1)))] [] (zM <| zZ) ?_
      refine pwp_ret ⟨_, (.tmp (d := (.val (.int .i64 (-1)))) rfl .nil), ?_⟩
      rw [sign_neg h1 h2]; rfl
    · refine pwp_skip <| pwp_seq <| kx [(2, (vin 1))] [] (zM <| zZ) ?_
      refine pwp_ret ⟨_, (.tmp (d := (.val (.int .i64 (1)))) rfl .nil), ?_⟩
      rw [sign_pos h1 h2]; rfl
theorem t_neg (x : RInt) (hx : x.gs.length ≤ 1099511627776) : Takes Tryz.prog 153 [(encI x)] (encI (ofZ (-toZ x))) := by
  refine fn_intro Tryz.func153 rfl cb153 rfl ?_
  show PWp _ _ _ _ ⟨[(0, (.d (encI x)))], []⟩
  refine pwp_seq <| kx [(1, (.ref 0 0)), (2, (.ref 1 0))] [(0, some (bx (encI x))), (1, some (bx (encI (RInt.mk false []))))] (zN (oBx 0) <| zN (oAl 1 ze30 zo30) <| zZ) ?_
  refine pwp_seq <| kd [] [(1, some (bx (encI (mkI (!x.neg) (val (grpI x))))))] mo (wE (oFr fo30_0) <| wR (oL1 sh4) <| wE oNt <| wR (oLa sh30) <| wE (oCl (t_groups x (by omega))) <| wE (oCl (t_clone (grpI x) (Nat.le_trans (grpI_len _) (by omega)))) <| wE (oCl (t_made (!x.neg) (grpI x) (grpI_can _).1 (Nat.le_trans (grpI_len _) (by omega)))) <| wT (oSt sh30) <| wZ) ?_
  refine pwp_ret ⟨_, (res_a (cs := (bx (encI (mkI (!x.neg) (val (grpI x)))))) (d := (encI (mkI (!x.neg) (val (grpI x))))) rfl rfl sh30 rfl rfl .nil), ?_⟩
  rw [← neg_eq]; rfl
theorem t_sum (b : Bool) (l : List Nat) (c : Bool) (m : List Nat) (hl : Cano l) (hm : Cano m) (hll : l.length ≤ 1099511627776) (hlm : m.length ≤ 1099511627776) : Takes Tryz.prog 154 [(.val (.bool (b))), (.sl 138 1 (List.map enc_u32 l)), (.val (.bool (c))), (.sl 138 1 (List.map enc_u32 m))] (encI (ofZ (sgn b (val l) + sgn c (val m)))) := by
  refine fn_intro Tryz.func154 rfl cb154 rfl ?_
  show PWp _ _ _ _ ⟨[(0, (vb b)), (1, (vl 138 1 enc_u32 l)), (2, (vb c)), (3, (vl 138 1 enc_u32 m))], []⟩
  refine pwp_seq <| kx [(8, (.ref 0 0))] [(0, some (bx (encI (RInt.mk false []))))] (zN (oAl 0 ze30 zo30) <| zZ) ?_
  refine pwp_seq <| pwp_block <| pwp_seq <| kx [(9, (vb (b == c)))] [] (zM <| zM <| zE (oEb bo4) <| zM <| zZ) ?_
  refine pwp_cond (b := (b == c)) rfl (fun h1 => ?_) (fun h1 => ?_)
  · replace h1 := eq_of_beq h1
    refine pwp_seq <| kx [] [(0, some (bx (encI (mkI b (val (ofNat (val l + val m)))))))] (zM <| zM <| zM <| zE (oCl (t_plus l m hl.1 hm.1 (by omega) (by omega))) <| zE (oCl (t_made b (ofNat (val l + val m)) (ofNat_dig _) (Nat.le_trans (add_len hl.1 hm.1) (by omega)))) <| zT (oSt sh30) <| zZ) ?_
    refine pwp_ret ⟨_, (res_a (cs := (bx (encI (mkI b (val (ofNat (val l + val m))))))) (d := (encI (mkI b (val (ofNat (val l + val m)))))) rfl rfl sh30 rfl rfl .nil), ?_⟩
    rw [← sum_same h1]; rfl
  · replace h1 := ne_of_beq_false h1
    refine pwp_seq <| kx [(18, (vb (decide (0 ≤ (cmpI ((val l : Nat) : Int) ((val m : Nat) : Int))))))] [] (zM <| zM <| zE (oCl (t_compare l m (by assumption) (by assumption) (by omega))) <| zE oGe <| zM <| zZ) ?_
    refine pwp_cond rfl (fun h2 => ?_) (fun h2 => ?_)
    · replace h2 := of_decide_eq_true h2
      refine pwp_seq <| kx [] [(0, some (bx (encI (mkI b (val (ofNat (val l - val m)))))))] (zM <| zM <| zM <| zE (oCl (t_minus l m hl.1 hm.1 (by have := cmpI_ge h2; omega) (by omega))) <| zE (oCl (t_made b (ofNat (val l - val m)) (ofNat_dig _) (Nat.le_trans (sub_len hl.1) (by omega)))) <| zT (oSt sh30) <| zZ) ?_
      refine pwp_ret ⟨_, (res_a (cs := (bx (encI (mkI b (val (ofNat (val l - val m))))))) (d := (encI (mkI b (val (ofNat (val l - val m)))))) rfl rfl sh30 rfl rfl .nil), ?_⟩
      rw [← sum_first h1 (by have := cmpI_ge h2; omega)]; rfl
    · replace h2 := of_decide_eq_false h2
      refine pwp_skip <| pwp_seq <| kx [] [(0, some (bx (encI (mkI c (val (ofNat (val m - val l)))))))] (zM <| zM <| zM <| zE (oCl (t_minus m l hm.1 hl.1 (by have := cmpI_lt h2; omega) (by omega))) <| zE (oCl (t_made c (ofNat (val m - val l)) (ofNat_dig _) (Nat.le_trans (sub_len hm.1) (by omega)))) <| zT (oSt sh30) <| zZ) ?_
      refine pwp_ret ⟨_, (res_a (cs := (bx (encI (mkI c (val (ofNat (val m - val l))))))) (d := (encI (mkI c (val (ofNat (val m - val l)))))) rfl rfl sh30 rfl rfl .nil), ?_⟩
      rw [← sum_second h1 (by have := cmpI_lt h2; omega)]; rfl
theorem t_add (x : RInt) (y : RInt) (hx : x.gs.length ≤ 1099511627776) (hy : y.gs.length ≤ 1099511627776) : Takes Tryz.prog 151 [(encI x), (encI y)] (encI (ofZ (toZ x + toZ y))) := by
  refine fn_intro Tryz.func151 rfl cb151 rfl ?_
  show PWp _ _ _ _ ⟨[(0, (.d (encI x))), (1, (.d (encI y)))], []⟩
  refine pwp_seq <| kx [(2, (.ref 0 0)), (3, (.ref 1 0)), (4, (.ref 2 0))] [(0, some (bx (encI x))), (1, some (bx (encI y))), (2, some (bx (encI (RInt.mk false []))))] (zN (oBx 0) <| zN (oBx 1) <| zN (oAl 2 ze30 zo30) <| zZ) ?_
  refine pwp_seq <| kd [] [(2, some (bx (encI (ofZ (sgn x.neg (val (grpI x)) + sgn y.neg (val (grpI y)))))))] mo (wE (oFr fo30_0) <| wR (oL1 sh4) <| wR (oLa sh30) <| wE (oCl (t_groups x (by omega))) <| wE (oFr fo30_0) <| wR (oL1 sh4) <| wR (oLa sh30) <| wE (oCl (t_groups y (by omega))) <| wE (oCl (t_sum x.neg (grpI x) y.neg (grpI y) (grpI_can _) (grpI_can _) (Nat.le_trans (grpI_len _) (by omega)) (Nat.le_trans (grpI_len _) (by omega)))) <| wT (oSt sh30) <| wZ) ?_
  refine pwp_ret ⟨_, (res_a (cs := (bx (encI (ofZ (sgn x.neg (val (grpI x)) + sgn y.neg (val (grpI y))))))) (d := (encI (ofZ (sgn x.neg (val (grpI x)) + sgn y.neg (val (grpI y)))))) rfl rfl sh30 rfl rfl .nil), ?_⟩
  rfl
theorem t_sub (x : RInt) (y : RInt) (hx : x.gs.length ≤ 1099511627776) (hy : y.gs.length ≤ 1099511627776) : Takes Tryz.prog 125 [(encI x), (encI y)] (encI (ofZ (toZ x - toZ y))) := by
  refine fn_intro Tryz.func125 rfl cb125 rfl ?_
  show PWp _ _ _ _ ⟨[(0, (.d (encI x))), (1, (.d (encI y)))], []⟩
  refine pwp_seq <| kx [(2, (.ref 0 0)), (3, (.ref 1 0)), (4, (.ref 2 0))] [(0, some (bx (encI x))), (1, some (bx (encI y))), (2, some (bx (encI (RInt.mk false []))))] (zN (oBx 0) <| zN (oBx 1) <| zN (oAl 2 ze30 zo30) <| zZ) ?_
  refine pwp_seq <| kd [] [(2, some (bx (encI (ofZ (sgn x.neg (val (grpI x)) + sgn (!y.neg) (val (grpI y)))))))] mo (wE (oFr fo30_0) <| wR (oL1 sh4) <| wR (oLa sh30) <| wE (oCl (t_groups x (by omega))) <| wE (oFr fo30_0) <| wR (oL1 sh4) <| wE oNt <| wR (oLa sh30) <| wE (oCl (t_groups y (by omega))) <| wE (oCl (t_sum x.neg (grpI x) (!y.neg) (grpI y) (grpI_can _) (grpI_can _) (Nat.le_trans (grpI_len _) (by omega)) (Nat.le_trans (grpI_len _) (by omega)))) <| wT (oSt sh30) <| wZ) ?_
  refine pwp_ret ⟨_, (res_a (cs := (bx (encI (ofZ (sgn x.neg (val (grpI x)) + sgn (!y.neg) (val (grpI y))))))) (d := (encI (ofZ (sgn x.neg (val (grpI x)) + sgn (!y.neg) (val (grpI y)))))) rfl rfl sh30 rfl rfl .nil), ?_⟩
  rw [← sub_sgn]; rfl
theorem t_mul (x : RInt) (y : RInt) (hx : x.gs.length ≤ 1099511627776) (hy : y.gs.length ≤ 1099511627776) : Takes Tryz.prog 92 [(encI x), (encI y)] (encI (ofZ (toZ x * toZ y))) := by
  refine fn_intro Tryz.func92 rfl cb92 rfl ?_
  show PWp _ _ _ _ ⟨[(0, (.d (encI x))), (1, (.d (encI y)))], []⟩
  refine pwp_seq <| kx [(2, (.ref 0 0)), (3, (.ref 1 0)), (4, (.ref 2 0))] [(0, some (bx (encI x))), (1, some (bx (encI y))), (2, some (bx (encI (RInt.mk false []))))] (zN (oBx 0) <| zN (oBx 1) <| zN (oAl 2 ze30 zo30) <| zZ) ?_
  refine pwp_seq <| kd [] [(2, some (bx (encI (mkI (!(x.neg == y.neg)) (val (ofNat (val (grpI x) * val (grpI y))))))))] mo (wE (oFr fo30_0) <| wR (oL1 sh4) <| wE (oFr fo30_0) <| wR (oL1 sh4) <| wE (oNb bo4) <| wR (oLa sh30) <| wE (oCl (t_groups x (by omega))) <| wR (oLa sh30) <| wE (oCl (t_groups y (by omega))) <| wE (oCl (t_times (grpI x) (grpI y) (grpI_can _).1 (grpI_can _).1 (Nat.le_trans (grpI_len _) (by omega)) (Nat.le_trans (grpI_len _) (by omega)))) <| wE (oCl (t_made (!(x.neg == y.neg)) (ofNat (val (grpI x) * val (grpI y))) (ofNat_dig _) (Nat.le_trans (mul_len (grpI_can _).1 (grpI_can _).1) (by have := grpI_len x; have := grpI_len y; omega)))) <| wT (oSt sh30) <| wZ) ?_
  refine pwp_ret ⟨_, (res_a (cs := (bx (encI (mkI (!(x.neg == y.neg)) (val (ofNat (val (grpI x) * val (grpI y)))))))) (d := (encI (mkI (!(x.neg == y.neg)) (val (ofNat (val (grpI x) * val (grpI y))))))) rfl rfl sh30 rfl rfl .nil), ?_⟩
  rw [show toZ x * toZ y = _ from rfl, toZ, toZ, ← mul_eq]; rfl
theorem t_of (n : Int) (hlo : -9223372036854775808 ≤ n) (hhi : n ≤ 9223372036854775807) : Takes Tryz.prog 86 [(.val (.int .i64 (n)))] (encI (ofZ n)) := by
  refine fn_intro Tryz.func86 rfl cb86 rfl ?_
  show PWp _ _ _ _ ⟨[(0, (vi n))], []⟩
  refine pwp_seq <| kx [(2, (.ref 0 0))] [(0, some (bx (encI (RInt.mk false []))))] (zN (oAl 0 ze30 zo30) <| zZ) ?_
  refine pwp_seq <| kx [(3, (vqn ((n % 18446744073709551616).toNat)))] [] (zM <| zE (oCv un3 in140 ((n % 18446744073709551616).toNat) (hr := by exact (conv_u64 _))) <| zM <| zZ) ?_
  refine pwp_seq <| pwp_seq <| kx [(7, (vb (decide (n < 0))))] [] (zM <| zE oLt <| zZ) ?_
  refine pwp_cond (b := decide (n < 0)) rfl (fun h1 => ?_) (fun h1 => ?_)
  · replace h1 := of_decide_eq_true h1
    refine kx [(3, (vqn ((-n).toNat)))] [] (zM <| zE (oNg (((-n).toNat : Nat) : Int) (hr := by exact (neg_u64 (by assumption) hlo))) <| zM <| zZ) ?_
    refine pwp_seq <| kx [] [(0, some (bx (encI (mkI (decide (n < 0)) (val (ofNat ((-n).toNat)))))))] (zM <| zE oLt <| zM <| zE (oCl (t_split ((-n).toNat) (by omega))) <| zE (oCl (t_made (decide (n < 0)) (ofNat ((-n).toNat)) (ofNat_dig _) (Nat.le_trans (ofNat_len3 (by omega)) (by decide)))) <| zT (oSt sh30) <| zZ) ?_
    refine pwp_ret ⟨_, (res_a (cs := (bx (encI (mkI (decide (n < 0)) (val (ofNat ((-n).toNat))))))) (d := (encI (mkI (decide (n < 0)) (val (ofNat ((-n).toNat)))))) rfl rfl sh30 rfl rfl .nil), ?_⟩
    rw [of_neg h1]; rfl
  · replace h1 := of_decide_eq_false h1
    refine pwp_skip <| pwp_seq <| kx [] [(0, some (bx (encI (mkI (decide (n < 0)) (val (ofNat ((n % 18446744073709551616).toNat)))))))] (zM <| zE oLt <| zM <| zE (oCl (t_split ((n % 18446744073709551616).toNat) (by omega))) <| zE (oCl (t_made (decide (n < 0)) (ofNat ((n % 18446744073709551616).toNat)) (ofNat_dig _) (Nat.le_trans (ofNat_len3 (by omega)) (by decide)))) <| zT (oSt sh30) <| zZ) ?_
    refine pwp_ret ⟨_, (res_a (cs := (bx (encI (mkI (decide (n < 0)) (val (ofNat ((n % 18446744073709551616).toNat))))))) (d := (encI (mkI (decide (n < 0)) (val (ofNat ((n % 18446744073709551616).toNat)))))) rfl rfl sh30 rfl rfl .nil), ?_⟩
    rw [of_pos h1 hhi]; rfl
theorem t_compareI (x : RInt) (y : RInt) (hx : x.gs.length ≤ 1099511627776) (hy : y.gs.length ≤ 1099511627776) : Takes Tryz.prog 134 [(encI x), (encI y)] (.val (.int .i64 ((cmpI (toZ x) (toZ y))))) := by
  refine fn_intro Tryz.func134 rfl cb134 rfl ?_
  show PWp _ _ _ _ ⟨[(0, (.d (encI x))), (1, (.d (encI y)))], []⟩
  refine pwp_seq <| kx [(2, (.ref 0 0)), (3, (.ref 1 0))] [(0, some (bx (encI x))), (1, some (bx (encI y)))] (zN (oBx 0) <| zN (oBx 1) <| zM <| zZ) ?_
  refine pwp_seq <| pwp_seq <| kd [(5, (vi (signI (toZ x)))), (6, (vi (signI (toZ y))))] [] mo (wR (oLa sh30) <| wE (oCl (t_sign x (by omega))) <| wR (oLa sh30) <| wE (oCl (t_sign y (by omega))) <| wM <| wM <| wZ) ?_
  refine pwp_seq <| kx [(14, (vb ((signI (toZ x)) != (signI (toZ y)))))] [] (zM <| zM <| zE oNe <| zZ) ?_
  refine pwp_cond (b := ((signI (toZ x)) != (signI (toZ y)))) rfl (fun h1 => ?_) (fun h1 => ?_)
  · replace h1 := bne_iff_ne.1 h1
    refine pwp_seq <| kx [(4, (vi (cmpI (signI (toZ x)) (signI (toZ y)))))] [] (zM <| zM <| zE (oCl (t_cmp_int (signI (toZ x)) (signI (toZ y)))) <| zM <| zZ) ?_
    refine pwp_ret ⟨_, (.tmp (d := (.val (.int .i64 ((cmpI (signI (toZ x)) (signI (toZ y))))))) rfl .nil), ?_⟩
    rw [← cmp_sign h1]; rfl
  · replace h1 := bne_eq_false_iff_eq.1 h1
    refine pwp_skip <| pwp_seq <| kd [(7, (vi (cmpI ((val (grpI x) : Nat) : Int) ((val (grpI y) : Nat) : Int))))] [] mo (wR (oLa sh30) <| wE (oCl (t_groups x (by omega))) <| wR (oLa sh30) <| wE (oCl (t_groups y (by omega))) <| wE (oCl (t_compare (grpI x) (grpI y) (grpI_can _) (grpI_can _) (Nat.le_trans (grpI_len _) (by omega)))) <| wM <| wZ) ?_
    refine pwp_seq <| pwp_seq <| kx [(24, (vb x.neg))] [] (zE (oFr fo30_0) <| zR (oL1 sh4) <| zZ) ?_
    refine pwp_cond (b := x.neg) rfl (fun h2 => ?_) (fun h2 => ?_)
    · refine pwp_seq <| kx [(4, (vi (-(cmpI ((val (grpI x) : Nat) : Int) ((val (grpI y) : Nat) : Int)))))] [] (zM <| zE (oNg (-(cmpI ((val (grpI x) : Nat) : Int) ((val (grpI y) : Nat) : Int))) (hr := by exact (wi64 (by omega) (by have := cmpI_range ((val (grpI x) : Nat) : Int) ((val (grpI y) : Nat) : Int); omega) (by have := cmpI_range ((val (grpI x) : Nat) : Int) ((val (grpI y) : Nat) : Int); omega)))) <| zM <| zZ) ?_
      refine pwp_ret ⟨_, (.tmp (d := (.val (.int .i64 (-(cmpI ((val (grpI x) : Nat) : Int) ((val (grpI y) : Nat) : Int)))))) rfl .nil), ?_⟩
      rw [← cmp_neg h1 h2]; rfl
    · refine pwp_skip <| pwp_seq <| kx [(4, (vi (cmpI ((val (grpI x) : Nat) : Int) ((val (grpI y) : Nat) : Int))))] [] (zM <| zM <| zZ) ?_
      refine pwp_ret ⟨_, (.tmp (d := (.val (.int .i64 ((cmpI ((val (grpI x) : Nat) : Int) ((val (grpI y) : Nat) : Int)))))) rfl .nil), ?_⟩
      rw [← cmp_pos h1 h2]; rfl
end Go.Proofs.YtadkkhdnccljcaaGreat
