/- Part 15 of a proof: rules, plain facts, and functions walked. -/
import Derived.Test.YtbecgnplakngdaaGreatM14
import Derived.Test.YtbecgnplakngdaaGreatM10
import Derived.Test.YtbecgnplakngdaaGreatM9
import Derived.Test.YtbecgnplakngdaaGreatChecked
import Derived.RangeFuncBox
import Derived.Shelf.Abstract
import Derived.OwnWalkIn
import Derived.TacticsInMore
import Derived.LoopNIn
import Derived.LoopIn
namespace Go.Proofs.YtbecgnplakngdaaGreat
open Go.Fid
set_option maxRecDepth 4000
set_option linter.unusedVariables false
set_option linter.unusedSimpArgs false
theorem bo4 : boolB Tryz.prog 4 = true := by kernel_rfl
theorem cb138 : callB Tryz.prog 138 = true := by kernel_rfl
theorem cb140 : callB Tryz.prog 140 = true := by kernel_rfl
theorem cb142 : callB Tryz.prog 142 = true := by kernel_rfl
theorem cb144 : callB Tryz.prog 144 = true := by kernel_rfl
theorem cb177 : callB Tryz.prog 177 = true := by kernel_rfl
theorem cb188 : callB Tryz.prog 188 = true := by kernel_rfl
theorem cb212 : callB Tryz.prog 212 = true := by kernel_rfl
theorem cb215 : callB Tryz.prog 215 = true := by kernel_rfl
theorem un3 : (Tryz.prog.underlying 3).isSome = true := by kernel_rfl
theorem t_sign (x : jF) (hx : x.gs.length ≤ 1099511627776) : kF Tryz.prog 138 [(jH x)] (.val (.int .i64 ((qX (kK x))))) := by
 refine jL Tryz.func138 rfl cb138 rfl ?_
 show uK _ _ _ _ ⟨[(0, (.d (jH x)))], []⟩
 refine jA <| kx [(1, (.ref 0 0))] [(0, some (bx (jH x)))] (zN (uX 0) <| zM <| zZ) ?_
 refine jA <| jE <| jA <| kx [(3, (vb ((((qD x).length : Nat) : Int) == 0)))] [] (zR (kA jI) <| zE (kC (gR x (by omega))) <| zE (nC kV (L := (qD x))) <| zE aO <| zM <| zZ) ?_
 refine jQ (b := ((((qD x).length : Nat) : Int) == 0)) rfl (fun h1 => ?_) (fun h1 => ?_)
 ·replace h1 := eq_of_beq h1
  refine jA <| kx [(2, (kE 0))] [] (zM <| zZ) ?_
  refine jG ⟨_, (.tmp (d := (.val (.int .i64 (0)))) rfl .nil), ?_⟩
  rw [toZ_nil h1]; rfl
 ·replace h1 := ne_of_beq_false h1
  refine jA <| kx [(8, (vb x.neg))] [] (zE (kU uS) <| zR (uM eI) <| zM <| zZ) ?_
  refine jQ (b := x.neg) rfl (fun h2 => ?_) (fun h2 => ?_)
  ·refine jA <| kx [(2, (vi (-1)))] [] (zM <| zZ) ?_
   refine jG ⟨_, (.tmp (d := (.val (.int .i64 (-1)))) rfl .nil), ?_⟩
   rw [sign_neg h1 h2]; rfl
  ·refine jD <| jA <| kx [(2, (kE 1))] [] (zM <| zZ) ?_
   refine jG ⟨_, (.tmp (d := (.val (.int .i64 (1)))) rfl .nil), ?_⟩
   rw [sign_pos h1 h2]; rfl
theorem t_neg (x : jF) (hx : x.gs.length ≤ 1099511627776) : kF Tryz.prog 177 [(jH x)] (jH (jK (-kK x))) := by
 refine jL Tryz.func177 rfl cb177 rfl ?_
 show uK _ _ _ _ ⟨[(0, (.d (jH x)))], []⟩
 refine jA <| kx [(1, (.ref 0 0)), (2, (.ref 1 0))] [(0, some (bx (jH x))), (1, some (bx (jH (jF.mk false []))))] (zN (uX 0) <| zN (qH 1 uD uE) <| zZ) ?_
 refine jA <| kd [] [(1, some (bx (jH (zI (!x.neg) (val (qD x))))))] mo (wE (kU uS) <| wR (uM eI) <| wE eX <| wR (kA jI) <| wE (kC (gR x (by omega))) <| wE (kC (t_clone (qD x) (Nat.le_trans (yV _) (by omega)))) <| wE (kC (dM (!x.neg) (qD x) (uB _).1 (Nat.le_trans (yV _) (by omega)))) <| wT (kR jI) <| wZ) ?_
 refine jG ⟨_, (qB (cs := (bx (jH (zI (!x.neg) (val (qD x)))))) (d := (jH (zI (!x.neg) (val (qD x))))) rfl rfl jI rfl rfl .nil), ?_⟩
 rw [← neg_eq]; rfl
theorem t_sum (b : Bool) (l : List Nat) (c : Bool) (m : List Nat) (hl : gS l) (hm : gS m) (hll : l.length ≤ 1099511627776) (hlm : m.length ≤ 1099511627776) : kF Tryz.prog 212 [(.val (.bool (b))), (.sl 152 1 (List.map jB l)), (.val (.bool (c))), (.sl 152 1 (List.map jB m))] (jH (jK (mN b (val l) + mN c (val m)))) := by
 refine jL Tryz.func212 rfl cb212 rfl ?_
 show uK _ _ _ _ ⟨[(0, (vb b)), (1, (vl 152 1 jB l)), (2, (vb c)), (3, (vl 152 1 jB m))], []⟩
 refine jA <| kx [(8, (.ref 0 0))] [(0, some (bx (jH (jF.mk false []))))] (zN (qH 0 uD uE) <| zZ) ?_
 refine jA <| jE <| jA <| kx [(9, (vb (b == c)))] [] (zM <| zM <| zE (oEb bo4) <| zM <| zZ) ?_
 refine jQ (b := (b == c)) rfl (fun h1 => ?_) (fun h1 => ?_)
 ·replace h1 := eq_of_beq h1
  refine jA <| kx [] [(0, some (bx (jH (zI b (val (ofNat (val l + val m)))))))] (zM <| zM <| zM <| zE (kC (t_plus l m hl.1 hm.1 (by omega) (by omega))) <| zE (kC (dM b (ofNat (val l + val m)) (qA _) (Nat.le_trans (add_len hl.1 hm.1) (by omega)))) <| zT (kR jI) <| zZ) ?_
  refine jG ⟨_, (qB (cs := (bx (jH (zI b (val (ofNat (val l + val m))))))) (d := (jH (zI b (val (ofNat (val l + val m)))))) rfl rfl jI rfl rfl .nil), ?_⟩
  rw [← sum_same h1]; rfl
 ·replace h1 := ne_of_beq_false h1
  refine jA <| kx [(18, (vb (decide (0 ≤ (xC ((val l : Nat) : Int) ((val m : Nat) : Int))))))] [] (zM <| zM <| zE (kC (t_compare l m (by assumption) (by assumption) (by omega))) <| zE oGe <| zM <| zZ) ?_
  refine jQ rfl (fun h2 => ?_) (fun h2 => ?_)
  ·replace h2 := of_decide_eq_true h2
   refine jA <| kx [] [(0, some (bx (jH (zI b (val (ofNat (val l - val m)))))))] (zM <| zM <| zM <| zE (kC (t_minus l m hl.1 hm.1 (by have := lA h2; omega) (by omega))) <| zE (kC (dM b (ofNat (val l - val m)) (qA _) (Nat.le_trans (sub_len hl.1) (by omega)))) <| zT (kR jI) <| zZ) ?_
   refine jG ⟨_, (qB (cs := (bx (jH (zI b (val (ofNat (val l - val m))))))) (d := (jH (zI b (val (ofNat (val l - val m)))))) rfl rfl jI rfl rfl .nil), ?_⟩
   rw [← sum_first h1 (by have := lA h2; omega)]; rfl
  ·replace h2 := of_decide_eq_false h2
   refine jD <| jA <| kx [] [(0, some (bx (jH (zI c (val (ofNat (val m - val l)))))))] (zM <| zM <| zM <| zE (kC (t_minus m l hm.1 hl.1 (by have := cmpI_lt h2; omega) (by omega))) <| zE (kC (dM c (ofNat (val m - val l)) (qA _) (Nat.le_trans (sub_len hm.1) (by omega)))) <| zT (kR jI) <| zZ) ?_
   refine jG ⟨_, (qB (cs := (bx (jH (zI c (val (ofNat (val m - val l))))))) (d := (jH (zI c (val (ofNat (val m - val l)))))) rfl rfl jI rfl rfl .nil), ?_⟩
   rw [← sum_second h1 (by have := cmpI_lt h2; omega)]; rfl
theorem t_add (x : jF) (y : jF) (hx : x.gs.length ≤ 1099511627776) (hy : y.gs.length ≤ 1099511627776) : kF Tryz.prog 188 [(jH x), (jH y)] (jH (jK (kK x + kK y))) := by
 refine jL Tryz.func188 rfl cb188 rfl ?_
 show uK _ _ _ _ ⟨[(0, (.d (jH x))), (1, (.d (jH y)))], []⟩
 refine jA <| kx [(2, (.ref 0 0)), (3, (.ref 1 0)), (4, (.ref 2 0))] [(0, some (bx (jH x))), (1, some (bx (jH y))), (2, some (bx (jH (jF.mk false []))))] (zN (uX 0) <| zN (uX 1) <| zN (qH 2 uD uE) <| zZ) ?_
 refine jA <| kd [] [(2, some (bx (jH (jK (mN x.neg (val (qD x)) + mN y.neg (val (qD y)))))))] mo (wE (kU uS) <| wR (uM eI) <| wR (kA jI) <| wE (kC (gR x (by omega))) <| wE (kU uS) <| wR (uM eI) <| wR (kA jI) <| wE (kC (gR y (by omega))) <| wE (kC (t_sum x.neg (qD x) y.neg (qD y) (uB _) (uB _) (Nat.le_trans (yV _) (by omega)) (Nat.le_trans (yV _) (by omega)))) <| wT (kR jI) <| wZ) ?_
 refine jG ⟨_, (qB (cs := (bx (jH (jK (mN x.neg (val (qD x)) + mN y.neg (val (qD y))))))) (d := (jH (jK (mN x.neg (val (qD x)) + mN y.neg (val (qD y)))))) rfl rfl jI rfl rfl .nil), ?_⟩
 rfl
theorem t_sub (x : jF) (y : jF) (hx : x.gs.length ≤ 1099511627776) (hy : y.gs.length ≤ 1099511627776) : kF Tryz.prog 215 [(jH x), (jH y)] (jH (jK (kK x - kK y))) := by
 refine jL Tryz.func215 rfl cb215 rfl ?_
 show uK _ _ _ _ ⟨[(0, (.d (jH x))), (1, (.d (jH y)))], []⟩
 refine jA <| kx [(2, (.ref 0 0)), (3, (.ref 1 0)), (4, (.ref 2 0))] [(0, some (bx (jH x))), (1, some (bx (jH y))), (2, some (bx (jH (jF.mk false []))))] (zN (uX 0) <| zN (uX 1) <| zN (qH 2 uD uE) <| zZ) ?_
 refine jA <| kd [] [(2, some (bx (jH (jK (mN x.neg (val (qD x)) + mN (!y.neg) (val (qD y)))))))] mo (wE (kU uS) <| wR (uM eI) <| wR (kA jI) <| wE (kC (gR x (by omega))) <| wE (kU uS) <| wR (uM eI) <| wE eX <| wR (kA jI) <| wE (kC (gR y (by omega))) <| wE (kC (t_sum x.neg (qD x) (!y.neg) (qD y) (uB _) (uB _) (Nat.le_trans (yV _) (by omega)) (Nat.le_trans (yV _) (by omega)))) <| wT (kR jI) <| wZ) ?_
 refine jG ⟨_, (qB (cs := (bx (jH (jK (mN x.neg (val (qD x)) + mN (!y.neg) (val (qD y))))))) (d := (jH (jK (mN x.neg (val (qD x)) + mN (!y.neg) (val (qD y)))))) rfl rfl jI rfl rfl .nil), ?_⟩
 rw [← sub_sgn]; rfl
theorem t_mul (x : jF) (y : jF) (hx : x.gs.length ≤ 1099511627776) (hy : y.gs.length ≤ 1099511627776) : kF Tryz.prog 140 [(jH x), (jH y)] (jH (jK (kK x * kK y))) := by
 refine jL Tryz.func140 rfl cb140 rfl ?_
 show uK _ _ _ _ ⟨[(0, (.d (jH x))), (1, (.d (jH y)))], []⟩
 refine jA <| kx [(2, (.ref 0 0)), (3, (.ref 1 0)), (4, (.ref 2 0))] [(0, some (bx (jH x))), (1, some (bx (jH y))), (2, some (bx (jH (jF.mk false []))))] (zN (uX 0) <| zN (uX 1) <| zN (qH 2 uD uE) <| zZ) ?_
 refine jA <| kd [] [(2, some (bx (jH (zI (!(x.neg == y.neg)) (val (ofNat (val (qD x) * val (qD y))))))))] mo (wE (kU uS) <| wR (uM eI) <| wE (kU uS) <| wR (uM eI) <| wE (oNb bo4) <| wR (kA jI) <| wE (kC (gR x (by omega))) <| wR (kA jI) <| wE (kC (gR y (by omega))) <| wE (kC (t_times (qD x) (qD y) (uB _).1 (uB _).1 (Nat.le_trans (yV _) (by omega)) (Nat.le_trans (yV _) (by omega)))) <| wE (kC (dM (!(x.neg == y.neg)) (ofNat (val (qD x) * val (qD y))) (qA _) (Nat.le_trans (mul_len (uB _).1 (uB _).1) (by have := yV x; have := yV y; omega)))) <| wT (kR jI) <| wZ) ?_
 refine jG ⟨_, (qB (cs := (bx (jH (zI (!(x.neg == y.neg)) (val (ofNat (val (qD x) * val (qD y)))))))) (d := (jH (zI (!(x.neg == y.neg)) (val (ofNat (val (qD x) * val (qD y))))))) rfl rfl jI rfl rfl .nil), ?_⟩
 rw [show kK x * kK y = _ from rfl, kK, kK, ← mul_eq]; rfl
theorem t_of (n : Int) (hlo : -9223372036854775808 ≤ n) (hhi : n ≤ 9223372036854775807) : kF Tryz.prog 142 [(.val (.int .i64 (n)))] (jH (jK n)) := by
 refine jL Tryz.func142 rfl cb142 rfl ?_
 show uK _ _ _ _ ⟨[(0, (vi n))], []⟩
 refine jA <| kx [(2, (.ref 0 0))] [(0, some (bx (jH (jF.mk false []))))] (zN (qH 0 uD uE) <| zZ) ?_
 refine jA <| kx [(3, (gQ ((n % 18446744073709551616).toNat)))] [] (zM <| zE (mU un3 gA ((n % 18446744073709551616).toNat) (hr := by exact (conv_u64 _))) <| zM <| zZ) ?_
 refine jA <| jA <| kx [(7, (vb (decide (n < 0))))] [] (zM <| zE qS <| zZ) ?_
 refine jQ (b := decide (n < 0)) rfl (fun h1 => ?_) (fun h1 => ?_)
 ·replace h1 := of_decide_eq_true h1
  refine kx [(3, (gQ ((-n).toNat)))] [] (zM <| zE (oNg (((-n).toNat : Nat) : Int) (hr := by exact (neg_u64 (by assumption) hlo))) <| zM <| zZ) ?_
  refine jA <| kx [] [(0, some (bx (jH (zI (decide (n < 0)) (val (ofNat ((-n).toNat)))))))] (zM <| zE qS <| zM <| zE (kC (t_split ((-n).toNat) (by omega))) <| zE (kC (dM (decide (n < 0)) (ofNat ((-n).toNat)) (qA _) (Nat.le_trans (aA (by omega)) (by decide)))) <| zT (kR jI) <| zZ) ?_
  refine jG ⟨_, (qB (cs := (bx (jH (zI (decide (n < 0)) (val (ofNat ((-n).toNat))))))) (d := (jH (zI (decide (n < 0)) (val (ofNat ((-n).toNat)))))) rfl rfl jI rfl rfl .nil), ?_⟩
  rw [of_neg h1]; rfl
 ·replace h1 := of_decide_eq_false h1
  refine jD <| jA <| kx [] [(0, some (bx (jH (zI (decide (n < 0)) (val (ofNat ((n % 18446744073709551616).toNat)))))))] (zM <| zE qS <| zM <| zE (kC (t_split ((n % 18446744073709551616).toNat) (by omega))) <| zE (kC (dM (decide (n < 0)) (ofNat ((n % 18446744073709551616).toNat)) (qA _) (Nat.le_trans (aA (by omega)) (by decide)))) <| zT (kR jI) <| zZ) ?_
  refine jG ⟨_, (qB (cs := (bx (jH (zI (decide (n < 0)) (val (ofNat ((n % 18446744073709551616).toNat))))))) (d := (jH (zI (decide (n < 0)) (val (ofNat ((n % 18446744073709551616).toNat)))))) rfl rfl jI rfl rfl .nil), ?_⟩
  rw [of_pos h1 hhi]; rfl
theorem t_compareI (x : jF) (y : jF) (hx : x.gs.length ≤ 1099511627776) (hy : y.gs.length ≤ 1099511627776) : kF Tryz.prog 144 [(jH x), (jH y)] (.val (.int .i64 ((xC (kK x) (kK y))))) := by
 refine jL Tryz.func144 rfl cb144 rfl ?_
 show uK _ _ _ _ ⟨[(0, (.d (jH x))), (1, (.d (jH y)))], []⟩
 refine jA <| kx [(2, (.ref 0 0)), (3, (.ref 1 0))] [(0, some (bx (jH x))), (1, some (bx (jH y)))] (zN (uX 0) <| zN (uX 1) <| zM <| zZ) ?_
 refine jA <| jA <| kd [(5, (vi (qX (kK x)))), (6, (vi (qX (kK y))))] [] mo (wR (kA jI) <| wE (kC (t_sign x (by omega))) <| wR (kA jI) <| wE (kC (t_sign y (by omega))) <| wM <| wM <| wZ) ?_
 refine jA <| kx [(14, (vb ((qX (kK x)) != (qX (kK y)))))] [] (zM <| zM <| zE mR <| zZ) ?_
 refine jQ (b := ((qX (kK x)) != (qX (kK y)))) rfl (fun h1 => ?_) (fun h1 => ?_)
 ·replace h1 := bne_iff_ne.1 h1
  refine jA <| kx [(4, (vi (xC (qX (kK x)) (qX (kK y)))))] [] (zM <| zM <| zE (kC (t_cmp_int (qX (kK x)) (qX (kK y)))) <| zM <| zZ) ?_
  refine jG ⟨_, (.tmp (d := (.val (.int .i64 ((xC (qX (kK x)) (qX (kK y))))))) rfl .nil), ?_⟩
  rw [← cmp_sign h1]; rfl
 ·replace h1 := bne_eq_false_iff_eq.1 h1
  refine jD <| jA <| kd [(7, (vi (xC ((val (qD x) : Nat) : Int) ((val (qD y) : Nat) : Int))))] [] mo (wR (kA jI) <| wE (kC (gR x (by omega))) <| wR (kA jI) <| wE (kC (gR y (by omega))) <| wE (kC (t_compare (qD x) (qD y) (uB _) (uB _) (Nat.le_trans (yV _) (by omega)))) <| wM <| wZ) ?_
  refine jA <| jA <| kx [(24, (vb x.neg))] [] (zE (kU uS) <| zR (uM eI) <| zZ) ?_
  refine jQ (b := x.neg) rfl (fun h2 => ?_) (fun h2 => ?_)
  ·refine jA <| kx [(4, (vi (-(xC ((val (qD x) : Nat) : Int) ((val (qD y) : Nat) : Int)))))] [] (zM <| zE (oNg (-(xC ((val (qD x) : Nat) : Int) ((val (qD y) : Nat) : Int))) (hr := by exact (wi64 (by omega) (by have := cmpI_range ((val (qD x) : Nat) : Int) ((val (qD y) : Nat) : Int); omega) (by have := cmpI_range ((val (qD x) : Nat) : Int) ((val (qD y) : Nat) : Int); omega)))) <| zM <| zZ) ?_
   refine jG ⟨_, (.tmp (d := (.val (.int .i64 (-(xC ((val (qD x) : Nat) : Int) ((val (qD y) : Nat) : Int)))))) rfl .nil), ?_⟩
   rw [← cmp_neg h1 h2]; rfl
  ·refine jD <| jA <| kx [(4, (vi (xC ((val (qD x) : Nat) : Int) ((val (qD y) : Nat) : Int))))] [] (zM <| zM <| zZ) ?_
   refine jG ⟨_, (.tmp (d := (.val (.int .i64 ((xC ((val (qD x) : Nat) : Int) ((val (qD y) : Nat) : Int)))))) rfl .nil), ?_⟩
   rw [← cmp_pos h1 h2]; rfl
end Go.Proofs.YtbecgnplakngdaaGreat
namespace Go.Proofs.YtbecgnplakngdaaGreat
open Go.RowKit Go.Shelf
attribute [local go_sem] Oper.semAt_some
set_option maxRecDepth 100000 in
set_option maxHeartbeats 2000000 in
theorem trimV (b cap : Nat) (l : List Nat) (hd : Go.Fid.Dig l) (h0 : Go.Fid.val l ≠ 0) (w : World) (hc : ∀ i, i < l.length → w.cell? ⟨b, i, none⟩ = some (.int .u32 ((l.getD i 0 : Nat) : Int))) (h1 : l.length ≤ cap) (h2 : cap ≤ maxLen) :
    CallsIn Fence.wide 1 Tryz.prog 206 #[.slice (some ⟨b, 0, none⟩) l.length cap] w fun e w' => e = .returned (.slice (some ⟨b, 0, none⟩) (Go.Fid.ofNat (Go.Fid.val l)).length cap) ∧ w' = w := by
  refine callsIn_of_wp Tryz.func206 rfl trivial ?_ rfl
  simp only [Tryz.ntmps206, List.size_toArray, List.length_cons, List.length_nil, Nat.reduceAdd, Nat.reduceSub, Array.replicate_succ, Array.replicate_zero, List.push_toArray, List.append_toArray, List.nil_append, List.cons_append]
  gi_wp2
  gi_loopw [0] (fun i wr => ∃ j : Nat, j ≤ l.length ∧ 0 < j ∧ i = .slice (some ⟨b, 0, none⟩) j cap ∧ Go.Fid.val (l.take j) = Go.Fid.val l ∧ wr = w)
    (fun i _ => match i with | .slice _ n _ => n | _ => 0)
  case atStart =>
    have hl : 0 < l.length := by
      rcases l with _ | ⟨d, l⟩
      · exact absurd rfl h0
      · simp
    exact ⟨l.length, Nat.le_refl _, hl, rfl, by rw [List.take_length], rfl⟩
  case round =>
    obtain ⟨j, hj, hj0, rfl, hv, rfl⟩ := hrel
    have hcj := hc (j - 1) (by omega)
    have hj63 : (j : Int) ≤ 9223372036854775807 := by unfold maxLen at h2; omega
    have hv2 := Go.Fid.val_take_succ l (j - 1)
    rw [show j - 1 + 1 = j by omega] at hv2
    by_cases hz : l.getD (j - 1) 0 = 0
    · rw [hz] at hcj hv2
      have h1j : 0 < j - 1 := by
        rcases Nat.eq_zero_or_pos (j - 1) with e | e
        · rw [e, List.take_zero, Go.Fid.val_nil, Nat.mul_zero] at hv2
          omega
        · exact e
      gi_wp2
      go_roundw
      case rel => exact ⟨j - 1, by omega, h1j, by simp, by rw [← hv, hv2]; simp, trivial⟩
      case measure => simp; omega
    · gi_wp2
      · rename_i hq
        exfalso
        simp [List.getD] at hz hq
        omega
      · refine ⟨rfl, .slice (some ⟨b, 0, none⟩) j cap, by simp [results, Tryz.results206, go_sem], ?_⟩
        have e : Go.Fid.ofNat (Go.Fid.val l) = l.take j := by
          rw [← hv]
          refine (Go.Fid.can_eq ⟨hd.take j, ?_⟩).symm
          unfold Go.Fid.Top
          have h5 : (l.take j).length - 1 = j - 1 := by rw [List.length_take]; omega
          rw [h5]
          have h6 : j - 1 < l.length := by omega
          simp [List.getD, List.getElem?_eq_getElem h6, List.getElem?_take_of_lt (show j - 1 < j by omega)] at hz ⊢
          exact hz
        rw [e, List.length_take, Nat.min_eq_left hj]
        exact ⟨rfl, rfl⟩
theorem trim_cb : Go.Fid.callB Tryz.prog 206 = true := by kernel_rfl
open Go.Fid in
theorem e_trimO {o : Oper} {S : Nat → SV} {x : Operand} {ats : Array TypeId} {k T m : Nat} (l : List Nat) (ho : o.op = .call { callee := .value (.func 206), args := #[x], argTypes := ats }) (hx : ev S x = .own k T 1 m) (hl : l.length = m) (hd : Dig l) (h0 : val l ≠ 0) :
    vI Tryz.prog o S [(k, l.map (fun g => SV.d (jB g)))] (.own k T 1 (ofNat (val l)).length) :=
  fun a w D β Q hop hrd hD => by
    have hxv := hop x (by simp [ho, Op.operands, Call.operands])
    rw [hx] at hxv
    have hm : 0 < m := by
      rcases Nat.eq_zero_or_pos m with e | e
      · rw [e] at hl
        have := List.eq_nil_of_length_eq_zero hl
        subst this
        exact absurd rfl h0
      · exact e
    have hle : (ofNat (val l)).length ≤ l.length := vH (xS hd)
    rcases hxv with ⟨_, e, _⟩ | ⟨b, cap, vs, h1, h2, h3, h4, h5, h6⟩
    · omega
    · have hblk := hrd (k, l.map (fun g => SV.d (jB g))) (by simp)
      rcases hblk with ⟨g1, _⟩ | ⟨b', vs', T', g1, g2, g3, g4, g5⟩
      · rw [h1] at g1; cases g1
      · obtain rfl : b = b' := by rw [h1] at g1; injection g1
        rw [h3] at g2
        injection g2 with g2
        injection g2 with g2 gT
        subst g2; subst gT
        have hcell : ∀ i, w.cell? ⟨b, i, none⟩ = vs[i]? := fun i => cell_of_row w b i vs T (0, 0) h3
        have hrun : (execOp a.eval o).run Tryz.prog w = .ok (.enter 206 #[.slice (some ⟨b, 0, none⟩) l.length cap]) w := by
          simp only [execOp, ho, resolve, Deferred.ofValue, Act.eval, Sem.run_bind, Sem.run_pure, Result.andThen_ok, invoke, Array.empty_append, Array.append_empty]
          rw [gV trim_cb]
          simp [h2, hl]
        refine eN hrun (((callsIn_wide (n := 1)).1 (trimV b cap l hd h0 w (fun i hi => ?_) (by omega) h6)).mono fun e w' h => ?_)
        · rw [hcell]
          obtain ⟨u, e1, _, e3⟩ := g4 i (.d (jB (l.getD i 0))) (by rw [List.getElem?_map, List.getElem?_eq_getElem hi]; simp [List.getD, List.getElem?_eq_getElem hi])
          rw [e1, vT e3]
        · obtain ⟨he, rfl⟩ := h
          exact ⟨_, he, _, D, rfl, Below.refl _ _, ⟨fun _ _ _ h => h, fun _ _ _ h => .inl h⟩, .inr ⟨b, cap, vs, h1, rfl, h3, h4, by omega, h6⟩⟩
open Go.Fid in
theorem trim_take {l : List Nat} (hd : Dig l) : ofNat (val l) = l.take (ofNat (val l)).length := by
  have h1 : ∀ (n : Nat) (l : List Nat), l.length = n → Dig l → ofNat (val l) = l.take (ofNat (val l)).length := by
    intro n
    induction n with
    | zero => intro l hl _; rw [List.eq_nil_of_length_eq_zero hl]; rw [val_nil, vU]; rfl
    | succ n ih =>
      intro l hl hd
      have h2 := val_take_succ l n
      rw [← hl, List.take_length] at h2
      by_cases hz : l.getD n 0 = 0
      · rw [hz, Nat.mul_zero, Nat.add_zero] at h2
        have h3 := ih (l.take n) (by rw [List.length_take]; omega) (hd.take n)
        rw [← h2, List.take_take] at h3
        have h4 : (ofNat (val l)).length ≤ n := by
          rw [h2]; exact vH (by have := xS (hd.take n); rwa [List.length_take, Nat.min_eq_left (by omega)] at this)
        rw [Nat.min_eq_left h4] at h3
        exact h3
      · have h3 : gS l := ⟨hd, by
          unfold Top
          rw [show l.length - 1 = n by omega]
          have h6 : n < l.length := by omega
          simp [List.getD, List.getElem?_eq_getElem h6] at hz ⊢
          exact hz⟩
        rw [← can_eq h3, List.take_length]
  exact h1 _ l rfl hd
end Go.Proofs.YtbecgnplakngdaaGreat
namespace Go.Proofs.YtbecgnplakngdaaGreat
open Go.Fid
set_option maxRecDepth 4000
set_option linter.unusedVariables false
set_option linter.unusedSimpArgs false
theorem cb210 : callB Tryz.prog 210 = true := by kernel_rfl
theorem ze38 : xH Tryz.prog 38 = some [.slice none 0 0] := by kernel_rfl
theorem zo38 : mP [.slice none 0 0] [.sl 152 1 []] := by simp [mP, Value.oneCell']
theorem t_short (a : List Nat) (d : Nat) (hda : Dig a) (hd0 : 0 < d) (hd1 : d ≤ 1000000000) (hla : a.length ≤ 17592186044416) : kF Tryz.prog 210 [(.sl 152 1 (List.map jB a)), (.val (.int .u32 (((d : Nat) : Int))))] (.tup [(.sl 152 1 (List.map jB (ofNat (val a / d)))), (.val (.int .u32 ((((val a % d) : Nat) : Int))))]) := by
 refine jL Tryz.func210 rfl cb210 rfl ?_
 show uK _ _ _ _ ⟨[(0, (vl 152 1 jB a)), (1, (aG d))], []⟩
 refine jA <| kx [(3, (.ref 0 0)), (4, (.ref 1 0)), (5, (aG 0))] [(0, some (bx (.val (.int .u32 (((d : Nat) : Int)))))), (1, some (bx (.sl 152 1 (List.map jB []))))] (zN (uX 0) <| zN (qH 1 ze38 zo38) <| zM <| zZ) ?_
 refine jA <| kx [] [(1, some [(.own 2 152 1 a.length)]), (2, some (bm jB (List.replicate a.length 0)))] (zM <| zE (nC kV) <| zN (oMk 2 jB (0 : Nat) a.length a.length kV xP gH nT) <| zT (oSo xI) <| zZ) ?_
 refine jA <| kx [(6, (.ref 3 0))] [(3, some (bx (.val (.int .u64 (0)))))] (zH (qH 3 ze154 zo154) <| zT (kR sh154) <| zZ) ?_
 refine jA <| pwp_backL backs cb166 rfl 7 jB a 0 (fun (q, zG) => ⟨[(3, (.ref 0 0)), (4, (.ref 1 0)), (5, (aG 0)), (6, (.ref 3 0))], [(0, some (bx (.val (.int .u32 (((d : Nat) : Int)))))), (1, some [(.own 2 152 1 a.length)]), (2, some (bm jB q)), (3, some (bx (.val (.int .u64 (((zG : Nat) : Int))))))]⟩) (fun (j : Nat) (q, zG) => q.length = a.length ∧ Dig q ∧ zG < d ∧ val (a.drop (a.length - j)) = val (q.drop (a.length - j)) * d + zG) (List.replicate a.length 0, 0) rfl rfl rfl rfl rfl rfl rfl rfl rfl rfl rfl rfl (fun _ => rfl) (fun _ => rfl) wk ⟨by simp, yJ _, hd0, by simp [val, dY]⟩ (by omega) ?_ ?_
 ·rintro rl j ⟨q, zG⟩ hj ⟨vD, hdq, hr, hv⟩
  have hg := hda.getD (a.length - 1 - j)
  obtain ⟨hb1, hb2⟩ := short_bound hr hd1 hg
  refine jA <| kx [(7, (kE (a.length - 1 - j)))] [] (zM <| zZ) ?_
  refine kx [(8, (aG (a.getD (a.length - 1 - j) 0)))] [] (zM <| zZ) ?_
  refine jE <| jA <| kx [(9, (gQ ((zG * 1000000000) + (a.getD (a.length - 1 - j) 0))))] [] (zR (uM sh154) <| zE (oMl (zG * 1000000000)) <| zM <| zE (mU gG gA (a.getD (a.length - 1 - j) 0)) <| zE (qQ ((zG * 1000000000) + (a.getD (a.length - 1 - j) 0))) <| zM <| zZ) ?_
  refine kd [] [(2, some (bm jB (q.set (a.length - 1 - j) (((zG * 1000000000) + (a.getD (a.length - 1 - j) 0)) / d)))), (3, some (bx (.val (.int .u64 ((((((zG * 1000000000) + (a.getD (a.length - 1 - j) 0)) % d) : Nat) : Int))))))] mo (wR (uM xI) <| wM <| wM <| wR (uM uR) <| wE (mU gG gA d) <| wE (oQu (((zG * 1000000000) + (a.getD (a.length - 1 - j) 0)) / d)) <| wE (mU nD hH (((zG * 1000000000) + (a.getD (a.length - 1 - j) 0)) / d)) <| wM <| wR (uM uR) <| wE (mU gG gA d) <| wE (aI (((zG * 1000000000) + (a.getD (a.length - 1 - j) 0)) % d)) <| wE (oXo kV (a.length - 1 - j)) <| wT (oSp uR (a.length - 1 - j) (((zG * 1000000000) + (a.getD (a.length - 1 - j) 0)) / d)) <| wT (kR sh154) <| wZ) ?_
  exact ⟨(q.set (a.length - 1 - j) ((zG * 1000000000 + a.getD (a.length - 1 - j) 0) / d), (zG * 1000000000 + a.getD (a.length - 1 - j) 0) % d), wk, ⟨by simpa using vD, hdq.set _ hb2, Nat.mod_lt _ hd0, short_step hj vD hv rfl⟩⟩
 ·rintro ⟨q, zG⟩ ⟨vD, hdq, hr, hv⟩
  obtain ⟨e1, e2⟩ := short_end hv hr
  refine jA <| kX (publishB (j := 1) (k := 2) (es := List.map jB q) rfl rfl rfl (xV _ _ (fun _ => rfl)) (xU _ _ vD) (yF _ _ (fun _ => rfl) vD)) ?_
  refine kd [(5, (aG zG))] [(1, some (bx (.sl 152 1 (List.map jB (ofNat (val q))))))] mo (wR (uM xI) <| wE (kC (t_trim q (by assumption) (by omega))) <| wR (uM sh154) <| wE (mU nD hH zG) <| wT (kR xI) <| wM <| wZ) ?_
  refine jG ⟨_, (res_1 (cs := (bx (.sl 152 1 (List.map jB (ofNat (val q)))))) (d := (.sl 152 1 (List.map jB (ofNat (val q))))) rfl rfl xI rfl rfl (.tmp (d := (.val (.int .u32 (((zG : Nat) : Int))))) rfl .nil)), ?_⟩
  rw [← e1, ← e2]; rfl
theorem o_times (a b : List Nat) (hda : Dig a) (hdb : Dig b) (hla : a.length ≤ 4398046511104) (hlb : b.length ≤ 4398046511104) (h0 : 0 < val a * val b) : TakesO Tryz.prog 179 [(.sl 152 1 (List.map jB a)), (.sl 152 1 (List.map jB b))] 152 1 (ofNat (val a * val b)).length (List.map jB (ofNat (val a * val b))) := by
 refine fn_introO Tryz.func179 rfl cb179 rfl (eA h0) ?_
 show uK _ _ _ _ ⟨[(0, (vl 152 1 jB a)), (1, (vl 152 1 jB b))], []⟩
 refine jA <| kx [] [] (zE (oNl 152 1) <| zZ) ?_
 refine jA <| kx [(5, (.own 0 152 1 (a.length + b.length)))] [(0, some (bm jB (List.replicate (a.length + b.length) 0)))] (zM <| zE (nC kV) <| zM <| zE (nC kV) <| zE (qQ (a.length + b.length)) <| zN (oMk 0 jB (0 : Nat) (a.length + b.length) (a.length + b.length) kV xP gH nT) <| zM <| zZ) ?_
 refine jA <| jA <| kx [(18, (vl 152 1 jB a)), (19, (kE a.length)), (20, (kE 0))] [] (zM <| zE (nC kV) <| zM <| zZ) ?_
 refine jE <| uA (α := Nat × List Nat) (fun (i, out) => ⟨[(1, (vl 152 1 jB b)), (5, (.own 0 152 1 (a.length + b.length))), (18, (vl 152 1 jB a)), (19, (kE a.length)), (20, (kE i))], [(0, some (bm jB out))]⟩) (fun (i, out) => out.length = a.length + b.length ∧ Dig out ∧ i ≤ a.length ∧ (∀ k, i + b.length ≤ k → out.getD k 0 = 0) ∧ val out = val (a.take i) * val b) (fun (i, out) => a.length - i) (0, List.replicate (a.length + b.length) 0) wk ⟨by simp, yJ _, Nat.zero_le _, fun k _ => aC _ k, by simp [val, dY]⟩ ?_
 rintro ⟨i, out⟩ ⟨vD, hdo, hi, hz, hv⟩
 have hai := hda.getD i
 refine jA <| kx [(21, (vb (decide (((i : Nat) : Int) < ((a.length : Nat) : Int)))))] [] (zE qS <| zZ) ?_
 refine jA <| jQ rfl (fun h1 => ?_) (fun h1 => ?_)
 ·replace h1 := of_decide_eq_true h1
  refine jD <| jA <| jE <| jA <| kx [(6, (kE i)), (7, (aG (a.getD i 0)))] [] (zM <| zE (eP kV i (0 : Nat)) <| zE (yN uR) <| zM <| zM <| zZ) ?_
  refine jA <| kx [(8, (gQ 0))] [] (zM <| zZ) ?_
  refine jA <| jA <| kx [(25, (vl 152 1 jB b)), (26, (kE b.length)), (27, (kE 0))] [] (zM <| zE (nC kV) <| zM <| zZ) ?_
  refine jE <| uA (α := Nat × List Nat × Nat) (fun (j, o2, c) => ⟨[(1, (vl 152 1 jB b)), (5, (.own 0 152 1 (a.length + b.length))), (6, (kE i)), (7, (aG (a.getD i 0))), (8, (gQ c)), (18, (vl 152 1 jB a)), (19, (kE a.length)), (20, (kE i)), (25, (vl 152 1 jB b)), (26, (kE b.length)), (27, (kE j))], [(0, some (bm jB o2))]⟩) (fun (j, o2, c) => o2.length = a.length + b.length ∧ Dig o2 ∧ j ≤ b.length ∧ c < 1000000000 ∧ (∀ k, i + b.length ≤ k → o2.getD k 0 = 0) ∧ val o2 + pw (i + j) * c = val (a.take i) * val b + pw i * (a.getD i 0 * val (b.take j))) (fun (j, o2, c) => b.length - j) (0, out, 0) wk ⟨vD, hdo, Nat.zero_le _, by decide, hz, by simp [val, hv]⟩ ?_
  rintro ⟨j, o2, c⟩ ⟨hlen2, hdo2, hj, hc, hz2, hv2⟩
  have hbj := hdb.getD j
  have hoj := hdo2.getD (i + j)
  have hpq : a.getD i 0 * b.getD j 0 ≤ 999999999 * 999999999 := Nat.mul_le_mul (by omega) (by omega)
  refine jA <| kx [(28, (vb (decide (((j : Nat) : Int) < ((b.length : Nat) : Int)))))] [] (zE qS <| zZ) ?_
  refine jA <| jQ rfl (fun h2 => ?_) (fun h2 => ?_)
  ·replace h2 := of_decide_eq_true h2
   refine jD <| jA <| jE <| jA <| kx [(9, (kE j)), (10, (aG (b.getD j 0)))] [] (zM <| zE (eP kV j (0 : Nat)) <| zE (yN uR) <| zM <| zM <| zZ) ?_
   refine jA <| kx [(11, (gQ (((o2.getD (i + j) 0) + ((a.getD i 0) * (b.getD j 0))) + c)))] [] (zM <| zM <| zM <| zE (qQ (i + j)) <| zE (oXo kV (i + j)) <| zR (oLp uR (i + j) (0 : Nat)) <| zE (mU gG gA (o2.getD (i + j) 0)) <| zM <| zE (mU gG gA (a.getD i 0)) <| zM <| zE (mU gG gA (b.getD j 0)) <| zE (oMl ((a.getD i 0) * (b.getD j 0))) <| zE (qQ ((o2.getD (i + j) 0) + ((a.getD i 0) * (b.getD j 0)))) <| zM <| zE (qQ (((o2.getD (i + j) 0) + ((a.getD i 0) * (b.getD j 0))) + c)) <| zM <| zZ) ?_
   refine kx [(8, (gQ ((((o2.getD (i + j) 0) + ((a.getD i 0) * (b.getD j 0))) + c) / 1000000000)))] [(0, some (bm jB (o2.set (i + j) ((((o2.getD (i + j) 0) + ((a.getD i 0) * (b.getD j 0))) + c) % 1000000000))))] (zM <| zM <| zM <| zE (qQ (i + j)) <| zM <| zE (aI ((((o2.getD (i + j) 0) + ((a.getD i 0) * (b.getD j 0))) + c) % 1000000000)) <| zE (mU nD hH ((((o2.getD (i + j) 0) + ((a.getD i 0) * (b.getD j 0))) + c) % 1000000000)) <| zM <| zE (oQu ((((o2.getD (i + j) 0) + ((a.getD i 0) * (b.getD j 0))) + c) / 1000000000)) <| zE (oXo kV (i + j)) <| zT (oSp uR (i + j) ((((o2.getD (i + j) 0) + ((a.getD i 0) * (b.getD j 0))) + c) % 1000000000)) <| zM <| zZ) ?_
   refine kx [(27, (kE (j + 1)))] [] (zE (qQ (j + 1)) <| zM <| zZ) ?_
   exact ⟨(j + 1, o2.set (i + j) ((o2.getD (i + j) 0 + a.getD i 0 * b.getD j 0 + c) % 1000000000), (o2.getD (i + j) 0 + a.getD i 0 * b.getD j 0 + c) / 1000000000), wk, (by obtain ⟨q1, q2⟩ := times_step (by omega) hdo2 hv2 rfl (val_take_succ b j); exact ⟨by simpa using hlen2, q1, by omega, by omega, zero_set (by omega) hz2, q2⟩), (by first | omega | (dsimp only; omega))⟩
  ·replace h2 := of_decide_eq_false h2
   have hje : j = b.length := by omega
   rw [hje] at hv2
   refine kQ <| kx [] [(0, some (bm jB (o2.set (i + b.length) c)))] (zM <| zM <| zM <| zE (nC kV) <| zE (qQ (i + b.length)) <| zM <| zE (mU nD hH c) <| zE (oXo kV (i + b.length)) <| zT (oSp uR (i + b.length) c) <| zZ) ?_
   refine kx [(20, (kE (i + 1)))] [] (zE (qQ (i + 1)) <| zM <| zZ) ?_
   exact ⟨(i + 1, o2.set (i + b.length) c), wk, (by obtain ⟨q1, q2, q3, q4⟩ := times_row hdo2 (by omega) hlen2 hz2 hc hv2; exact ⟨q1, q2, by omega, q3, q4⟩), (by first | omega | (dsimp only; omega))⟩
 ·replace h1 := of_decide_eq_false h1
  have hie : i = a.length := by omega
  rw [hie, List.take_length] at hv
  refine kQ <| jA <| kx [(4, (.own 0 152 1 ((ofNat (val out)).length)))] [] (zM <| zR ⟨_, e_trimO out (by exact rfl) (by exact rfl) vD hdo (by omega), by kernel_rfl⟩ <| zM <| zZ) ?_
  rw [← hv]
  refine jG ⟨4, 0, rfl, rfl, (bm jB out), rfl, ?_⟩
  exact own_prefix _ (trim_take hdo)
end Go.Proofs.YtbecgnplakngdaaGreat
