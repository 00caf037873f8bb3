/- Part 15 of a proof: rules, plain facts, and functions walked. -/
import Derived.Test.YtapjldagikfcmaaGreatM14
import Derived.Test.YtapjldagikfcmaaGreatM11
import Derived.Test.YtapjldagikfcmaaGreatM10
import Derived.Test.YtapjldagikfcmaaGreatChecked
import Derived.RangeFuncBox
import Derived.Shelf.Abstract
import Derived.OwnWalkIn
import Derived.TacticsInMore
import Derived.LoopNIn
import Derived.LoopIn
namespace Go.Proofs.YtapjldagikfcmaaGreat
open Go.Fid
set_option maxRecDepth 4000
set_option linter.unusedVariables false
set_option linter.unusedSimpArgs false
theorem bo4 : boolB Tryz.prog 4 = true := by kernel_rfl
theorem cb159 : callB Tryz.prog 159 = true := by kernel_rfl
theorem cb160 : callB Tryz.prog 160 = true := by kernel_rfl
theorem cb162 : callB Tryz.prog 162 = true := by kernel_rfl
theorem cb182 : callB Tryz.prog 182 = true := by kernel_rfl
theorem cb196 : callB Tryz.prog 196 = true := by kernel_rfl
theorem cb259 : callB Tryz.prog 259 = true := by kernel_rfl
theorem cb271 : callB Tryz.prog 271 = true := by kernel_rfl
theorem un3 : (Tryz.prog.underlying 3).isSome = true := by kernel_rfl
theorem t_sign (x : jI) (hx : x.gs.length ≤ 1099511627776) : kH Tryz.prog 159 [(jV x)] (.val (.int .i64 ((vC (kI x))))) := by
 refine jM Tryz.func159 rfl cb159 rfl ?_
 show uY _ _ _ _ ⟨[(0, (.d (jV x)))], []⟩
 refine jA <| kx [(1, (.ref 0 0))] [(0, some (bx (jV x)))] (zN (vD 0) <| zM <| zZ) ?_
 refine jA <| jE <| jA <| kx [(3, (vb ((((kM x).length : Nat) : Int) == 0)))] [] (zR (kC kK) <| zE (kB (nM x (by omega))) <| zE (nE kY (L := (kM x))) <| zE xK <| zM <| zZ) ?_
 refine jO (b := ((((kM x).length : Nat) : Int) == 0)) rfl (fun h1 => ?_) (fun h1 => ?_)
 ·replace h1 := eq_of_beq h1
  refine jA <| kx [(2, (kD 0))] [] (zM <| zZ) ?_
  refine jF ⟨_, (.tmp (d := (.val (.int .i64 (0)))) rfl .nil), ?_⟩
  rw [toZ_nil h1]; rfl
 ·replace h1 := ne_of_beq_false h1
  refine jA <| kx [(8, (vb x.neg))] [] (zE (kE zQ) <| zR (qR dX) <| zM <| zZ) ?_
  refine jO (b := x.neg) rfl (fun h2 => ?_) (fun h2 => ?_)
  ·refine jA <| kx [(2, (vi (-1)))] [] (zM <| zZ) ?_
   refine jF ⟨_, (.tmp (d := (.val (.int .i64 (-1)))) rfl .nil), ?_⟩
   rw [sign_neg h1 h2]; rfl
  ·refine jB <| jA <| kx [(2, (kD 1))] [] (zM <| zZ) ?_
   refine jF ⟨_, (.tmp (d := (.val (.int .i64 (1)))) rfl .nil), ?_⟩
   rw [sign_pos h1 h2]; rfl
theorem t_neg (x : jI) (hx : x.gs.length ≤ 1099511627776) : kH Tryz.prog 271 [(jV x)] (jV (kN (-kI x))) := by
 refine jM Tryz.func271 rfl cb271 rfl ?_
 show uY _ _ _ _ ⟨[(0, (.d (jV x)))], []⟩
 refine jA <| kx [(1, (.ref 0 0)), (2, (.ref 1 0))] [(0, some (bx (jV x))), (1, some (bx (jV (jI.mk false []))))] (zN (vD 0) <| zN (uK 1 hH hM) <| zZ) ?_
 refine jA <| kd [] [(1, some (bx (jV (yD (!x.neg) (val (kM x))))))] mo (wE (kE zQ) <| wR (qR dX) <| wE oNt <| wR (kC kK) <| wE (kB (nM x (by omega))) <| wE (kB (t_clone (kM x) (Nat.le_trans (hN _) (by omega)))) <| wE (kB (dR (!x.neg) (kM x) (uH _).1 (Nat.le_trans (hN _) (by omega)))) <| wT (qG kK) <| wZ) ?_
 refine jF ⟨_, (qS (cs := (bx (jV (yD (!x.neg) (val (kM x)))))) (d := (jV (yD (!x.neg) (val (kM x))))) rfl rfl kK rfl rfl .nil), ?_⟩
 rw [← neg_eq]; rfl
theorem t_sum (b : Bool) (l : List Nat) (c : Bool) (m : List Nat) (hl : hC l) (hm : hC m) (hll : l.length ≤ 1099511627776) (hlm : m.length ≤ 1099511627776) : kH Tryz.prog 259 [(.val (.bool (b))), (.sl 181 1 (List.map jC l)), (.val (.bool (c))), (.sl 181 1 (List.map jC m))] (jV (kN (cU b (val l) + cU c (val m)))) := by
 refine jM Tryz.func259 rfl cb259 rfl ?_
 show uY _ _ _ _ ⟨[(0, (vb b)), (1, (vl 181 1 jC l)), (2, (vb c)), (3, (vl 181 1 jC m))], []⟩
 refine jA <| kx [(8, (.ref 0 0))] [(0, some (bx (jV (jI.mk false []))))] (zN (uK 0 hH hM) <| zZ) ?_
 refine jA <| jE <| jA <| kx [(9, (vb (b == c)))] [] (zM <| zM <| zE (oEb bo4) <| zM <| zZ) ?_
 refine jO (b := (b == c)) rfl (fun h1 => ?_) (fun h1 => ?_)
 ·replace h1 := eq_of_beq h1
  refine jA <| kx [] [(0, some (bx (jV (yD b (val (ofNat (val l + val m)))))))] (zM <| zM <| zM <| zE (kB (t_plus l m hl.1 hm.1 (by omega) (by omega))) <| zE (kB (dR b (ofNat (val l + val m)) (kW _) (Nat.le_trans (add_len hl.1 hm.1) (by omega)))) <| zT (qG kK) <| zZ) ?_
  refine jF ⟨_, (qS (cs := (bx (jV (yD b (val (ofNat (val l + val m))))))) (d := (jV (yD b (val (ofNat (val l + val m)))))) rfl rfl kK rfl rfl .nil), ?_⟩
  rw [← sum_same h1]; rfl
 ·replace h1 := ne_of_beq_false h1
  refine jA <| kx [(18, (vb (decide (0 ≤ (xR ((val l : Nat) : Int) ((val m : Nat) : Int))))))] [] (zM <| zM <| zE (kB (t_compare l m (by assumption) (by assumption) (by omega))) <| zE oGe <| zM <| zZ) ?_
  refine jO rfl (fun h2 => ?_) (fun h2 => ?_)
  ·replace h2 := of_decide_eq_true h2
   refine jA <| kx [] [(0, some (bx (jV (yD b (val (ofNat (val l - val m)))))))] (zM <| zM <| zM <| zE (kB (t_minus l m hl.1 hm.1 (by have := bS h2; omega) (by omega))) <| zE (kB (dR b (ofNat (val l - val m)) (kW _) (Nat.le_trans (sub_len hl.1) (by omega)))) <| zT (qG kK) <| zZ) ?_
   refine jF ⟨_, (qS (cs := (bx (jV (yD b (val (ofNat (val l - val m))))))) (d := (jV (yD b (val (ofNat (val l - val m)))))) rfl rfl kK rfl rfl .nil), ?_⟩
   rw [← sum_first h1 (by have := bS h2; omega)]; rfl
  ·replace h2 := of_decide_eq_false h2
   refine jB <| jA <| kx [] [(0, some (bx (jV (yD c (val (ofNat (val m - val l)))))))] (zM <| zM <| zM <| zE (kB (t_minus m l hm.1 hl.1 (by have := cmpI_lt h2; omega) (by omega))) <| zE (kB (dR c (ofNat (val m - val l)) (kW _) (Nat.le_trans (sub_len hm.1) (by omega)))) <| zT (qG kK) <| zZ) ?_
   refine jF ⟨_, (qS (cs := (bx (jV (yD c (val (ofNat (val m - val l))))))) (d := (jV (yD c (val (ofNat (val m - val l)))))) rfl rfl kK rfl rfl .nil), ?_⟩
   rw [← sum_second h1 (by have := cmpI_lt h2; omega)]; rfl
theorem t_add (x : jI) (y : jI) (hx : x.gs.length ≤ 1099511627776) (hy : y.gs.length ≤ 1099511627776) : kH Tryz.prog 196 [(jV x), (jV y)] (jV (kN (kI x + kI y))) := by
 refine jM Tryz.func196 rfl cb196 rfl ?_
 show uY _ _ _ _ ⟨[(0, (.d (jV x))), (1, (.d (jV y)))], []⟩
 refine jA <| kx [(2, (.ref 0 0)), (3, (.ref 1 0)), (4, (.ref 2 0))] [(0, some (bx (jV x))), (1, some (bx (jV y))), (2, some (bx (jV (jI.mk false []))))] (zN (vD 0) <| zN (vD 1) <| zN (uK 2 hH hM) <| zZ) ?_
 refine jA <| kd [] [(2, some (bx (jV (kN (cU x.neg (val (kM x)) + cU y.neg (val (kM y)))))))] mo (wE (kE zQ) <| wR (qR dX) <| wR (kC kK) <| wE (kB (nM x (by omega))) <| wE (kE zQ) <| wR (qR dX) <| wR (kC kK) <| wE (kB (nM y (by omega))) <| wE (kB (t_sum x.neg (kM x) y.neg (kM y) (uH _) (uH _) (Nat.le_trans (hN _) (by omega)) (Nat.le_trans (hN _) (by omega)))) <| wT (qG kK) <| wZ) ?_
 refine jF ⟨_, (qS (cs := (bx (jV (kN (cU x.neg (val (kM x)) + cU y.neg (val (kM y))))))) (d := (jV (kN (cU x.neg (val (kM x)) + cU y.neg (val (kM y)))))) rfl rfl kK rfl rfl .nil), ?_⟩
 rfl
theorem t_mul (x : jI) (y : jI) (hx : x.gs.length ≤ 1099511627776) (hy : y.gs.length ≤ 1099511627776) : kH Tryz.prog 182 [(jV x), (jV y)] (jV (kN (kI x * kI y))) := by
 refine jM Tryz.func182 rfl cb182 rfl ?_
 show uY _ _ _ _ ⟨[(0, (.d (jV x))), (1, (.d (jV y)))], []⟩
 refine jA <| kx [(2, (.ref 0 0)), (3, (.ref 1 0)), (4, (.ref 2 0))] [(0, some (bx (jV x))), (1, some (bx (jV y))), (2, some (bx (jV (jI.mk false []))))] (zN (vD 0) <| zN (vD 1) <| zN (uK 2 hH hM) <| zZ) ?_
 refine jA <| kd [] [(2, some (bx (jV (yD (!(x.neg == y.neg)) (val (ofNat (val (kM x) * val (kM y))))))))] mo (wE (kE zQ) <| wR (qR dX) <| wE (kE zQ) <| wR (qR dX) <| wE (oNb bo4) <| wR (kC kK) <| wE (kB (nM x (by omega))) <| wR (kC kK) <| wE (kB (nM y (by omega))) <| wE (kB (t_times (kM x) (kM y) (uH _).1 (uH _).1 (Nat.le_trans (hN _) (by omega)) (Nat.le_trans (hN _) (by omega)))) <| wE (kB (dR (!(x.neg == y.neg)) (ofNat (val (kM x) * val (kM y))) (kW _) (Nat.le_trans (mul_len (uH _).1 (uH _).1) (by have := hN x; have := hN y; omega)))) <| wT (qG kK) <| wZ) ?_
 refine jF ⟨_, (qS (cs := (bx (jV (yD (!(x.neg == y.neg)) (val (ofNat (val (kM x) * val (kM y)))))))) (d := (jV (yD (!(x.neg == y.neg)) (val (ofNat (val (kM x) * val (kM y))))))) rfl rfl kK rfl rfl .nil), ?_⟩
 rw [show kI x * kI y = _ from rfl, kI, kI, ← mul_eq]; rfl
theorem t_of (n : Int) (hlo : -9223372036854775808 ≤ n) (hhi : n ≤ 9223372036854775807) : kH Tryz.prog 162 [(.val (.int .i64 (n)))] (jV (kN n)) := by
 refine jM Tryz.func162 rfl cb162 rfl ?_
 show uY _ _ _ _ ⟨[(0, (vi n))], []⟩
 refine jA <| kx [(2, (.ref 0 0))] [(0, some (bx (jV (jI.mk false []))))] (zN (uK 0 hH hM) <| zZ) ?_
 refine jA <| kx [(3, (gW ((n % 18446744073709551616).toNat)))] [] (zM <| zE (mV un3 yR ((n % 18446744073709551616).toNat) (hr := by exact (conv_u64 _))) <| zM <| zZ) ?_
 refine jA <| jA <| kx [(7, (vb (decide (n < 0))))] [] (zM <| zE qY <| zZ) ?_
 refine jO (b := decide (n < 0)) rfl (fun h1 => ?_) (fun h1 => ?_)
 ·replace h1 := of_decide_eq_true h1
  refine kx [(3, (gW ((-n).toNat)))] [] (zM <| zE (oNg (((-n).toNat : Nat) : Int) (hr := by exact (neg_u64 (by assumption) hlo))) <| zM <| zZ) ?_
  refine jA <| kx [] [(0, some (bx (jV (yD (decide (n < 0)) (val (ofNat ((-n).toNat)))))))] (zM <| zE qY <| zM <| zE (kB (t_split ((-n).toNat) (by omega))) <| zE (kB (dR (decide (n < 0)) (ofNat ((-n).toNat)) (kW _) (Nat.le_trans (fP (by omega)) (by decide)))) <| zT (qG kK) <| zZ) ?_
  refine jF ⟨_, (qS (cs := (bx (jV (yD (decide (n < 0)) (val (ofNat ((-n).toNat))))))) (d := (jV (yD (decide (n < 0)) (val (ofNat ((-n).toNat)))))) rfl rfl kK rfl rfl .nil), ?_⟩
  rw [of_neg h1]; rfl
 ·replace h1 := of_decide_eq_false h1
  refine jB <| jA <| kx [] [(0, some (bx (jV (yD (decide (n < 0)) (val (ofNat ((n % 18446744073709551616).toNat)))))))] (zM <| zE qY <| zM <| zE (kB (t_split ((n % 18446744073709551616).toNat) (by omega))) <| zE (kB (dR (decide (n < 0)) (ofNat ((n % 18446744073709551616).toNat)) (kW _) (Nat.le_trans (fP (by omega)) (by decide)))) <| zT (qG kK) <| zZ) ?_
  refine jF ⟨_, (qS (cs := (bx (jV (yD (decide (n < 0)) (val (ofNat ((n % 18446744073709551616).toNat))))))) (d := (jV (yD (decide (n < 0)) (val (ofNat ((n % 18446744073709551616).toNat)))))) rfl rfl kK rfl rfl .nil), ?_⟩
  rw [of_pos h1 hhi]; rfl
theorem t_compareI (x : jI) (y : jI) (hx : x.gs.length ≤ 1099511627776) (hy : y.gs.length ≤ 1099511627776) : kH Tryz.prog 160 [(jV x), (jV y)] (.val (.int .i64 ((xR (kI x) (kI y))))) := by
 refine jM Tryz.func160 rfl cb160 rfl ?_
 show uY _ _ _ _ ⟨[(0, (.d (jV x))), (1, (.d (jV y)))], []⟩
 refine jA <| kx [(2, (.ref 0 0)), (3, (.ref 1 0))] [(0, some (bx (jV x))), (1, some (bx (jV y)))] (zN (vD 0) <| zN (vD 1) <| zM <| zZ) ?_
 refine jA <| jA <| kd [(5, (vi (vC (kI x)))), (6, (vi (vC (kI y))))] [] mo (wR (kC kK) <| wE (kB (t_sign x (by omega))) <| wR (kC kK) <| wE (kB (t_sign y (by omega))) <| wM <| wM <| wZ) ?_
 refine jA <| kx [(14, (vb ((vC (kI x)) != (vC (kI y)))))] [] (zM <| zM <| zE eS <| zZ) ?_
 refine jO (b := ((vC (kI x)) != (vC (kI y)))) rfl (fun h1 => ?_) (fun h1 => ?_)
 ·replace h1 := bne_iff_ne.1 h1
  refine jA <| kx [(4, (vi (xR (vC (kI x)) (vC (kI y)))))] [] (zM <| zM <| zE (kB (t_cmp_int (vC (kI x)) (vC (kI y)))) <| zM <| zZ) ?_
  refine jF ⟨_, (.tmp (d := (.val (.int .i64 ((xR (vC (kI x)) (vC (kI y))))))) rfl .nil), ?_⟩
  rw [← cmp_sign h1]; rfl
 ·replace h1 := bne_eq_false_iff_eq.1 h1
  refine jB <| jA <| kd [(7, (vi (xR ((val (kM x) : Nat) : Int) ((val (kM y) : Nat) : Int))))] [] mo (wR (kC kK) <| wE (kB (nM x (by omega))) <| wR (kC kK) <| wE (kB (nM y (by omega))) <| wE (kB (t_compare (kM x) (kM y) (uH _) (uH _) (Nat.le_trans (hN _) (by omega)))) <| wM <| wZ) ?_
  refine jA <| jA <| kx [(24, (vb x.neg))] [] (zE (kE zQ) <| zR (qR dX) <| zZ) ?_
  refine jO (b := x.neg) rfl (fun h2 => ?_) (fun h2 => ?_)
  ·refine jA <| kx [(4, (vi (-(xR ((val (kM x) : Nat) : Int) ((val (kM y) : Nat) : Int)))))] [] (zM <| zE (oNg (-(xR ((val (kM x) : Nat) : Int) ((val (kM y) : Nat) : Int))) (hr := by exact (wi64 (by omega) (by have := cmpI_range ((val (kM x) : Nat) : Int) ((val (kM y) : Nat) : Int); omega) (by have := cmpI_range ((val (kM x) : Nat) : Int) ((val (kM y) : Nat) : Int); omega)))) <| zM <| zZ) ?_
   refine jF ⟨_, (.tmp (d := (.val (.int .i64 (-(xR ((val (kM x) : Nat) : Int) ((val (kM y) : Nat) : Int)))))) rfl .nil), ?_⟩
   rw [← cmp_neg h1 h2]; rfl
  ·refine jB <| jA <| kx [(4, (vi (xR ((val (kM x) : Nat) : Int) ((val (kM y) : Nat) : Int))))] [] (zM <| zM <| zZ) ?_
   refine jF ⟨_, (.tmp (d := (.val (.int .i64 ((xR ((val (kM x) : Nat) : Int) ((val (kM y) : Nat) : Int)))))) rfl .nil), ?_⟩
   rw [← cmp_pos h1 h2]; rfl
end Go.Proofs.YtapjldagikfcmaaGreat
namespace Go.Proofs.YtapjldagikfcmaaGreat
open Go.RowKit Go.Shelf
attribute [local go_sem] Oper.semAt_some
set_option maxRecDepth 100000 in
set_option maxHeartbeats 2000000 in
theorem trimV (b cap : Nat) (l : List Nat) (hd : Go.Fid.Dig l) (h0 : Go.Fid.val l ≠ 0) (w : World) (hc : ∀ i, i < l.length → w.cell? ⟨b, i, none⟩ = some (.int .u32 ((l.getD i 0 : Nat) : Int))) (h1 : l.length ≤ cap) (h2 : cap ≤ maxLen) :
    CallsIn Fence.wide 1 Tryz.prog 278 #[.slice (some ⟨b, 0, none⟩) l.length cap] w fun e w' => e = .returned (.slice (some ⟨b, 0, none⟩) (Go.Fid.ofNat (Go.Fid.val l)).length cap) ∧ w' = w := by
  refine callsIn_of_wp Tryz.func278 rfl trivial ?_ rfl
  simp only [Tryz.ntmps278, List.size_toArray, List.length_cons, List.length_nil, Nat.reduceAdd, Nat.reduceSub, Array.replicate_succ, Array.replicate_zero, List.push_toArray, List.append_toArray, List.nil_append, List.cons_append]
  gi_wp2
  gi_loopw [0] (fun i wr => ∃ j : Nat, j ≤ l.length ∧ 0 < j ∧ i = .slice (some ⟨b, 0, none⟩) j cap ∧ Go.Fid.val (l.take j) = Go.Fid.val l ∧ wr = w)
    (fun i _ => match i with | .slice _ n _ => n | _ => 0)
  case atStart =>
    have hl : 0 < l.length := by
      rcases l with _ | ⟨d, l⟩
      · exact absurd rfl h0
      · simp
    exact ⟨l.length, Nat.le_refl _, hl, rfl, by rw [List.take_length], rfl⟩
  case round =>
    obtain ⟨j, hj, hj0, rfl, hv, rfl⟩ := hrel
    have hcj := hc (j - 1) (by omega)
    have hj63 : (j : Int) ≤ 9223372036854775807 := by unfold maxLen at h2; omega
    have hv2 := Go.Fid.val_take_succ l (j - 1)
    rw [show j - 1 + 1 = j by omega] at hv2
    by_cases hz : l.getD (j - 1) 0 = 0
    · rw [hz] at hcj hv2
      have h1j : 0 < j - 1 := by
        rcases Nat.eq_zero_or_pos (j - 1) with e | e
        · rw [e, List.take_zero, Go.Fid.val_nil, Nat.mul_zero] at hv2
          omega
        · exact e
      gi_wp2
      go_roundw
      case rel => exact ⟨j - 1, by omega, h1j, by simp, by rw [← hv, hv2]; simp, trivial⟩
      case measure => simp; omega
    · gi_wp2
      · rename_i hq
        exfalso
        simp [List.getD] at hz hq
        omega
      · refine ⟨rfl, .slice (some ⟨b, 0, none⟩) j cap, by simp [results, Tryz.results278, go_sem], ?_⟩
        have e : Go.Fid.ofNat (Go.Fid.val l) = l.take j := by
          rw [← hv]
          refine (Go.Fid.can_eq ⟨hd.take j, ?_⟩).symm
          unfold Go.Fid.Top
          have h5 : (l.take j).length - 1 = j - 1 := by rw [List.length_take]; omega
          rw [h5]
          have h6 : j - 1 < l.length := by omega
          simp [List.getD, List.getElem?_eq_getElem h6, List.getElem?_take_of_lt (show j - 1 < j by omega)] at hz ⊢
          exact hz
        rw [e, List.length_take, Nat.min_eq_left hj]
        exact ⟨rfl, rfl⟩
theorem trim_cb : Go.Fid.callB Tryz.prog 278 = true := by kernel_rfl
open Go.Fid in
theorem e_trimO {o : Oper} {S : Nat → SV} {x : Operand} {ats : Array TypeId} {k T m : Nat} (l : List Nat) (ho : o.op = .call { callee := .value (.func 278), args := #[x], argTypes := ats }) (hx : ev S x = .own k T 1 m) (hl : l.length = m) (hd : Dig l) (h0 : val l ≠ 0) :
    vT Tryz.prog o S [(k, l.map (fun g => SV.d (jC g)))] (.own k T 1 (ofNat (val l)).length) :=
  fun a w D β Q hop hrd hD => by
    have hxv := hop x (by simp [ho, Op.operands, Call.operands])
    rw [hx] at hxv
    have hm : 0 < m := by
      rcases Nat.eq_zero_or_pos m with e | e
      · rw [e] at hl
        have := List.eq_nil_of_length_eq_zero hl
        subst this
        exact absurd rfl h0
      · exact e
    have hle : (ofNat (val l)).length ≤ l.length := vF (zG hd)
    rcases hxv with ⟨_, e, _⟩ | ⟨b, cap, vs, h1, h2, h3, h4, h5, h6⟩
    · omega
    · have hblk := hrd (k, l.map (fun g => SV.d (jC g))) (by simp)
      rcases hblk with ⟨g1, _⟩ | ⟨b', vs', T', g1, g2, g3, g4, g5⟩
      · rw [h1] at g1; cases g1
      · obtain rfl : b = b' := by rw [h1] at g1; injection g1
        rw [h3] at g2
        injection g2 with g2
        injection g2 with g2 gT
        subst g2; subst gT
        have hcell : ∀ i, w.cell? ⟨b, i, none⟩ = vs[i]? := fun i => cell_of_row w b i vs T (0, 0) h3
        have hrun : (execOp a.eval o).run Tryz.prog w = .ok (.enter 278 #[.slice (some ⟨b, 0, none⟩) l.length cap]) w := by
          simp only [execOp, ho, resolve, Deferred.ofValue, Act.eval, Sem.run_bind, Sem.run_pure, Result.andThen_ok, invoke, Array.empty_append, Array.append_empty]
          rw [gZ trim_cb]
          simp [h2, hl]
        refine eG hrun (((callsIn_wide (n := 1)).1 (trimV b cap l hd h0 w (fun i hi => ?_) (by omega) h6)).mono fun e w' h => ?_)
        · rw [hcell]
          obtain ⟨u, e1, _, e3⟩ := g4 i (.d (jC (l.getD i 0))) (by rw [List.getElem?_map, List.getElem?_eq_getElem hi]; simp [List.getD, List.getElem?_eq_getElem hi])
          rw [e1, xX e3]
        · obtain ⟨he, rfl⟩ := h
          exact ⟨_, he, _, D, rfl, Below.refl _ _, ⟨fun _ _ _ h => h, fun _ _ _ h => .inl h⟩, .inr ⟨b, cap, vs, h1, rfl, h3, h4, by omega, h6⟩⟩
open Go.Fid in
theorem trim_take {l : List Nat} (hd : Dig l) : ofNat (val l) = l.take (ofNat (val l)).length := by
  have h1 : ∀ (n : Nat) (l : List Nat), l.length = n → Dig l → ofNat (val l) = l.take (ofNat (val l)).length := by
    intro n
    induction n with
    | zero => intro l hl _; rw [List.eq_nil_of_length_eq_zero hl]; rw [val_nil, xB]; rfl
    | succ n ih =>
      intro l hl hd
      have h2 := val_take_succ l n
      rw [← hl, List.take_length] at h2
      by_cases hz : l.getD n 0 = 0
      · rw [hz, Nat.mul_zero, Nat.add_zero] at h2
        have h3 := ih (l.take n) (by rw [List.length_take]; omega) (hd.take n)
        rw [← h2, List.take_take] at h3
        have h4 : (ofNat (val l)).length ≤ n := by
          rw [h2]; exact vF (by have := zG (hd.take n); rwa [List.length_take, Nat.min_eq_left (by omega)] at this)
        rw [Nat.min_eq_left h4] at h3
        exact h3
      · have h3 : hC l := ⟨hd, by
          unfold Top
          rw [show l.length - 1 = n by omega]
          have h6 : n < l.length := by omega
          simp [List.getD, List.getElem?_eq_getElem h6] at hz ⊢
          exact hz⟩
        rw [← can_eq h3, List.take_length]
  exact h1 _ l rfl hd
end Go.Proofs.YtapjldagikfcmaaGreat
namespace Go.Proofs.YtapjldagikfcmaaGreat
open Go.Fid
set_option maxRecDepth 4000
set_option linter.unusedVariables false
set_option linter.unusedSimpArgs false
theorem cb279 : callB Tryz.prog 279 = true := by kernel_rfl
theorem ze34 : xL Tryz.prog 34 = some [.slice none 0 0] := by kernel_rfl
theorem zo34 : cD [.slice none 0 0] [.sl 181 1 []] := by simp [cD, Value.oneCell']
theorem t_short (a : List Nat) (d : Nat) (hda : Dig a) (hd0 : 0 < d) (hd1 : d ≤ 1000000000) (hla : a.length ≤ 17592186044416) : kH Tryz.prog 279 [(.sl 181 1 (List.map jC a)), (.val (.int .u32 (((d : Nat) : Int))))] (.tup [(.sl 181 1 (List.map jC (ofNat (val a / d)))), (.val (.int .u32 ((((val a % d) : Nat) : Int))))]) := by
 refine jM Tryz.func279 rfl cb279 rfl ?_
 show uY _ _ _ _ ⟨[(0, (vl 181 1 jC a)), (1, (fV d))], []⟩
 refine jA <| kx [(3, (.ref 0 0)), (4, (.ref 1 0)), (5, (fV 0))] [(0, some (bx (.val (.int .u32 (((d : Nat) : Int)))))), (1, some (bx (.sl 181 1 (List.map jC []))))] (zN (vD 0) <| zN (uK 1 ze34 zo34) <| zM <| zZ) ?_
 refine jA <| kx [] [(1, some [(.own 2 181 1 a.length)]), (2, some (bm jC (List.replicate a.length 0)))] (zM <| zE (nE kY) <| zN (oMk 2 jC (0 : Nat) a.length a.length kY xZ gL mF) <| zT (oSo gF) <| zZ) ?_
 refine jA <| kx [(6, (.ref 3 0))] [(3, some (bx (.val (.int .u64 (0)))))] (zH (uK 3 ze277 zo277) <| zT (qG fQ) <| zZ) ?_
 refine jA <| pwp_backL backs cb229 rfl 7 jC a 0 (fun (q, yC) => ⟨[(3, (.ref 0 0)), (4, (.ref 1 0)), (5, (fV 0)), (6, (.ref 3 0))], [(0, some (bx (.val (.int .u32 (((d : Nat) : Int)))))), (1, some [(.own 2 181 1 a.length)]), (2, some (bm jC q)), (3, some (bx (.val (.int .u64 (((yC : Nat) : Int))))))]⟩) (fun (j : Nat) (q, yC) => q.length = a.length ∧ Dig q ∧ yC < d ∧ val (a.drop (a.length - j)) = val (q.drop (a.length - j)) * d + yC) (List.replicate a.length 0, 0) rfl rfl rfl rfl rfl rfl rfl rfl rfl rfl rfl rfl (fun _ => rfl) (fun _ => rfl) wk ⟨by simp, yM _, hd0, by simp [val, eA]⟩ (by omega) ?_ ?_
 ·rintro rl j ⟨q, yC⟩ hj ⟨vJ, hdq, hr, hv⟩
  have hg := hda.getD (a.length - 1 - j)
  obtain ⟨hb1, hb2⟩ := short_bound hr hd1 hg
  refine jA <| kx [(7, (kD (a.length - 1 - j)))] [] (zM <| zZ) ?_
  refine kx [(8, (fV (a.getD (a.length - 1 - j) 0)))] [] (zM <| zZ) ?_
  refine jE <| jA <| kx [(9, (gW ((yC * 1000000000) + (a.getD (a.length - 1 - j) 0))))] [] (zR (qR fQ) <| zE (oMl (yC * 1000000000)) <| zM <| zE (mV yY yR (a.getD (a.length - 1 - j) 0)) <| zE (uE ((yC * 1000000000) + (a.getD (a.length - 1 - j) 0))) <| zM <| zZ) ?_
  refine kd [] [(2, some (bm jC (q.set (a.length - 1 - j) (((yC * 1000000000) + (a.getD (a.length - 1 - j) 0)) / d)))), (3, some (bx (.val (.int .u64 ((((((yC * 1000000000) + (a.getD (a.length - 1 - j) 0)) % d) : Nat) : Int))))))] mo (wR (qR gF) <| wM <| wM <| wR (qR uX) <| wE (mV yY yR d) <| wE (oQu (((yC * 1000000000) + (a.getD (a.length - 1 - j) 0)) / d)) <| wE (mV nA nB (((yC * 1000000000) + (a.getD (a.length - 1 - j) 0)) / d)) <| wM <| wR (qR uX) <| wE (mV yY yR d) <| wE (oRe (((yC * 1000000000) + (a.getD (a.length - 1 - j) 0)) % d)) <| wE (oXo kY (a.length - 1 - j)) <| wT (oSp uX (a.length - 1 - j) (((yC * 1000000000) + (a.getD (a.length - 1 - j) 0)) / d)) <| wT (qG fQ) <| wZ) ?_
  exact ⟨(q.set (a.length - 1 - j) ((yC * 1000000000 + a.getD (a.length - 1 - j) 0) / d), (yC * 1000000000 + a.getD (a.length - 1 - j) 0) % d), wk, ⟨by simpa using vJ, hdq.set _ hb2, Nat.mod_lt _ hd0, short_step hj vJ hv rfl⟩⟩
 ·rintro ⟨q, yC⟩ ⟨vJ, hdq, hr, hv⟩
  obtain ⟨e1, e2⟩ := short_end hv hr
  refine jA <| kP (publishB (j := 1) (k := 2) (es := List.map jC q) rfl rfl rfl (vY _ _ (fun _ => rfl)) (xP _ _ vJ) (zB _ _ (fun _ => rfl) vJ)) ?_
  refine kd [(5, (fV yC))] [(1, some (bx (.sl 181 1 (List.map jC (ofNat (val q))))))] mo (wR (qR gF) <| wE (kB (t_trim q (by assumption) (by omega))) <| wR (qR fQ) <| wE (mV nA nB yC) <| wT (qG gF) <| wM <| wZ) ?_
  refine jF ⟨_, (aI (cs := (bx (.sl 181 1 (List.map jC (ofNat (val q)))))) (d := (.sl 181 1 (List.map jC (ofNat (val q))))) rfl rfl gF rfl rfl (.tmp (d := (.val (.int .u32 (((yC : Nat) : Int))))) rfl .nil)), ?_⟩
  rw [← e1, ← e2]; rfl
theorem o_times (a b : List Nat) (hda : Dig a) (hdb : Dig b) (hla : a.length ≤ 4398046511104) (hlb : b.length ≤ 4398046511104) (h0 : 0 < val a * val b) : TakesO Tryz.prog 254 [(.sl 181 1 (List.map jC a)), (.sl 181 1 (List.map jC b))] 181 1 (ofNat (val a * val b)).length (List.map jC (ofNat (val a * val b))) := by
 refine fn_introO Tryz.func254 rfl cb254 rfl (cE h0) ?_
 show uY _ _ _ _ ⟨[(0, (vl 181 1 jC a)), (1, (vl 181 1 jC b))], []⟩
 refine jA <| kx [] [] (zE (aX 181 1) <| zZ) ?_
 refine jA <| kx [(5, (.own 0 181 1 (a.length + b.length)))] [(0, some (bm jC (List.replicate (a.length + b.length) 0)))] (zM <| zE (nE kY) <| zM <| zE (nE kY) <| zE (uE (a.length + b.length)) <| zN (oMk 0 jC (0 : Nat) (a.length + b.length) (a.length + b.length) kY xZ gL mF) <| zM <| zZ) ?_
 refine jA <| jA <| kx [(18, (vl 181 1 jC a)), (19, (kD a.length)), (20, (kD 0))] [] (zM <| zE (nE kY) <| zM <| zZ) ?_
 refine jE <| uN (α := Nat × List Nat) (fun (i, out) => ⟨[(1, (vl 181 1 jC b)), (5, (.own 0 181 1 (a.length + b.length))), (18, (vl 181 1 jC a)), (19, (kD a.length)), (20, (kD i))], [(0, some (bm jC out))]⟩) (fun (i, out) => out.length = a.length + b.length ∧ Dig out ∧ i ≤ a.length ∧ (∀ k, i + b.length ≤ k → out.getD k 0 = 0) ∧ val out = val (a.take i) * val b) (fun (i, out) => a.length - i) (0, List.replicate (a.length + b.length) 0) wk ⟨by simp, yM _, Nat.zero_le _, fun k _ => fZ _ k, by simp [val, eA]⟩ ?_
 rintro ⟨i, out⟩ ⟨vJ, hdo, hi, hz, hv⟩
 have hai := hda.getD i
 refine jA <| kx [(21, (vb (decide (((i : Nat) : Int) < ((a.length : Nat) : Int)))))] [] (zE qY <| zZ) ?_
 refine jA <| jO rfl (fun h1 => ?_) (fun h1 => ?_)
 ·replace h1 := of_decide_eq_true h1
  refine jB <| jA <| jE <| jA <| kx [(6, (kD i)), (7, (fV (a.getD i 0)))] [] (zM <| zE (aC kY i (0 : Nat)) <| zE (xN uX) <| zM <| zM <| zZ) ?_
  refine jA <| kx [(8, (gW 0))] [] (zM <| zZ) ?_
  refine jA <| jA <| kx [(25, (vl 181 1 jC b)), (26, (kD b.length)), (27, (kD 0))] [] (zM <| zE (nE kY) <| zM <| zZ) ?_
  refine jE <| uN (α := Nat × List Nat × Nat) (fun (j, o2, c) => ⟨[(1, (vl 181 1 jC b)), (5, (.own 0 181 1 (a.length + b.length))), (6, (kD i)), (7, (fV (a.getD i 0))), (8, (gW c)), (18, (vl 181 1 jC a)), (19, (kD a.length)), (20, (kD i)), (25, (vl 181 1 jC b)), (26, (kD b.length)), (27, (kD j))], [(0, some (bm jC o2))]⟩) (fun (j, o2, c) => o2.length = a.length + b.length ∧ Dig o2 ∧ j ≤ b.length ∧ c < 1000000000 ∧ (∀ k, i + b.length ≤ k → o2.getD k 0 = 0) ∧ val o2 + pw (i + j) * c = val (a.take i) * val b + pw i * (a.getD i 0 * val (b.take j))) (fun (j, o2, c) => b.length - j) (0, out, 0) wk ⟨vJ, hdo, Nat.zero_le _, by decide, hz, by simp [val, hv]⟩ ?_
  rintro ⟨j, o2, c⟩ ⟨hlen2, hdo2, hj, hc, hz2, hv2⟩
  have hbj := hdb.getD j
  have hoj := hdo2.getD (i + j)
  have hpq : a.getD i 0 * b.getD j 0 ≤ 999999999 * 999999999 := Nat.mul_le_mul (by omega) (by omega)
  refine jA <| kx [(28, (vb (decide (((j : Nat) : Int) < ((b.length : Nat) : Int)))))] [] (zE qY <| zZ) ?_
  refine jA <| jO rfl (fun h2 => ?_) (fun h2 => ?_)
  ·replace h2 := of_decide_eq_true h2
   refine jB <| jA <| jE <| jA <| kx [(9, (kD j)), (10, (fV (b.getD j 0)))] [] (zM <| zE (aC kY j (0 : Nat)) <| zE (xN uX) <| zM <| zM <| zZ) ?_
   refine jA <| kx [(11, (gW (((o2.getD (i + j) 0) + ((a.getD i 0) * (b.getD j 0))) + c)))] [] (zM <| zM <| zM <| zE (uE (i + j)) <| zE (oXo kY (i + j)) <| zR (oLp uX (i + j) (0 : Nat)) <| zE (mV yY yR (o2.getD (i + j) 0)) <| zM <| zE (mV yY yR (a.getD i 0)) <| zM <| zE (mV yY yR (b.getD j 0)) <| zE (oMl ((a.getD i 0) * (b.getD j 0))) <| zE (uE ((o2.getD (i + j) 0) + ((a.getD i 0) * (b.getD j 0)))) <| zM <| zE (uE (((o2.getD (i + j) 0) + ((a.getD i 0) * (b.getD j 0))) + c)) <| zM <| zZ) ?_
   refine kx [(8, (gW ((((o2.getD (i + j) 0) + ((a.getD i 0) * (b.getD j 0))) + c) / 1000000000)))] [(0, some (bm jC (o2.set (i + j) ((((o2.getD (i + j) 0) + ((a.getD i 0) * (b.getD j 0))) + c) % 1000000000))))] (zM <| zM <| zM <| zE (uE (i + j)) <| zM <| zE (oRe ((((o2.getD (i + j) 0) + ((a.getD i 0) * (b.getD j 0))) + c) % 1000000000)) <| zE (mV nA nB ((((o2.getD (i + j) 0) + ((a.getD i 0) * (b.getD j 0))) + c) % 1000000000)) <| zM <| zE (oQu ((((o2.getD (i + j) 0) + ((a.getD i 0) * (b.getD j 0))) + c) / 1000000000)) <| zE (oXo kY (i + j)) <| zT (oSp uX (i + j) ((((o2.getD (i + j) 0) + ((a.getD i 0) * (b.getD j 0))) + c) % 1000000000)) <| zM <| zZ) ?_
   refine kx [(27, (kD (j + 1)))] [] (zE (uE (j + 1)) <| zM <| zZ) ?_
   exact ⟨(j + 1, o2.set (i + j) ((o2.getD (i + j) 0 + a.getD i 0 * b.getD j 0 + c) % 1000000000), (o2.getD (i + j) 0 + a.getD i 0 * b.getD j 0 + c) / 1000000000), wk, (by obtain ⟨q1, q2⟩ := times_step (by omega) hdo2 hv2 rfl (val_take_succ b j); exact ⟨by simpa using hlen2, q1, by omega, by omega, zero_set (by omega) hz2, q2⟩), (by first | omega | (dsimp only; omega))⟩
  ·replace h2 := of_decide_eq_false h2
   have hje : j = b.length := by omega
   rw [hje] at hv2
   refine kJ <| kx [] [(0, some (bm jC (o2.set (i + b.length) c)))] (zM <| zM <| zM <| zE (nE kY) <| zE (uE (i + b.length)) <| zM <| zE (mV nA nB c) <| zE (oXo kY (i + b.length)) <| zT (oSp uX (i + b.length) c) <| zZ) ?_
   refine kx [(20, (kD (i + 1)))] [] (zE (uE (i + 1)) <| zM <| zZ) ?_
   exact ⟨(i + 1, o2.set (i + b.length) c), wk, (by obtain ⟨q1, q2, q3, q4⟩ := times_row hdo2 (by omega) hlen2 hz2 hc hv2; exact ⟨q1, q2, by omega, q3, q4⟩), (by first | omega | (dsimp only; omega))⟩
 ·replace h1 := of_decide_eq_false h1
  have hie : i = a.length := by omega
  rw [hie, List.take_length] at hv
  refine kJ <| jA <| kx [(4, (.own 0 181 1 ((ofNat (val out)).length)))] [] (zM <| zR ⟨_, e_trimO out (by exact rfl) (by exact rfl) vJ hdo (by omega), by kernel_rfl⟩ <| zM <| zZ) ?_
  rw [← hv]
  refine jF ⟨4, 0, rfl, rfl, (bm jC out), rfl, ?_⟩
  exact own_prefix _ (trim_take hdo)
end Go.Proofs.YtapjldagikfcmaaGreat
