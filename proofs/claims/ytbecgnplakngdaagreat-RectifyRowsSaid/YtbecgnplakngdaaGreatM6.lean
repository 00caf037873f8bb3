/- Part 6 of a proof: rules, plain facts, and functions walked. -/
import Derived.Test.YtbecgnplakngdaaGreatM5
import Derived.Test.YtbecgnplakngdaaGreatM4
import Derived.Test.YtbecgnplakngdaaGreatChecked
import Derived.RangeFuncBox
import Derived.Shelf.Abstract
import Derived.OwnWalkIn
import Derived.TacticsInMore
import Derived.LoopNIn
import Derived.LoopIn
namespace Go.Proofs.YtbecgnplakngdaaGreat
open Go.Fid
set_option maxRecDepth 4000
set_option linter.unusedVariables false
set_option linter.unusedSimpArgs false
theorem bo4 : boolB Tryz.prog 4 = true := by kernel_rfl
theorem cb138 : callB Tryz.prog 138 = true := by kernel_rfl
theorem cb140 : callB Tryz.prog 140 = true := by kernel_rfl
theorem cb142 : callB Tryz.prog 142 = true := by kernel_rfl
theorem cb144 : callB Tryz.prog 144 = true := by kernel_rfl
theorem cb177 : callB Tryz.prog 177 = true := by kernel_rfl
theorem cb188 : callB Tryz.prog 188 = true := by kernel_rfl
theorem cb212 : callB Tryz.prog 212 = true := by kernel_rfl
theorem un3 : (Tryz.prog.underlying 3).isSome = true := by kernel_rfl
theorem t_sign (x : jG) (hx : x.gs.length ≤ 1099511627776) : kD Tryz.prog 138 [(jU x)] (.val (.int .i64 ((uU (kA x))))) := by
 refine jK Tryz.func138 rfl cb138 rfl ?_
 show uY _ _ _ _ ⟨[(0, (.d (jU x)))], []⟩
 refine jA <| kx [(1, (.ref 0 0))] [(0, some (bx (jU x)))] (zN (vN 0) <| zM <| zZ) ?_
 refine jA <| jE <| jA <| kx [(3, (vb ((((kS x).length : Nat) : Int) == 0)))] [] (zR (jZ kF) <| zE (jX (gX x (by omega))) <| zE (nX kP (L := (kS x))) <| zE oEq <| zM <| zZ) ?_
 refine jS (b := ((((kS x).length : Nat) : Int) == 0)) rfl (fun h1 => ?_) (fun h1 => ?_)
 ·replace h1 := eq_of_beq h1
  refine jA <| kx [(2, (kE 0))] [] (zM <| zZ) ?_
  refine jH ⟨_, (.tmp (d := (.val (.int .i64 (0)))) rfl .nil), ?_⟩
  rw [toZ_nil h1]; rfl
 ·replace h1 := ne_of_beq_false h1
  refine jA <| kx [(8, (vb x.neg))] [] (zE (kO xM) <| zR (uM sh4) <| zM <| zZ) ?_
  refine jS (b := x.neg) rfl (fun h2 => ?_) (fun h2 => ?_)
  ·refine jA <| kx [(2, (vi (-1)))] [] (zM <| zZ) ?_
   refine jH ⟨_, (.tmp (d := (.val (.int .i64 (-1)))) rfl .nil), ?_⟩
   rw [sign_neg h1 h2]; rfl
  ·refine jD <| jA <| kx [(2, (kE 1))] [] (zM <| zZ) ?_
   refine jH ⟨_, (.tmp (d := (.val (.int .i64 (1)))) rfl .nil), ?_⟩
   rw [sign_pos h1 h2]; rfl
theorem t_neg (x : jG) (hx : x.gs.length ≤ 1099511627776) : kD Tryz.prog 177 [(jU x)] (jU (kN (-kA x))) := by
 refine jK Tryz.func177 rfl cb177 rfl ?_
 show uY _ _ _ _ ⟨[(0, (.d (jU x)))], []⟩
 refine jA <| kx [(1, (.ref 0 0)), (2, (.ref 1 0))] [(0, some (bx (jU x))), (1, some (bx (jU (jG.mk false []))))] (zN (vN 0) <| zN (qP 1 gL gM) <| zZ) ?_
 refine jA <| kd [] [(1, some (bx (jU (xS (!x.neg) (val (kS x))))))] mo (wE (kO xM) <| wR (uM sh4) <| wE oNt <| wR (jZ kF) <| wE (jX (gX x (by omega))) <| wE (jX (t_clone (kS x) (Nat.le_trans (gA _) (by omega)))) <| wE (jX (cH (!x.neg) (kS x) (qR _).1 (Nat.le_trans (gA _) (by omega)))) <| wT (kU kF) <| wZ) ?_
 refine jH ⟨_, (kZ (cs := (bx (jU (xS (!x.neg) (val (kS x)))))) (d := (jU (xS (!x.neg) (val (kS x))))) rfl rfl kF rfl rfl .nil), ?_⟩
 rw [← neg_eq]; rfl
theorem t_sum (b : Bool) (l : List Nat) (c : Bool) (m : List Nat) (hl : gB l) (hm : gB m) (hll : l.length ≤ 1099511627776) (hlm : m.length ≤ 1099511627776) : kD Tryz.prog 212 [(.val (.bool (b))), (.sl 152 1 (List.map jB l)), (.val (.bool (c))), (.sl 152 1 (List.map jB m))] (jU (kN (mK b (val l) + mK c (val m)))) := by
 refine jK Tryz.func212 rfl cb212 rfl ?_
 show uY _ _ _ _ ⟨[(0, (vb b)), (1, (vl 152 1 jB l)), (2, (vb c)), (3, (vl 152 1 jB m))], []⟩
 refine jA <| kx [(8, (.ref 0 0))] [(0, some (bx (jU (jG.mk false []))))] (zN (qP 0 gL gM) <| zZ) ?_
 refine jA <| jE <| jA <| kx [(9, (vb (b == c)))] [] (zM <| zM <| zE (oEb bo4) <| zM <| zZ) ?_
 refine jS (b := (b == c)) rfl (fun h1 => ?_) (fun h1 => ?_)
 ·replace h1 := eq_of_beq h1
  refine jA <| kx [] [(0, some (bx (jU (xS b (val (ofNat (val l + val m)))))))] (zM <| zM <| zM <| zE (jX (t_plus l m hl.1 hm.1 (by omega) (by omega))) <| zE (jX (cH b (ofNat (val l + val m)) (kM _) (Nat.le_trans (add_len hl.1 hm.1) (by omega)))) <| zT (kU kF) <| zZ) ?_
  refine jH ⟨_, (kZ (cs := (bx (jU (xS b (val (ofNat (val l + val m))))))) (d := (jU (xS b (val (ofNat (val l + val m)))))) rfl rfl kF rfl rfl .nil), ?_⟩
  rw [← sum_same h1]; rfl
 ·replace h1 := ne_of_beq_false h1
  refine jA <| kx [(18, (vb (decide (0 ≤ (xB ((val l : Nat) : Int) ((val m : Nat) : Int))))))] [] (zM <| zM <| zE (jX (t_compare l m (by assumption) (by assumption) (by omega))) <| zE oGe <| zM <| zZ) ?_
  refine jS rfl (fun h2 => ?_) (fun h2 => ?_)
  ·replace h2 := of_decide_eq_true h2
   refine jA <| kx [] [(0, some (bx (jU (xS b (val (ofNat (val l - val m)))))))] (zM <| zM <| zM <| zE (jX (t_minus l m hl.1 hm.1 (by have := aF h2; omega) (by omega))) <| zE (jX (cH b (ofNat (val l - val m)) (kM _) (Nat.le_trans (sub_len hl.1) (by omega)))) <| zT (kU kF) <| zZ) ?_
   refine jH ⟨_, (kZ (cs := (bx (jU (xS b (val (ofNat (val l - val m))))))) (d := (jU (xS b (val (ofNat (val l - val m)))))) rfl rfl kF rfl rfl .nil), ?_⟩
   rw [← sum_first h1 (by have := aF h2; omega)]; rfl
  ·replace h2 := of_decide_eq_false h2
   refine jD <| jA <| kx [] [(0, some (bx (jU (xS c (val (ofNat (val m - val l)))))))] (zM <| zM <| zM <| zE (jX (t_minus m l hm.1 hl.1 (by have := cmpI_lt h2; omega) (by omega))) <| zE (jX (cH c (ofNat (val m - val l)) (kM _) (Nat.le_trans (sub_len hm.1) (by omega)))) <| zT (kU kF) <| zZ) ?_
   refine jH ⟨_, (kZ (cs := (bx (jU (xS c (val (ofNat (val m - val l))))))) (d := (jU (xS c (val (ofNat (val m - val l)))))) rfl rfl kF rfl rfl .nil), ?_⟩
   rw [← sum_second h1 (by have := cmpI_lt h2; omega)]; rfl
theorem t_add (x : jG) (y : jG) (hx : x.gs.length ≤ 1099511627776) (hy : y.gs.length ≤ 1099511627776) : kD Tryz.prog 188 [(jU x), (jU y)] (jU (kN (kA x + kA y))) := by
 refine jK Tryz.func188 rfl cb188 rfl ?_
 show uY _ _ _ _ ⟨[(0, (.d (jU x))), (1, (.d (jU y)))], []⟩
 refine jA <| kx [(2, (.ref 0 0)), (3, (.ref 1 0)), (4, (.ref 2 0))] [(0, some (bx (jU x))), (1, some (bx (jU y))), (2, some (bx (jU (jG.mk false []))))] (zN (vN 0) <| zN (vN 1) <| zN (qP 2 gL gM) <| zZ) ?_
 refine jA <| kd [] [(2, some (bx (jU (kN (mK x.neg (val (kS x)) + mK y.neg (val (kS y)))))))] mo (wE (kO xM) <| wR (uM sh4) <| wR (jZ kF) <| wE (jX (gX x (by omega))) <| wE (kO xM) <| wR (uM sh4) <| wR (jZ kF) <| wE (jX (gX y (by omega))) <| wE (jX (t_sum x.neg (kS x) y.neg (kS y) (qR _) (qR _) (Nat.le_trans (gA _) (by omega)) (Nat.le_trans (gA _) (by omega)))) <| wT (kU kF) <| wZ) ?_
 refine jH ⟨_, (kZ (cs := (bx (jU (kN (mK x.neg (val (kS x)) + mK y.neg (val (kS y))))))) (d := (jU (kN (mK x.neg (val (kS x)) + mK y.neg (val (kS y)))))) rfl rfl kF rfl rfl .nil), ?_⟩
 rfl
theorem t_mul (x : jG) (y : jG) (hx : x.gs.length ≤ 1099511627776) (hy : y.gs.length ≤ 1099511627776) : kD Tryz.prog 140 [(jU x), (jU y)] (jU (kN (kA x * kA y))) := by
 refine jK Tryz.func140 rfl cb140 rfl ?_
 show uY _ _ _ _ ⟨[(0, (.d (jU x))), (1, (.d (jU y)))], []⟩
 refine jA <| kx [(2, (.ref 0 0)), (3, (.ref 1 0)), (4, (.ref 2 0))] [(0, some (bx (jU x))), (1, some (bx (jU y))), (2, some (bx (jU (jG.mk false []))))] (zN (vN 0) <| zN (vN 1) <| zN (qP 2 gL gM) <| zZ) ?_
 refine jA <| kd [] [(2, some (bx (jU (xS (!(x.neg == y.neg)) (val (ofNat (val (kS x) * val (kS y))))))))] mo (wE (kO xM) <| wR (uM sh4) <| wE (kO xM) <| wR (uM sh4) <| wE (oNb bo4) <| wR (jZ kF) <| wE (jX (gX x (by omega))) <| wR (jZ kF) <| wE (jX (gX y (by omega))) <| wE (jX (t_times (kS x) (kS y) (qR _).1 (qR _).1 (Nat.le_trans (gA _) (by omega)) (Nat.le_trans (gA _) (by omega)))) <| wE (jX (cH (!(x.neg == y.neg)) (ofNat (val (kS x) * val (kS y))) (kM _) (Nat.le_trans (mul_len (qR _).1 (qR _).1) (by have := gA x; have := gA y; omega)))) <| wT (kU kF) <| wZ) ?_
 refine jH ⟨_, (kZ (cs := (bx (jU (xS (!(x.neg == y.neg)) (val (ofNat (val (kS x) * val (kS y)))))))) (d := (jU (xS (!(x.neg == y.neg)) (val (ofNat (val (kS x) * val (kS y))))))) rfl rfl kF rfl rfl .nil), ?_⟩
 rw [show kA x * kA y = _ from rfl, kA, kA, ← mul_eq]; rfl
theorem t_of (n : Int) (hlo : -9223372036854775808 ≤ n) (hhi : n ≤ 9223372036854775807) : kD Tryz.prog 142 [(.val (.int .i64 (n)))] (jU (kN n)) := by
 refine jK Tryz.func142 rfl cb142 rfl ?_
 show uY _ _ _ _ ⟨[(0, (vi n))], []⟩
 refine jA <| kx [(2, (.ref 0 0))] [(0, some (bx (jU (jG.mk false []))))] (zN (qP 0 gL gM) <| zZ) ?_
 refine jA <| kx [(3, (yY ((n % 18446744073709551616).toNat)))] [] (zM <| zE (nS un3 yO ((n % 18446744073709551616).toNat) (hr := by exact (conv_u64 _))) <| zM <| zZ) ?_
 refine jA <| jA <| kx [(7, (vb (decide (n < 0))))] [] (zM <| zE qM <| zZ) ?_
 refine jS (b := decide (n < 0)) rfl (fun h1 => ?_) (fun h1 => ?_)
 ·replace h1 := of_decide_eq_true h1
  refine kx [(3, (yY ((-n).toNat)))] [] (zM <| zE (oNg (((-n).toNat : Nat) : Int) (hr := by exact (neg_u64 (by assumption) hlo))) <| zM <| zZ) ?_
  refine jA <| kx [] [(0, some (bx (jU (xS (decide (n < 0)) (val (ofNat ((-n).toNat)))))))] (zM <| zE qM <| zM <| zE (jX (t_split ((-n).toNat) (by omega))) <| zE (jX (cH (decide (n < 0)) (ofNat ((-n).toNat)) (kM _) (Nat.le_trans (dV (by omega)) (by decide)))) <| zT (kU kF) <| zZ) ?_
  refine jH ⟨_, (kZ (cs := (bx (jU (xS (decide (n < 0)) (val (ofNat ((-n).toNat))))))) (d := (jU (xS (decide (n < 0)) (val (ofNat ((-n).toNat)))))) rfl rfl kF rfl rfl .nil), ?_⟩
  rw [of_neg h1]; rfl
 ·replace h1 := of_decide_eq_false h1
  refine jD <| jA <| kx [] [(0, some (bx (jU (xS (decide (n < 0)) (val (ofNat ((n % 18446744073709551616).toNat)))))))] (zM <| zE qM <| zM <| zE (jX (t_split ((n % 18446744073709551616).toNat) (by omega))) <| zE (jX (cH (decide (n < 0)) (ofNat ((n % 18446744073709551616).toNat)) (kM _) (Nat.le_trans (dV (by omega)) (by decide)))) <| zT (kU kF) <| zZ) ?_
  refine jH ⟨_, (kZ (cs := (bx (jU (xS (decide (n < 0)) (val (ofNat ((n % 18446744073709551616).toNat))))))) (d := (jU (xS (decide (n < 0)) (val (ofNat ((n % 18446744073709551616).toNat)))))) rfl rfl kF rfl rfl .nil), ?_⟩
  rw [of_pos h1 hhi]; rfl
theorem t_compareI (x : jG) (y : jG) (hx : x.gs.length ≤ 1099511627776) (hy : y.gs.length ≤ 1099511627776) : kD Tryz.prog 144 [(jU x), (jU y)] (.val (.int .i64 ((xB (kA x) (kA y))))) := by
 refine jK Tryz.func144 rfl cb144 rfl ?_
 show uY _ _ _ _ ⟨[(0, (.d (jU x))), (1, (.d (jU y)))], []⟩
 refine jA <| kx [(2, (.ref 0 0)), (3, (.ref 1 0))] [(0, some (bx (jU x))), (1, some (bx (jU y)))] (zN (vN 0) <| zN (vN 1) <| zM <| zZ) ?_
 refine jA <| jA <| kd [(5, (vi (uU (kA x)))), (6, (vi (uU (kA y))))] [] mo (wR (jZ kF) <| wE (jX (t_sign x (by omega))) <| wR (jZ kF) <| wE (jX (t_sign y (by omega))) <| wM <| wM <| wZ) ?_
 refine jA <| kx [(14, (vb ((uU (kA x)) != (uU (kA y)))))] [] (zM <| zM <| zE dL <| zZ) ?_
 refine jS (b := ((uU (kA x)) != (uU (kA y)))) rfl (fun h1 => ?_) (fun h1 => ?_)
 ·replace h1 := bne_iff_ne.1 h1
  refine jA <| kx [(4, (vi (xB (uU (kA x)) (uU (kA y)))))] [] (zM <| zM <| zE (jX (t_cmp_int (uU (kA x)) (uU (kA y)))) <| zM <| zZ) ?_
  refine jH ⟨_, (.tmp (d := (.val (.int .i64 ((xB (uU (kA x)) (uU (kA y))))))) rfl .nil), ?_⟩
  rw [← cmp_sign h1]; rfl
 ·replace h1 := bne_eq_false_iff_eq.1 h1
  refine jD <| jA <| kd [(7, (vi (xB ((val (kS x) : Nat) : Int) ((val (kS y) : Nat) : Int))))] [] mo (wR (jZ kF) <| wE (jX (gX x (by omega))) <| wR (jZ kF) <| wE (jX (gX y (by omega))) <| wE (jX (t_compare (kS x) (kS y) (qR _) (qR _) (Nat.le_trans (gA _) (by omega)))) <| wM <| wZ) ?_
  refine jA <| jA <| kx [(24, (vb x.neg))] [] (zE (kO xM) <| zR (uM sh4) <| zZ) ?_
  refine jS (b := x.neg) rfl (fun h2 => ?_) (fun h2 => ?_)
  ·refine jA <| kx [(4, (vi (-(xB ((val (kS x) : Nat) : Int) ((val (kS y) : Nat) : Int)))))] [] (zM <| zE (oNg (-(xB ((val (kS x) : Nat) : Int) ((val (kS y) : Nat) : Int))) (hr := by exact (wi64 (by omega) (by have := cmpI_range ((val (kS x) : Nat) : Int) ((val (kS y) : Nat) : Int); omega) (by have := cmpI_range ((val (kS x) : Nat) : Int) ((val (kS y) : Nat) : Int); omega)))) <| zM <| zZ) ?_
   refine jH ⟨_, (.tmp (d := (.val (.int .i64 (-(xB ((val (kS x) : Nat) : Int) ((val (kS y) : Nat) : Int)))))) rfl .nil), ?_⟩
   rw [← cmp_neg h1 h2]; rfl
  ·refine jD <| jA <| kx [(4, (vi (xB ((val (kS x) : Nat) : Int) ((val (kS y) : Nat) : Int))))] [] (zM <| zM <| zZ) ?_
   refine jH ⟨_, (.tmp (d := (.val (.int .i64 ((xB ((val (kS x) : Nat) : Int) ((val (kS y) : Nat) : Int)))))) rfl .nil), ?_⟩
   rw [← cmp_pos h1 h2]; rfl
end Go.Proofs.YtbecgnplakngdaaGreat
namespace Go.Proofs.YtbecgnplakngdaaGreat
open Go.RowKit Go.Shelf
attribute [local go_sem] Oper.semAt_some
set_option maxRecDepth 100000 in
set_option maxHeartbeats 2000000 in
theorem trimV (b cap : Nat) (l : List Nat) (hd : Go.Fid.Dig l) (h0 : Go.Fid.val l ≠ 0) (w : World) (hc : ∀ i, i < l.length → w.cell? ⟨b, i, none⟩ = some (.int .u32 ((l.getD i 0 : Nat) : Int))) (h1 : l.length ≤ cap) (h2 : cap ≤ maxLen) :
    CallsIn Fence.wide 1 Tryz.prog 206 #[.slice (some ⟨b, 0, none⟩) l.length cap] w fun e w' => e = .returned (.slice (some ⟨b, 0, none⟩) (Go.Fid.ofNat (Go.Fid.val l)).length cap) ∧ w' = w := by
  refine callsIn_of_wp Tryz.func206 rfl trivial ?_ rfl
  simp only [Tryz.ntmps206, List.size_toArray, List.length_cons, List.length_nil, Nat.reduceAdd, Nat.reduceSub, Array.replicate_succ, Array.replicate_zero, List.push_toArray, List.append_toArray, List.nil_append, List.cons_append]
  gi_wp2
  gi_loopw [0] (fun i wr => ∃ j : Nat, j ≤ l.length ∧ 0 < j ∧ i = .slice (some ⟨b, 0, none⟩) j cap ∧ Go.Fid.val (l.take j) = Go.Fid.val l ∧ wr = w)
    (fun i _ => match i with | .slice _ n _ => n | _ => 0)
  case atStart =>
    have hl : 0 < l.length := by
      rcases l with _ | ⟨d, l⟩
      · exact absurd rfl h0
      · simp
    exact ⟨l.length, Nat.le_refl _, hl, rfl, by rw [List.take_length], rfl⟩
  case round =>
    obtain ⟨j, hj, hj0, rfl, hv, rfl⟩ := hrel
    have hcj := hc (j - 1) (by omega)
    have hj63 : (j : Int) ≤ 9223372036854775807 := by unfold maxLen at h2; omega
    have hv2 := Go.Fid.val_take_succ l (j - 1)
    rw [show j - 1 + 1 = j by omega] at hv2
    by_cases hz : l.getD (j - 1) 0 = 0
    · rw [hz] at hcj hv2
      have h1j : 0 < j - 1 := by
        rcases Nat.eq_zero_or_pos (j - 1) with e | e
        · rw [e, List.take_zero, Go.Fid.val_nil, Nat.mul_zero] at hv2
          omega
        · exact e
      gi_wp2
      go_roundw
      case rel => exact ⟨j - 1, by omega, h1j, by simp, by rw [← hv, hv2]; simp, trivial⟩
      case measure => simp; omega
    · gi_wp2
      · rename_i hq
        exfalso
        simp [List.getD] at hz hq
        omega
      · refine ⟨rfl, .slice (some ⟨b, 0, none⟩) j cap, by simp [results, Tryz.results206, go_sem], ?_⟩
        have e : Go.Fid.ofNat (Go.Fid.val l) = l.take j := by
          rw [← hv]
          refine (Go.Fid.can_eq ⟨hd.take j, ?_⟩).symm
          unfold Go.Fid.Top
          have h5 : (l.take j).length - 1 = j - 1 := by rw [List.length_take]; omega
          rw [h5]
          have h6 : j - 1 < l.length := by omega
          simp [List.getD, List.getElem?_eq_getElem h6, List.getElem?_take_of_lt (show j - 1 < j by omega)] at hz ⊢
          exact hz
        rw [e, List.length_take, Nat.min_eq_left hj]
        exact ⟨rfl, rfl⟩
theorem trim_cb : Go.Fid.callB Tryz.prog 206 = true := by kernel_rfl
open Go.Fid in
theorem e_trimO {o : Oper} {S : Nat → SV} {x : Operand} {ats : Array TypeId} {k T m : Nat} (l : List Nat) (ho : o.op = .call { callee := .value (.func 206), args := #[x], argTypes := ats }) (hx : ev S x = .own k T 1 m) (hl : l.length = m) (hd : Dig l) (h0 : val l ≠ 0) :
    vO Tryz.prog o S [(k, l.map (fun g => SV.d (jB g)))] (.own k T 1 (ofNat (val l)).length) :=
  fun a w D β Q hop hrd hD => by
    have hxv := hop x (by simp [ho, Op.operands, Call.operands])
    rw [hx] at hxv
    have hm : 0 < m := by
      rcases Nat.eq_zero_or_pos m with e | e
      · rw [e] at hl
        have := List.eq_nil_of_length_eq_zero hl
        subst this
        exact absurd rfl h0
      · exact e
    have hle : (ofNat (val l)).length ≤ l.length := vC (xH hd)
    rcases hxv with ⟨_, e, _⟩ | ⟨b, cap, vs, h1, h2, h3, h4, h5, h6⟩
    · omega
    · have hblk := hrd (k, l.map (fun g => SV.d (jB g))) (by simp)
      rcases hblk with ⟨g1, _⟩ | ⟨b', vs', T', g1, g2, g3, g4, g5⟩
      · rw [h1] at g1; cases g1
      · obtain rfl : b = b' := by rw [h1] at g1; injection g1
        rw [h3] at g2
        injection g2 with g2
        injection g2 with g2 gT
        subst g2; subst gT
        have hcell : ∀ i, w.cell? ⟨b, i, none⟩ = vs[i]? := fun i => cell_of_row w b i vs T (0, 0) h3
        have hrun : (execOp a.eval o).run Tryz.prog w = .ok (.enter 206 #[.slice (some ⟨b, 0, none⟩) l.length cap]) w := by
          simp only [execOp, ho, resolve, Deferred.ofValue, Act.eval, Sem.run_bind, Sem.run_pure, Result.andThen_ok, invoke, Array.empty_append, Array.append_empty]
          rw [nE trim_cb]
          simp [h2, hl]
        refine fK hrun (((callsIn_wide (n := 1)).1 (trimV b cap l hd h0 w (fun i hi => ?_) (by omega) h6)).mono fun e w' h => ?_)
        · rw [hcell]
          obtain ⟨u, e1, _, e3⟩ := g4 i (.d (jB (l.getD i 0))) (by rw [List.getElem?_map, List.getElem?_eq_getElem hi]; simp [List.getD, List.getElem?_eq_getElem hi])
          rw [e1, xP e3]
        · obtain ⟨he, rfl⟩ := h
          exact ⟨_, he, _, D, rfl, Below.refl _ _, ⟨fun _ _ _ h => h, fun _ _ _ h => .inl h⟩, .inr ⟨b, cap, vs, h1, rfl, h3, h4, by omega, h6⟩⟩
open Go.Fid in
theorem trim_take {l : List Nat} (hd : Dig l) : ofNat (val l) = l.take (ofNat (val l)).length := by
  have h1 : ∀ (n : Nat) (l : List Nat), l.length = n → Dig l → ofNat (val l) = l.take (ofNat (val l)).length := by
    intro n
    induction n with
    | zero => intro l hl _; rw [List.eq_nil_of_length_eq_zero hl]; rw [val_nil, vT]; rfl
    | succ n ih =>
      intro l hl hd
      have h2 := val_take_succ l n
      rw [← hl, List.take_length] at h2
      by_cases hz : l.getD n 0 = 0
      · rw [hz, Nat.mul_zero, Nat.add_zero] at h2
        have h3 := ih (l.take n) (by rw [List.length_take]; omega) (hd.take n)
        rw [← h2, List.take_take] at h3
        have h4 : (ofNat (val l)).length ≤ n := by
          rw [h2]; exact vC (by have := xH (hd.take n); rwa [List.length_take, Nat.min_eq_left (by omega)] at this)
        rw [Nat.min_eq_left h4] at h3
        exact h3
      · have h3 : gB l := ⟨hd, by
          unfold Top
          rw [show l.length - 1 = n by omega]
          have h6 : n < l.length := by omega
          simp [List.getD, List.getElem?_eq_getElem h6] at hz ⊢
          exact hz⟩
        rw [← can_eq h3, List.take_length]
  exact h1 _ l rfl hd
end Go.Proofs.YtbecgnplakngdaaGreat
namespace Go.Proofs.YtbecgnplakngdaaGreat
open Go.Fid
set_option maxRecDepth 4000
set_option linter.unusedVariables false
set_option linter.unusedSimpArgs false
theorem cb210 : callB Tryz.prog 210 = true := by kernel_rfl
theorem ze38 : xC Tryz.prog 38 = some [.slice none 0 0] := by kernel_rfl
theorem zo38 : nV [.slice none 0 0] [.sl 152 1 []] := by simp [nV, Value.oneCell']
theorem t_short (a : List Nat) (d : Nat) (hda : Dig a) (hd0 : 0 < d) (hd1 : d ≤ 1000000000) (hla : a.length ≤ 17592186044416) : kD Tryz.prog 210 [(.sl 152 1 (List.map jB a)), (.val (.int .u32 (((d : Nat) : Int))))] (.tup [(.sl 152 1 (List.map jB (ofNat (val a / d)))), (.val (.int .u32 ((((val a % d) : Nat) : Int))))]) := by
 refine jK Tryz.func210 rfl cb210 rfl ?_
 show uY _ _ _ _ ⟨[(0, (vl 152 1 jB a)), (1, (eE d))], []⟩
 refine jA <| kx [(3, (.ref 0 0)), (4, (.ref 1 0)), (5, (eE 0))] [(0, some (bx (.val (.int .u32 (((d : Nat) : Int)))))), (1, some (bx (.sl 152 1 (List.map jB []))))] (zN (vN 0) <| zN (qP 1 ze38 zo38) <| zM <| zZ) ?_
 refine jA <| kx [] [(1, some [(.own 2 152 1 a.length)]), (2, some (bm jB (List.replicate a.length 0)))] (zM <| zE (nX kP) <| zN (oMk 2 jB (0 : Nat) a.length a.length kP xE yS nA) <| zT (oSo yU) <| zZ) ?_
 refine jA <| kx [(6, (.ref 3 0))] [(3, some (bx (.val (.int .u64 (0)))))] (zH (qP 3 ze154 zo154) <| zT (kU sh154) <| zZ) ?_
 refine jA <| pwp_backL backs cb166 rfl 7 jB a 0 (fun (q, xR) => ⟨[(3, (.ref 0 0)), (4, (.ref 1 0)), (5, (eE 0)), (6, (.ref 3 0))], [(0, some (bx (.val (.int .u32 (((d : Nat) : Int)))))), (1, some [(.own 2 152 1 a.length)]), (2, some (bm jB q)), (3, some (bx (.val (.int .u64 (((xR : Nat) : Int))))))]⟩) (fun (j : Nat) (q, xR) => q.length = a.length ∧ Dig q ∧ xR < d ∧ val (a.drop (a.length - j)) = val (q.drop (a.length - j)) * d + xR) (List.replicate a.length 0, 0) rfl rfl rfl rfl rfl rfl rfl rfl rfl rfl rfl rfl (fun _ => rfl) (fun _ => rfl) wk ⟨by simp, zW _, hd0, by simp [val, cJ]⟩ (by omega) ?_ ?_
 ·rintro rl j ⟨q, xR⟩ hj ⟨vR, hdq, hr, hv⟩
  have hg := hda.getD (a.length - 1 - j)
  obtain ⟨hb1, hb2⟩ := short_bound hr hd1 hg
  refine jA <| kx [(7, (kE (a.length - 1 - j)))] [] (zM <| zZ) ?_
  refine kx [(8, (eE (a.getD (a.length - 1 - j) 0)))] [] (zM <| zZ) ?_
  refine jE <| jA <| kx [(9, (yY ((xR * 1000000000) + (a.getD (a.length - 1 - j) 0))))] [] (zR (uM sh154) <| zE (oMl (xR * 1000000000)) <| zM <| zE (nS yV yO (a.getD (a.length - 1 - j) 0)) <| zE (uI ((xR * 1000000000) + (a.getD (a.length - 1 - j) 0))) <| zM <| zZ) ?_
  refine kd [] [(2, some (bm jB (q.set (a.length - 1 - j) (((xR * 1000000000) + (a.getD (a.length - 1 - j) 0)) / d)))), (3, some (bx (.val (.int .u64 ((((((xR * 1000000000) + (a.getD (a.length - 1 - j) 0)) % d) : Nat) : Int))))))] mo (wR (uM yU) <| wM <| wM <| wR (uM uN) <| wE (nS yV yO d) <| wE (oQu (((xR * 1000000000) + (a.getD (a.length - 1 - j) 0)) / d)) <| wE (nS gR gH (((xR * 1000000000) + (a.getD (a.length - 1 - j) 0)) / d)) <| wM <| wR (uM uN) <| wE (nS yV yO d) <| wE (oRe (((xR * 1000000000) + (a.getD (a.length - 1 - j) 0)) % d)) <| wE (oXo kP (a.length - 1 - j)) <| wT (oSp uN (a.length - 1 - j) (((xR * 1000000000) + (a.getD (a.length - 1 - j) 0)) / d)) <| wT (kU sh154) <| wZ) ?_
  exact ⟨(q.set (a.length - 1 - j) ((xR * 1000000000 + a.getD (a.length - 1 - j) 0) / d), (xR * 1000000000 + a.getD (a.length - 1 - j) 0) % d), wk, ⟨by simpa using vR, hdq.set _ hb2, Nat.mod_lt _ hd0, short_step hj vR hv rfl⟩⟩
 ·rintro ⟨q, xR⟩ ⟨vR, hdq, hr, hv⟩
  obtain ⟨e1, e2⟩ := short_end hv hr
  refine jA <| kV (publishB (j := 1) (k := 2) (es := List.map jB q) rfl rfl rfl (xL _ _ (fun _ => rfl)) (xQ _ _ vR) (zP _ _ (fun _ => rfl) vR)) ?_
  refine kd [(5, (eE xR))] [(1, some (bx (.sl 152 1 (List.map jB (ofNat (val q))))))] mo (wR (uM yU) <| wE (jX (t_trim q (by assumption) (by omega))) <| wR (uM sh154) <| wE (nS gR gH xR) <| wT (kU yU) <| wM <| wZ) ?_
  refine jH ⟨_, (res_1 (cs := (bx (.sl 152 1 (List.map jB (ofNat (val q)))))) (d := (.sl 152 1 (List.map jB (ofNat (val q))))) rfl rfl yU rfl rfl (.tmp (d := (.val (.int .u32 (((xR : Nat) : Int))))) rfl .nil)), ?_⟩
  rw [← e1, ← e2]; rfl
theorem o_times (a b : List Nat) (hda : Dig a) (hdb : Dig b) (hla : a.length ≤ 4398046511104) (hlb : b.length ≤ 4398046511104) (h0 : 0 < val a * val b) : TakesO Tryz.prog 179 [(.sl 152 1 (List.map jB a)), (.sl 152 1 (List.map jB b))] 152 1 (ofNat (val a * val b)).length (List.map jB (ofNat (val a * val b))) := by
 refine fn_introO Tryz.func179 rfl cb179 rfl (cO h0) ?_
 show uY _ _ _ _ ⟨[(0, (vl 152 1 jB a)), (1, (vl 152 1 jB b))], []⟩
 refine jA <| kx [] [] (zE (oNl 152 1) <| zZ) ?_
 refine jA <| kx [(5, (.own 0 152 1 (a.length + b.length)))] [(0, some (bm jB (List.replicate (a.length + b.length) 0)))] (zM <| zE (nX kP) <| zM <| zE (nX kP) <| zE (uI (a.length + b.length)) <| zN (oMk 0 jB (0 : Nat) (a.length + b.length) (a.length + b.length) kP xE yS nA) <| zM <| zZ) ?_
 refine jA <| jA <| kx [(18, (vl 152 1 jB a)), (19, (kE a.length)), (20, (kE 0))] [] (zM <| zE (nX kP) <| zM <| zZ) ?_
 refine jE <| uZ (α := Nat × List Nat) (fun (i, out) => ⟨[(1, (vl 152 1 jB b)), (5, (.own 0 152 1 (a.length + b.length))), (18, (vl 152 1 jB a)), (19, (kE a.length)), (20, (kE i))], [(0, some (bm jB out))]⟩) (fun (i, out) => out.length = a.length + b.length ∧ Dig out ∧ i ≤ a.length ∧ (∀ k, i + b.length ≤ k → out.getD k 0 = 0) ∧ val out = val (a.take i) * val b) (fun (i, out) => a.length - i) (0, List.replicate (a.length + b.length) 0) wk ⟨by simp, zW _, Nat.zero_le _, fun k _ => dW _ k, by simp [val, cJ]⟩ ?_
 rintro ⟨i, out⟩ ⟨vR, hdo, hi, hz, hv⟩
 have hai := hda.getD i
 refine jA <| kx [(21, (vb (decide (((i : Nat) : Int) < ((a.length : Nat) : Int)))))] [] (zE qM <| zZ) ?_
 refine jA <| jS rfl (fun h1 => ?_) (fun h1 => ?_)
 ·replace h1 := of_decide_eq_true h1
  refine jD <| jA <| jE <| jA <| kx [(6, (kE i)), (7, (eE (a.getD i 0)))] [] (zM <| zE (oXl kP i (0 : Nat)) <| zE (xT uN) <| zM <| zM <| zZ) ?_
  refine jA <| kx [(8, (yY 0))] [] (zM <| zZ) ?_
  refine jA <| jA <| kx [(25, (vl 152 1 jB b)), (26, (kE b.length)), (27, (kE 0))] [] (zM <| zE (nX kP) <| zM <| zZ) ?_
  refine jE <| uZ (α := Nat × List Nat × Nat) (fun (j, o2, c) => ⟨[(1, (vl 152 1 jB b)), (5, (.own 0 152 1 (a.length + b.length))), (6, (kE i)), (7, (eE (a.getD i 0))), (8, (yY c)), (18, (vl 152 1 jB a)), (19, (kE a.length)), (20, (kE i)), (25, (vl 152 1 jB b)), (26, (kE b.length)), (27, (kE j))], [(0, some (bm jB o2))]⟩) (fun (j, o2, c) => o2.length = a.length + b.length ∧ Dig o2 ∧ j ≤ b.length ∧ c < 1000000000 ∧ (∀ k, i + b.length ≤ k → o2.getD k 0 = 0) ∧ val o2 + pw (i + j) * c = val (a.take i) * val b + pw i * (a.getD i 0 * val (b.take j))) (fun (j, o2, c) => b.length - j) (0, out, 0) wk ⟨vR, hdo, Nat.zero_le _, by decide, hz, by simp [val, hv]⟩ ?_
  rintro ⟨j, o2, c⟩ ⟨hlen2, hdo2, hj, hc, hz2, hv2⟩
  have hbj := hdb.getD j
  have hoj := hdo2.getD (i + j)
  have hpq : a.getD i 0 * b.getD j 0 ≤ 999999999 * 999999999 := Nat.mul_le_mul (by omega) (by omega)
  refine jA <| kx [(28, (vb (decide (((j : Nat) : Int) < ((b.length : Nat) : Int)))))] [] (zE qM <| zZ) ?_
  refine jA <| jS rfl (fun h2 => ?_) (fun h2 => ?_)
  ·replace h2 := of_decide_eq_true h2
   refine jD <| jA <| jE <| jA <| kx [(9, (kE j)), (10, (eE (b.getD j 0)))] [] (zM <| zE (oXl kP j (0 : Nat)) <| zE (xT uN) <| zM <| zM <| zZ) ?_
   refine jA <| kx [(11, (yY (((o2.getD (i + j) 0) + ((a.getD i 0) * (b.getD j 0))) + c)))] [] (zM <| zM <| zM <| zE (uI (i + j)) <| zE (oXo kP (i + j)) <| zR (oLp uN (i + j) (0 : Nat)) <| zE (nS yV yO (o2.getD (i + j) 0)) <| zM <| zE (nS yV yO (a.getD i 0)) <| zM <| zE (nS yV yO (b.getD j 0)) <| zE (oMl ((a.getD i 0) * (b.getD j 0))) <| zE (uI ((o2.getD (i + j) 0) + ((a.getD i 0) * (b.getD j 0)))) <| zM <| zE (uI (((o2.getD (i + j) 0) + ((a.getD i 0) * (b.getD j 0))) + c)) <| zM <| zZ) ?_
   refine kx [(8, (yY ((((o2.getD (i + j) 0) + ((a.getD i 0) * (b.getD j 0))) + c) / 1000000000)))] [(0, some (bm jB (o2.set (i + j) ((((o2.getD (i + j) 0) + ((a.getD i 0) * (b.getD j 0))) + c) % 1000000000))))] (zM <| zM <| zM <| zE (uI (i + j)) <| zM <| zE (oRe ((((o2.getD (i + j) 0) + ((a.getD i 0) * (b.getD j 0))) + c) % 1000000000)) <| zE (nS gR gH ((((o2.getD (i + j) 0) + ((a.getD i 0) * (b.getD j 0))) + c) % 1000000000)) <| zM <| zE (oQu ((((o2.getD (i + j) 0) + ((a.getD i 0) * (b.getD j 0))) + c) / 1000000000)) <| zE (oXo kP (i + j)) <| zT (oSp uN (i + j) ((((o2.getD (i + j) 0) + ((a.getD i 0) * (b.getD j 0))) + c) % 1000000000)) <| zM <| zZ) ?_
   refine kx [(27, (kE (j + 1)))] [] (zE (uI (j + 1)) <| zM <| zZ) ?_
   exact ⟨(j + 1, o2.set (i + j) ((o2.getD (i + j) 0 + a.getD i 0 * b.getD j 0 + c) % 1000000000), (o2.getD (i + j) 0 + a.getD i 0 * b.getD j 0 + c) / 1000000000), wk, (by obtain ⟨q1, q2⟩ := times_step (by omega) hdo2 hv2 rfl (val_take_succ b j); exact ⟨by simpa using hlen2, q1, by omega, by omega, zero_set (by omega) hz2, q2⟩), (by first | omega | (dsimp only; omega))⟩
  ·replace h2 := of_decide_eq_false h2
   have hje : j = b.length := by omega
   rw [hje] at hv2
   refine kK <| kx [] [(0, some (bm jB (o2.set (i + b.length) c)))] (zM <| zM <| zM <| zE (nX kP) <| zE (uI (i + b.length)) <| zM <| zE (nS gR gH c) <| zE (oXo kP (i + b.length)) <| zT (oSp uN (i + b.length) c) <| zZ) ?_
   refine kx [(20, (kE (i + 1)))] [] (zE (uI (i + 1)) <| zM <| zZ) ?_
   exact ⟨(i + 1, o2.set (i + b.length) c), wk, (by obtain ⟨q1, q2, q3, q4⟩ := times_row hdo2 (by omega) hlen2 hz2 hc hv2; exact ⟨q1, q2, by omega, q3, q4⟩), (by first | omega | (dsimp only; omega))⟩
 ·replace h1 := of_decide_eq_false h1
  have hie : i = a.length := by omega
  rw [hie, List.take_length] at hv
  refine kK <| jA <| kx [(4, (.own 0 152 1 ((ofNat (val out)).length)))] [] (zM <| zR ⟨_, e_trimO out (by exact rfl) (by exact rfl) vR hdo (by omega), by kernel_rfl⟩ <| zM <| zZ) ?_
  rw [← hv]
  refine jH ⟨4, 0, rfl, rfl, (bm jB out), rfl, ?_⟩
  exact own_prefix _ (trim_take hdo)
end Go.Proofs.YtbecgnplakngdaaGreat
namespace Go.Proofs.YtbecgnplakngdaaGreat
open Go.Fid
set_option maxRecDepth 4000
set_option linter.unusedVariables false
set_option linter.unusedSimpArgs false
theorem cb211 : callB Tryz.prog 211 = true := by kernel_rfl
theorem in2 : intB Tryz.prog 2 = some .i64 := by kernel_rfl
theorem un2 : (Tryz.prog.underlying 2).isSome = true := by kernel_rfl
set_option maxHeartbeats 4000000 in
theorem t_long (a b : List Nat) (hda : gB a) (hdb : gB b) (hb2 : 2 ≤ b.length) (hba : val b ≤ val a) (hla : a.length ≤ 1099511627776) : kD Tryz.prog 211 [(.sl 152 1 (List.map jB a)), (.sl 152 1 (List.map jB b))] (.tup [(.sl 152 1 (List.map jB (ofNat (val a / val b)))), (.sl 152 1 (List.map jB (ofNat (val a % val b))))]) := by
 have hab := len_of_le hda hdb hba
 have hsc := fQ hdb (by omega)
 have htp := aK hdb (by omega)
 have hds : Dig [mU b] := yT.2 ⟨by omega, gJ⟩
 have hbp : 0 < val b := by have := val_top hdb.1 (by omega); have h2 := Nat.mul_le_mul_right (pw (b.length - 1)) htp.1; have h3 := pw_pos (b.length - 1); rw [Nat.succ_mul] at h2; omega
 obtain ⟨u0, hue⟩ : ∃ u0, u0 = ofNat (val a * val [mU b]) := ⟨_, rfl⟩
 obtain ⟨v, hve⟩ : ∃ v, v = ofNat (val b * val [mU b]) := ⟨_, rfl⟩
 have hu0 : Dig u0 := by rw [hue]; exact kM _
 have hvd : Dig v := by rw [hve]; exact kM _
 have hvl : v.length = b.length := by rw [hve, mR]; exact scl_len hdb (by omega)
 have hvv : val v = val b * mU b := by rw [hve, mR]; exact kL _
 have hu0v : val u0 = val a * mU b := by rw [hue, mR]; exact kL _
 have hu0l : a.length ≤ u0.length ∧ u0.length ≤ a.length + 1 := by rw [hue, mR]; exact scl_lenA hda hdb (by omega)
 have hLU : (u0 ++ [0]).length = u0.length + 1 := by simp
 have hcv : gB v := by rw [hve]; exact qO _
 have hv1p : 0 < v.getD (b.length - 1) 0 := by rw [← hvl]; exact (aK hcv (by omega)).1
 have hpv : pw (b.length - 1) ≤ val v := by have h1 := val_top hvd (by omega); rw [hvl] at h1; have h2 := Nat.mul_le_mul_right (pw (b.length - 1)) hv1p; omega
 refine jK Tryz.func211 rfl cb211 rfl ?_
 show uY _ _ _ _ ⟨[(0, (vl 152 1 jB a)), (1, (vl 152 1 jB b))], []⟩
 refine jA <| kx [] [] (zE (oNl 152 1) <| zE (oNl 152 1) <| zZ) ?_
 refine jA <| kx [(6, (eE (mU b)))] [] (zM <| zM <| zE (nX kP) <| zE (oSb (b.length - 1)) <| zE (oXl kP (b.length - 1) (0 : Nat)) <| zE (xT uN) <| zE (nS yV yO (b.getD (b.length - 1) 0)) <| zE (uI ((b.getD (b.length - 1) 0) + 1)) <| zE (oQu (mU b) (hr := by exact (quo_u64 1000000000 (b.getD (b.length - 1) 0 + 1) (by decide)))) <| zE (nS gR gH (mU b)) <| zM <| zZ) ?_
 refine jA <| kx [(7, (.own 0 152 1 u0.length))] [(0, some (bm jB u0))] (zM <| zM <| zE (nM kP xE yS) <| zN (oCo 0 (hue ▸ o_times a [mU b] hda.1 hds (by omega) (by simp) (by rw [mR]; exact Nat.mul_pos (by omega) hsc.1))) <| zM <| zZ) ?_
 refine jA <| kx [(8, (vl 152 1 jB v))] [] (zM <| zM <| zE (nM kP xE yS) <| zE (jX (hve ▸ t_times b [mU b] hdb.1 hds (by omega) (by simp))) <| zM <| zZ) ?_
 refine jA <| kx [(9, (kE b.length))] [] (zM <| zE (oLn kP b.length (hr := by exact (by simp [hvl]))) <| zM <| zZ) ?_
 refine jA <| kf [(7, (.own 0 152 1 ((u0 ++ [0]).length)))] [(0, some (bm jB (u0 ++ [0])))] (zM <| zE (nM kP xE yS) <| zA jB u0 [0] rfl kP xE nA <| zM <| zF) ?_
 refine jA <| jA <| kx [(50, (vb (decide ((((u0 ++ [0]).length : Nat) : Int) ≤ ((a.length : Nat) : Int)))))] [] (zM <| zE (oLo kP) <| zM <| zE (nX kP) <| zE oLe <| zZ) ?_
 refine jS rfl (fun h1 => ?_) (fun h1 => ?_)
 ·replace h1 := of_decide_eq_true h1
  exfalso; simp at h1; omega
 ·replace h1 := of_decide_eq_false h1
  refine jD <| jA <| kx [(4, (.own 1 152 1 ((u0 ++ [0]).length - b.length)))] [(1, some (bm jB (List.replicate ((u0 ++ [0]).length - b.length) 0)))] (zM <| zE (oLo kP) <| zM <| zE (oSb ((u0 ++ [0]).length - b.length)) <| zH (oMk 1 jB (0 : Nat) ((u0 ++ [0]).length - b.length) ((u0 ++ [0]).length - b.length) kP xE yS nA) <| zM <| zZ) ?_
  refine jA <| jA <| kx [(10, (vi ((((u0 ++ [0]).length - b.length : Nat) : Int) - 1)))] [] (zM <| zE (oLo kP) <| zM <| zE (oSb ((u0 ++ [0]).length - b.length)) <| zE (dJ ((((u0 ++ [0]).length - b.length : Nat) : Int) - 1)) <| zM <| zZ) ?_
  refine jE <| uZ (α := Nat × List Nat × List Nat) (fun (k, u, q) => ⟨[(4, (.own 1 152 1 ((u0 ++ [0]).length - b.length))), (6, (eE (mU b))), (7, (.own 0 152 1 ((u0 ++ [0]).length))), (8, (vl 152 1 jB v)), (9, (kE b.length)), (10, (vi (((k : Nat) : Int) - 1)))], [(0, some (bm jB u)), (1, some (bm jB q))]⟩) (fun (k, u, q) => u.length = (u0 ++ [0]).length ∧ Dig u ∧ q.length = (u0 ++ [0]).length - b.length ∧ Dig q ∧ k ≤ (u0 ++ [0]).length - b.length ∧ val u + val v * (pw k * val (q.drop k)) = val a * mU b ∧ val (u.drop k) < val v) (fun (k, u, q) => k) ((u0 ++ [0]).length - b.length, u0 ++ [0], List.replicate ((u0 ++ [0]).length - b.length) 0) wk ⟨rfl, aE.2 ⟨hu0, yT.2 ⟨by decide, gJ⟩⟩, by simp, zW _, Nat.le_refl _, by simp [cB, val, hu0v], by have := long_start hu0 hvl hb2 (by omega) hpv; rw [hLU]; exact this⟩ ?_
  rintro ⟨k, u, q⟩ ⟨vR, hu, hql, hqd, hk, hU, hW⟩
  refine jA <| jA <| kx [(65, (vb (decide (0 ≤ (((k : Nat) : Int) - 1)))))] [] (zM <| zE oGe <| zZ) ?_
  refine jS (b := decide (0 ≤ (((k : Nat) : Int) - 1))) rfl (fun h2 => ?_) (fun h2 => ?_)
  ·replace h2 := of_decide_eq_true h2
   obtain ⟨j, rfl⟩ : ∃ j, k = j + 1 := ⟨k - 1, by omega⟩
   rw [show (((j + 1 : Nat) : Int) - 1) = ((j : Nat) : Int) from by omega]
   have hg1 := hu.getD (j + b.length)
   have hg2 := hu.getD (j + b.length - 1)
   have hg3 := hu.getD (j + b.length - 2)
   have hg4 := hvd.getD (b.length - 1)
   have hg5 := hvd.getD (b.length - 2)
   obtain ⟨z1, z2, z3, z4, z5, z6⟩ := window_tops hu hvd hvl hb2 hW
   obtain ⟨hwz, hww⟩ := window hvd hvl hW
   refine jD <| jA <| jE <| jA <| kd [(10, (kE j)), (11, (yY (((u.getD (j + b.length) 0) * 1000000000) + (u.getD ((j + b.length) - 1) 0))))] [] mo (wM <| wM <| wM <| wE (uI (j + b.length)) <| wR ⟨(bm jB u), e_clo (t_at u (j + b.length)) (by exact rfl) (by exact rfl) (by exact rfl) (.o (.d .nil)) (xL jB u (fun _ => rfl)) (xQ _ _ vR) (zP _ _ (fun _ => rfl) vR), by kernel_rfl⟩ <| wE (nS yV yO (u.getD (j + b.length) 0)) <| wE (oMl ((u.getD (j + b.length) 0) * 1000000000)) <| wM <| wM <| wM <| wE (uI (j + b.length)) <| wE (oSb ((j + b.length) - 1)) <| wE (oXo kP ((j + b.length) - 1)) <| wR (oLp uN ((j + b.length) - 1) (0 : Nat)) <| wE (nS yV yO (u.getD ((j + b.length) - 1) 0)) <| wE (uI (((u.getD (j + b.length) 0) * 1000000000) + (u.getD ((j + b.length) - 1) 0))) <| wM <| wZ) ?_
   refine jA <| kd [(12, (yY ((((u.getD (j + b.length) 0) * 1000000000) + (u.getD ((j + b.length) - 1) 0)) / (v.getD (b.length - 1) 0)))), (13, (yY ((((u.getD (j + b.length) 0) * 1000000000) + (u.getD ((j + b.length) - 1) 0)) % (v.getD (b.length - 1) 0))))] [] mo (wM <| wM <| wM <| wE (oSb (b.length - 1)) <| wE (oXl kP (b.length - 1) (0 : Nat)) <| wE (xT uN) <| wE (nS yV yO (v.getD (b.length - 1) 0)) <| wE (oQu ((((u.getD (j + b.length) 0) * 1000000000) + (u.getD ((j + b.length) - 1) 0)) / (v.getD (b.length - 1) 0))) <| wM <| wM <| wM <| wE (oSb (b.length - 1)) <| wE (oXl kP (b.length - 1) (0 : Nat)) <| wE (xT uN) <| wE (nS yV yO (v.getD (b.length - 1) 0)) <| wE (oRe ((((u.getD (j + b.length) 0) * 1000000000) + (u.getD ((j + b.length) - 1) 0)) % (v.getD (b.length - 1) 0))) <| wM <| wM <| wZ) ?_
   refine pwp_seqjoin (α := Nat × Nat) (fun (G, R) => ⟨[(4, (.own 1 152 1 ((u0 ++ [0]).length - b.length))), (6, (eE (mU b))), (7, (.own 0 152 1 ((u0 ++ [0]).length))), (8, (vl 152 1 jB v)), (9, (kE b.length)), (10, (kE j)), (12, (yY G))], [(0, some (bm jB u)), (1, some (bm jB q))]⟩) (fun (G, R) => G < 1000000000 ∧ val (u.drop j) / val v ≤ G ∧ G ≤ val (u.drop j) / val v + 1) ?_ ?_
   ·refine uZ (α := Nat × Nat) (fun (G, R) => ⟨[(4, (.own 1 152 1 ((u0 ++ [0]).length - b.length))), (6, (eE (mU b))), (7, (.own 0 152 1 ((u0 ++ [0]).length))), (8, (vl 152 1 jB v)), (9, (kE b.length)), (10, (kE j)), (12, (yY G)), (13, (yY R))], [(0, some (bm jB u)), (1, some (bm jB q))]⟩) (fun (G, R) => G * (v.getD (b.length - 1) 0) + R = (u.getD (j + b.length) 0 * 1000000000 + u.getD (j + b.length - 1) 0) ∧ val (u.drop j) / val v ≤ G ∧ R < 1000000000 ∧ G ≤ 1999999999) (fun (G, R) => G) ((u.getD (j + b.length) 0 * 1000000000 + u.getD (j + b.length - 1) 0) / v.getD (b.length - 1) 0, (u.getD (j + b.length) 0 * 1000000000 + u.getD (j + b.length - 1) 0) % v.getD (b.length - 1) 0) wk ⟨by rw [Nat.mul_comm]; exact Nat.div_add_mod _ _, guess_first0 z5 z4 hv1p hg3, Nat.lt_trans (Nat.mod_lt _ hv1p) hg4, guess_top hv1p z1 hg2⟩ ?_
    rintro ⟨G, R⟩ ⟨hG0, hG1, hR, hGb⟩
    have hpq : G * v.getD (b.length - 2) 0 ≤ 1999999999 * 999999999 := Nat.mul_le_mul hGb (by omega)
    refine jA <| jA <| kd [(123, (vb (decide (1000000000 ≤ ((G : Nat) : Int)) || decide (((((R * 1000000000) + (u.getD ((j + b.length) - 2) 0)) : Nat) : Int) < (((G * (v.getD (b.length - 2) 0)) : Nat) : Int)))))] [] mo ?_ ?_
    ·refine wM <| wE oGe <| wE (oV (vb (decide (1000000000 ≤ ((G : Nat) : Int)))) (vX (by kernel_rfl))) <| ?_
     rcases hb3 : (decide (1000000000 ≤ ((G : Nat) : Int))) with _ | _
     ·replace hb3 := of_decide_eq_false hb3
      exact wM <| wM <| wM <| wE (oSb (b.length - 2)) <| wE (oXl kP (b.length - 2) (0 : Nat)) <| wE (xT uN) <| wE (nS yV yO (v.getD (b.length - 2) 0)) <| wE (oMl (G * (v.getD (b.length - 2) 0))) <| wM <| wE (oMl (R * 1000000000)) <| wM <| wM <| wM <| wE (uI (j + b.length)) <| wE (oSb ((j + b.length) - 2)) <| wE (oXo kP ((j + b.length) - 2)) <| wR (oLp uN ((j + b.length) - 2) (0 : Nat)) <| wE (nS yV yO (u.getD ((j + b.length) - 2) 0)) <| wE (uI ((R * 1000000000) + (u.getD ((j + b.length) - 2) 0))) <| wE hM <| wE oPo <| wZ
     ·replace hb3 := of_decide_eq_true hb3
      exact wK <| wK <| wK <| wK <| wK <| wK <| wK <| wK <| wK <| wK <| wK <| wK <| wK <| wK <| wK <| wK <| wK <| wK <| wK <| wK <| wE mX <| wZ
    refine jS rfl (fun h4 => ?_) (fun h4 => ?_)
    ·rw [Bool.or_eq_true, decide_eq_true_eq, decide_eq_true_eq] at h4
     have hgl := guess_less (pw_pos _) z5 z4 hG0 hG1 hv1p z2 (by omega)
     refine jD <| jE <| jA <| kx [(12, (yY (G - 1)))] [] (zM <| zE (oSb (G - 1)) <| zM <| zZ) ?_
     refine jA <| kx [(13, (yY (R + (v.getD (b.length - 1) 0))))] [] (zM <| zM <| zM <| zE (oSb (b.length - 1)) <| zE (oXl kP (b.length - 1) (0 : Nat)) <| zE (xT uN) <| zE (nS yV yO (v.getD (b.length - 1) 0)) <| zE (uI (R + (v.getD (b.length - 1) 0))) <| zM <| zZ) ?_
     refine jA <| kx [(135, (vb (decide (1000000000 ≤ (((R + (v.getD (b.length - 1) 0)) : Nat) : Int)))))] [] (zM <| zE oGe <| zZ) ?_
     refine jS rfl (fun h5 => ?_) (fun h5 => ?_)
     ·replace h5 := of_decide_eq_true h5
      refine kK ?_
      refine pjoin_exit (id := 2) (α := Nat × Nat) (Q := fun _ _ => True) (St := fun (G, R) => ⟨[(4, (.own 1 152 1 ((u0 ++ [0]).length - b.length))), (6, (eE (mU b))), (7, (.own 0 152 1 ((u0 ++ [0]).length))), (8, (vl 152 1 jB v)), (9, (kE b.length)), (10, (kE j)), (12, (yY G))], [(0, some (bm jB u)), (1, some (bm jB q))]⟩) (I := fun (G, R) => G < 1000000000 ∧ val (u.drop j) / val v ≤ G ∧ G ≤ val (u.drop j) / val v + 1) ?_
      exact ⟨(G - 1, R + v.getD (b.length - 1) 0), wk, (by have hd := guess_dec hgl.2 hG0; have hgb := guess_break hd z1 hg2 (by omega); exact ⟨hgb, hgl.1, guess_near z6 z3 hd hv1p (by omega) hgb (Nat.le_trans (Nat.mul_le_mul (show G - 1 ≤ 999999999 by omega) (show v.getD (b.length - 2) 0 ≤ 999999999 by omega)) (by omega))⟩)⟩
     ·replace h5 := of_decide_eq_false h5
      refine jD ?_
      exact ⟨(G - 1, R + v.getD (b.length - 1) 0), wk, (by exact ⟨guess_dec hgl.2 hG0, hgl.1, by omega, by omega⟩), (by first | omega | (dsimp only; omega))⟩
    ·refine kK ?_
     refine pjoin_exit (id := 2) (α := Nat × Nat) (Q := fun _ _ => True) (St := fun (G, R) => ⟨[(4, (.own 1 152 1 ((u0 ++ [0]).length - b.length))), (6, (eE (mU b))), (7, (.own 0 152 1 ((u0 ++ [0]).length))), (8, (vl 152 1 jB v)), (9, (kE b.length)), (10, (kE j)), (12, (yY G))], [(0, some (bm jB u)), (1, some (bm jB q))]⟩) (I := fun (G, R) => G < 1000000000 ∧ val (u.drop j) / val v ≤ G ∧ G ≤ val (u.drop j) / val v + 1) ?_
     exact ⟨(G, R), wk, (by rw [Bool.or_eq_false_iff, decide_eq_false_iff_not, decide_eq_false_iff_not] at h4; exact ⟨by omega, hG1, guess_near z6 z3 hG0 hv1p (by omega) (by omega) (by omega)⟩)⟩
   ·rintro ⟨G, R⟩ ⟨hG, hG1, hG2⟩
    have hjn : j + b.length < (u0 ++ [0]).length := by omega
    refine jA <| kx [(14, (kE 0)), (15, (yY 0))] [] (zM <| zM <| zZ) ?_
    refine jA <| jA <| kx [(136, (kE b.length)), (137, (kE 0))] [] (zM <| zM <| zZ) ?_
    refine jE <| uZ (α := Nat × List Nat × Nat × Nat) (fun (i, u2, bo, ca) => ⟨[(4, (.own 1 152 1 ((u0 ++ [0]).length - b.length))), (6, (eE (mU b))), (7, (.own 0 152 1 ((u0 ++ [0]).length))), (8, (vl 152 1 jB v)), (9, (kE b.length)), (10, (kE j)), (12, (yY G)), (14, (vi ((bo : Nat) : Int))), (15, (yY ca)), (136, (kE b.length)), (137, (kE i))], [(0, some (bm jB u2)), (1, some (bm jB q))]⟩) (fun (i, u2, bo, ca) => u2.length = (u0 ++ [0]).length ∧ Dig u2 ∧ u2.take j = u.take j ∧ u2.drop (j + i) = u.drop (j + i) ∧ i ≤ b.length ∧ bo ≤ 1 ∧ ca < 1000000000 ∧ val ((u2.drop j).take i) + G * val (v.take i) = val ((u.drop j).take i) + pw i * (ca + bo)) (fun (i, u2, bo, ca) => b.length - i) (0, u, 0, 0) wk ⟨vR, hu, rfl, rfl, Nat.zero_le _, Nat.zero_le _, by decide, by simp [val]⟩ ?_
    rintro ⟨i, u2, bo, ca⟩ ⟨hl2, hd2, ht2, hd2', hin, hbo, hca, hv2⟩
    have hgi := hvd.getD i
    have hgu := hd2.getD (i + j)
    have hpq : G * v.getD i 0 ≤ 999999999 * 999999999 := Nat.mul_le_mul (by omega) (by omega)
    refine jA <| kx [(138, (vb (decide (((i : Nat) : Int) < ((b.length : Nat) : Int)))))] [] (zE qM <| zZ) ?_
    refine jA <| jS rfl (fun h6 => ?_) (fun h6 => ?_)
    ·replace h6 := of_decide_eq_true h6
     have hi : i < b.length := by omega
     refine jD <| jA <| jE <| jA <| kx [(16, (kE i))] [] (zM <| zM <| zZ) ?_
     refine jA <| kx [(17, (yY ((G * (v.getD i 0)) + ca)))] [] (zM <| zM <| zM <| zE (oXl kP i (0 : Nat)) <| zE (xT uN) <| zE (nS yV yO (v.getD i 0)) <| zE (oMl (G * (v.getD i 0))) <| zM <| zE (uI ((G * (v.getD i 0)) + ca)) <| zM <| zZ) ?_
     refine jA <| kx [(15, (yY (((G * (v.getD i 0)) + ca) / 1000000000)))] [] (zM <| zE (oQu (((G * (v.getD i 0)) + ca) / 1000000000)) <| zM <| zZ) ?_
     refine jA <| kx [(18, (vi (((((u2.getD (i + j) 0) : Nat) : Int) - ((bo : Nat) : Int)) - (((((G * (v.getD i 0)) + ca) % 1000000000) : Nat) : Int))))] [] (zM <| zM <| zM <| zE (uI (i + j)) <| zE (oXo kP (i + j)) <| zR (oLp uN (i + j) (0 : Nat)) <| zE (nS yV in2 (u2.getD (i + j) 0)) <| zM <| zE (dJ ((((u2.getD (i + j) 0) : Nat) : Int) - ((bo : Nat) : Int))) <| zM <| zE (oRe (((G * (v.getD i 0)) + ca) % 1000000000)) <| zE (nS gR in2 (((G * (v.getD i 0)) + ca) % 1000000000)) <| zE (dJ (((((u2.getD (i + j) 0) : Nat) : Int) - ((bo : Nat) : Int)) - (((((G * (v.getD i 0)) + ca) % 1000000000) : Nat) : Int))) <| zM <| zZ) ?_
     refine jA <| kx [(14, (kE 0))] [] (zM <| zZ) ?_
     refine jA <| jA <| kx [(165, (vb (decide ((((((u2.getD (i + j) 0) : Nat) : Int) - ((bo : Nat) : Int)) - (((((G * (v.getD i 0)) + ca) % 1000000000) : Nat) : Int)) < 0))))] [] (zM <| zE qM <| zZ) ?_
     refine jS rfl (fun h7 => ?_) (fun h7 => ?_)
     ·replace h7 := of_decide_eq_true h7
      refine kx [(14, (kE 1)), (18, (vi ((((((u2.getD (i + j) 0) : Nat) : Int) - ((bo : Nat) : Int)) - (((((G * (v.getD i 0)) + ca) % 1000000000) : Nat) : Int)) + 1000000000)))] [] (zM <| zE (zAd ((((((u2.getD (i + j) 0) : Nat) : Int) - ((bo : Nat) : Int)) - (((((G * (v.getD i 0)) + ca) % 1000000000) : Nat) : Int)) + 1000000000)) <| zM <| zM <| zZ) ?_
      refine kx [] [(0, some (bm jB (u2.set (i + j) ((u2.getD (i + j) 0 + 1000000000) - bo - (G * v.getD i 0 + ca) % 1000000000))))] (zM <| zM <| zM <| zE (uI (i + j)) <| zM <| zE (nS un2 gH ((u2.getD (i + j) 0 + 1000000000) - bo - (G * v.getD i 0 + ca) % 1000000000) (hr := by exact (wu32 (by omega) (by omega) (by omega)))) <| zE (oXo kP (i + j)) <| zT (oSp uN (i + j) ((u2.getD (i + j) 0 + 1000000000) - bo - (G * v.getD i 0 + ca) % 1000000000)) <| zZ) ?_
      refine kx [(137, (kE (i + 1)))] [] (zE (uI (i + 1)) <| zM <| zZ) ?_
      exact ⟨(i + 1, u2.set (i + j) ((u2.getD (i + j) 0 + 1000000000) - bo - (G * v.getD i 0 + ca) % 1000000000), 1, (G * v.getD i 0 + ca) / 1000000000), wk, (by obtain ⟨q1, q2, q3, q4, q5⟩ := msub_step (v := v) (L := (u0 ++ [0]).length) (e := (u2.getD (i + j) 0 + 1000000000) - bo - (G * v.getD i 0 + ca) % 1000000000) (borrow' := 1) hjn hi hl2 vR hd2 ht2 hd2' hv2 rfl (by omega) (by omega); exact ⟨q1, q2, q3, q4, by omega, by omega, by omega, q5⟩), (by first | omega | (dsimp only; omega))⟩
     ·replace h7 := of_decide_eq_false h7
      refine jD <| kx [] [(0, some (bm jB (u2.set (i + j) (u2.getD (i + j) 0 - bo - (G * v.getD i 0 + ca) % 1000000000))))] (zM <| zM <| zM <| zE (uI (i + j)) <| zM <| zE (nS un2 gH (u2.getD (i + j) 0 - bo - (G * v.getD i 0 + ca) % 1000000000) (hr := by exact (wu32 (by omega) (by omega) (by omega)))) <| zE (oXo kP (i + j)) <| zT (oSp uN (i + j) (u2.getD (i + j) 0 - bo - (G * v.getD i 0 + ca) % 1000000000)) <| zZ) ?_
      refine kx [(137, (kE (i + 1)))] [] (zE (uI (i + 1)) <| zM <| zZ) ?_
      exact ⟨(i + 1, u2.set (i + j) (u2.getD (i + j) 0 - bo - (G * v.getD i 0 + ca) % 1000000000), 0, (G * v.getD i 0 + ca) / 1000000000), wk, (by obtain ⟨q1, q2, q3, q4, q5⟩ := msub_step (v := v) (L := (u0 ++ [0]).length) (e := u2.getD (i + j) 0 - bo - (G * v.getD i 0 + ca) % 1000000000) (borrow' := 0) hjn hi hl2 vR hd2 ht2 hd2' hv2 rfl (by omega) (by omega); exact ⟨q1, q2, q3, q4, by omega, by omega, by omega, q5⟩), (by first | omega | (dsimp only; omega))⟩
    ·replace h6 := of_decide_eq_false h6
     have hie : i = b.length := by omega
     rw [hie] at hd2' hv2 hin
     obtain ⟨m1, m2, m3⟩ := msub_end hu hd2 hvd hvl hW hG1 hG2 hd2' hv2
     refine kK <| jA <| kx [(19, (vi (((((u2.getD (j + b.length) 0) : Nat) : Int) - ((bo : Nat) : Int)) - ((ca : Nat) : Int))))] [] (zM <| zM <| zM <| zE (uI (j + b.length)) <| zE (oXo kP (j + b.length)) <| zR (oLp uN (j + b.length) (0 : Nat)) <| zE (nS yV in2 (u2.getD (j + b.length) 0)) <| zM <| zE (dJ ((((u2.getD (j + b.length) 0) : Nat) : Int) - ((bo : Nat) : Int))) <| zM <| zE (nS gR in2 ca) <| zE (dJ (((((u2.getD (j + b.length) 0) : Nat) : Int) - ((bo : Nat) : Int)) - ((ca : Nat) : Int))) <| zM <| zZ) ?_
     refine jA <| jA <| kx [(189, (vb (decide ((((((u2.getD (j + b.length) 0) : Nat) : Int) - ((bo : Nat) : Int)) - ((ca : Nat) : Int)) < 0))))] [] (zM <| zE qM <| zZ) ?_
     refine jS rfl (fun h8 => ?_) (fun h8 => ?_)
     ·replace h8 := of_decide_eq_true h8
      obtain ⟨n1, n2, r, n3, n4, n5⟩ := m2 (by omega)
      refine jA <| kx [] [(0, some (bm jB (u2.set (j + b.length) 999999999)))] (zM <| zM <| zM <| zE (uI (j + b.length)) <| zM <| zE (zAd ((((((u2.getD (j + b.length) 0) : Nat) : Int) - ((bo : Nat) : Int)) - ((ca : Nat) : Int)) + 1000000000)) <| zE (nS un2 gH 999999999 (hr := by exact (wu32 (by omega) (by omega) (by omega)))) <| zE (oXo kP (j + b.length)) <| zT (oSp uN (j + b.length) 999999999) <| zZ) ?_
      refine jA <| kx [(12, (yY (G - 1)))] [] (zM <| zE (oSb (G - 1)) <| zM <| zZ) ?_
      refine jA <| kx [(20, (eE 0))] [] (zM <| zZ) ?_
      refine jA <| jA <| kx [(200, (kE b.length)), (201, (kE 0))] [] (zM <| zM <| zZ) ?_
      refine jE <| uZ (α := Nat × List Nat × Nat) (fun (i, u3, c) => ⟨[(4, (.own 1 152 1 ((u0 ++ [0]).length - b.length))), (6, (eE (mU b))), (7, (.own 0 152 1 ((u0 ++ [0]).length))), (8, (vl 152 1 jB v)), (9, (kE b.length)), (10, (kE j)), (12, (yY (G - 1))), (20, (eE c)), (200, (kE b.length)), (201, (kE i))], [(0, some (bm jB u3)), (1, some (bm jB q))]⟩) (fun (i, u3, c) => u3.length = (u0 ++ [0]).length ∧ Dig u3 ∧ u3.take j = (u2.set (j + b.length) 999999999).take j ∧ u3.drop (j + i) = (u2.set (j + b.length) 999999999).drop (j + i) ∧ i ≤ b.length ∧ c ≤ 1 ∧ val ((u3.drop j).take i) + pw i * c = val (((u2.set (j + b.length) 999999999).drop j).take i) + val (v.take i)) (fun (i, u3, c) => b.length - i) (0, u2.set (j + b.length) 999999999, 0) wk ⟨by simpa using hl2, hd2.set _ (by decide), rfl, rfl, Nat.zero_le _, Nat.zero_le _, by simp [val]⟩ ?_
      rintro ⟨i, u3, c⟩ ⟨hl3, hd3, ht3, hd3', hin, hc, hv3⟩
      have hgi := hvd.getD i
      have hgu := hd3.getD (i + j)
      have hgt := hd3.getD (j + b.length)
      refine jA <| kx [(202, (vb (decide (((i : Nat) : Int) < ((b.length : Nat) : Int)))))] [] (zE qM <| zZ) ?_
      refine jA <| jS rfl (fun h9 => ?_) (fun h9 => ?_)
      ·replace h9 := of_decide_eq_true h9
       have hi : i < b.length := by omega
       refine jD <| jA <| jE <| jA <| kx [(21, (kE i))] [] (zM <| zM <| zZ) ?_
       refine jA <| kd [(22, (eE (((u3.getD (i + j) 0) + (v.getD i 0)) + c)))] [] mo (wM <| wM <| wM <| wE (uI (i + j)) <| wE (oXo kP (i + j)) <| wR (oLp uN (i + j) (0 : Nat)) <| wM <| wM <| wE (oXl kP i (0 : Nat)) <| wE (xT uN) <| wE (uI ((u3.getD (i + j) 0) + (v.getD i 0))) <| wM <| wE (uI (((u3.getD (i + j) 0) + (v.getD i 0)) + c)) <| wM <| wZ) ?_
       refine jA <| kx [(20, (eE 0))] [] (zM <| zZ) ?_
       refine jA <| jA <| kx [(218, (vb (decide (1000000000 ≤ (((((u3.getD (i + j) 0) + (v.getD i 0)) + c) : Nat) : Int)))))] [] (zM <| zE oGe <| zZ) ?_
       refine jS rfl (fun h10 => ?_) (fun h10 => ?_)
       ·replace h10 := of_decide_eq_true h10
        refine kx [(20, (eE 1)), (22, (eE ((((u3.getD (i + j) 0) + (v.getD i 0)) + c) - 1000000000)))] [] (zM <| zE (oSb ((((u3.getD (i + j) 0) + (v.getD i 0)) + c) - 1000000000)) <| zM <| zM <| zZ) ?_
        refine kx [] [(0, some (bm jB (u3.set (i + j) ((((u3.getD (i + j) 0) + (v.getD i 0)) + c) - 1000000000))))] (zM <| zM <| zM <| zE (uI (i + j)) <| zM <| zE (oXo kP (i + j)) <| zT (oSp uN (i + j) ((((u3.getD (i + j) 0) + (v.getD i 0)) + c) - 1000000000)) <| zZ) ?_
        refine kx [(201, (kE (i + 1)))] [] (zE (uI (i + 1)) <| zM <| zZ) ?_
        exact ⟨(i + 1, u3.set (i + j) (u3.getD (i + j) 0 + v.getD i 0 + c - 1000000000), 1), wk, (by obtain ⟨q1, q2, q3, q4, q5⟩ := addb_step (v := v) (L := (u0 ++ [0]).length) (s := u3.getD (i + j) 0 + v.getD i 0 + c) (e := u3.getD (i + j) 0 + v.getD i 0 + c - 1000000000) (c' := 1) hjn hi hl3 (by simpa using hl2) hd3 ht3 hd3' hv3 rfl (by omega) (by omega); exact ⟨q1, q2, q3, q4, by omega, by omega, q5⟩), (by first | omega | (dsimp only; omega))⟩
       ·replace h10 := of_decide_eq_false h10
        refine jD <| kx [] [(0, some (bm jB (u3.set (i + j) (((u3.getD (i + j) 0) + (v.getD i 0)) + c))))] (zM <| zM <| zM <| zE (uI (i + j)) <| zM <| zE (oXo kP (i + j)) <| zT (oSp uN (i + j) (((u3.getD (i + j) 0) + (v.getD i 0)) + c)) <| zZ) ?_
        refine kx [(201, (kE (i + 1)))] [] (zE (uI (i + 1)) <| zM <| zZ) ?_
        exact ⟨(i + 1, u3.set (i + j) (u3.getD (i + j) 0 + v.getD i 0 + c), 0), wk, (by obtain ⟨q1, q2, q3, q4, q5⟩ := addb_step (v := v) (L := (u0 ++ [0]).length) (s := u3.getD (i + j) 0 + v.getD i 0 + c) (e := u3.getD (i + j) 0 + v.getD i 0 + c) (c' := 0) hjn hi hl3 (by simpa using hl2) hd3 ht3 hd3' hv3 rfl (by omega) (by omega); exact ⟨q1, q2, q3, q4, by omega, by omega, q5⟩), (by first | omega | (dsimp only; omega))⟩
      ·replace h9 := of_decide_eq_false h9
       have hie2 : i = b.length := by omega
       rw [hie2] at hd3' hv3 hin
       refine kK <| kx [] [(0, some (bm jB (u3.set (j + b.length) (((u3.getD (j + b.length) 0) + c) % 1000000000))))] (zM <| zM <| zM <| zE (uI (j + b.length)) <| zM <| zM <| zM <| zE (uI (j + b.length)) <| zE (oXo kP (j + b.length)) <| zR (oLp uN (j + b.length) (0 : Nat)) <| zM <| zE (uI ((u3.getD (j + b.length) 0) + c)) <| zE (oRe (((u3.getD (j + b.length) 0) + c) % 1000000000)) <| zE (oXo kP (j + b.length)) <| zT (oSp uN (j + b.length) (((u3.getD (j + b.length) 0) + c) % 1000000000)) <| zZ) ?_
       refine kx [] [(1, some (bm jB (q.set j (G - 1))))] (zM <| zM <| zM <| zE (nS gR gH (G - 1)) <| zE (oXo kP j) <| zT (oSp uN j (G - 1)) <| zZ) ?_
       refine kx [(10, (vi (((j : Nat) : Int) - 1)))] [] (zM <| zE (dJ (((j : Nat) : Int) - 1)) <| zM <| zZ) ?_
       exact ⟨(j, u3.set (j + b.length) ((u3.getD (j + b.length) 0 + c) % 1000000000), q.set j (G - 1)), wk, (by obtain ⟨p1, p2⟩ := neg_end hd3 hvd hvl (by omega) (by omega) (hl2.trans vR.symm) (hl3.trans vR.symm) ht2 hd2' hW hc ht3 hd3' hv3 n3 n4 n5 hU; exact ⟨by simpa using hl3, hd3.set _ (Nat.mod_lt _ (by decide)), by simpa using hql, hqd.set _ (by omega), by omega, p1, p2⟩), (by first | omega | (dsimp only; omega))⟩
     ·replace h8 := of_decide_eq_false h8
      obtain ⟨n1, n2, n3⟩ := m3 (by omega)
      refine kx [] [(0, some (bm jB (u2.set (j + b.length) 0)))] (zM <| zM <| zM <| zE (uI (j + b.length)) <| zM <| zE (nS un2 gH 0 (hr := by exact (wu32 (by omega) (by omega) (by omega)))) <| zE (oXo kP (j + b.length)) <| zT (oSp uN (j + b.length) 0) <| zZ) ?_
      refine kx [] [(1, some (bm jB (q.set j G)))] (zM <| zM <| zM <| zE (nS gR gH G) <| zE (oXo kP j) <| zT (oSp uN j G) <| zZ) ?_
      refine kx [(10, (vi (((j : Nat) : Int) - 1)))] [] (zM <| zE (dJ (((j : Nat) : Int) - 1)) <| zM <| zZ) ?_
      exact ⟨(j, u2.set (j + b.length) 0, q.set j G), wk, (by obtain ⟨p1, p2⟩ := pos_end hu hvd hvl (by omega) (by omega) (hl2.trans vR.symm) ht2 hd2' hW n2 n3 hU; exact ⟨by simpa using hl2, hd2.set _ (by decide), by simpa using hql, hqd.set _ (by omega), by omega, p1, p2⟩), (by first | omega | (dsimp only; omega))⟩
  ·replace h2 := of_decide_eq_false h2
   obtain rfl : k = 0 := by omega
   obtain ⟨e1, e2⟩ := scl_div hdb (by omega) (by rw [hvv] at hU; exact hU) (by rw [hvv] at hW; exact hW)
   rw [List.drop_zero] at hW
   refine kK <| jA <| kV (xX (t := 7) (k := 0) (es := List.map jB u) rfl rfl (xL _ _ (fun _ => rfl)) (xQ _ _ vR) (zP _ _ (fun _ => rfl) vR)) ?_
   refine kx [(5, (vl 152 1 jB (ofNat (val (ofNat (val (List.take b.length u))) / (mU b)))))] [] (zM <| zM <| zE (e_slc (l := 0) (h := b.length) (kl := .i64) (kh := .i64) (es' := List.map jB (List.take b.length u)) (by exact rfl) kP (by exact rfl) (by exact rfl) (by exact rfl) (Nat.zero_le _) (by simp only [List.length_map]; omega) (by rw [List.drop_zero, List.map_take])) <| zE (jX (t_trim (List.take b.length u) (hu.take _) (by rw [List.length_take]; omega))) <| zM <| zE (jX (t_short (ofNat (val (List.take b.length u))) (mU b) (kM _) (by omega) (by omega) (Nat.le_trans (ofNat_val_len (hu.take _)) (by rw [List.length_take]; omega)))) <| zM <| zE uG <| zE uG <| zM <| zZ) ?_
   refine jA <| kV (xX (t := 4) (k := 1) (es := List.map jB q) rfl rfl (xL _ _ (fun _ => rfl)) (xQ _ _ hql) (zP _ _ (fun _ => rfl) hql)) ?_
   refine kx [(4, (vl 152 1 jB (ofNat (val q)))), (5, (vl 152 1 jB (ofNat (val (ofNat (val (List.take b.length u))) / (mU b)))))] [] (zM <| zE (jX (t_trim q hqd (by omega))) <| zM <| zM <| zM <| zZ) ?_
   refine jH ⟨_, (.tmp (d := (.sl 152 1 (List.map jB (ofNat (val q))))) rfl (.tmp (d := (.sl 152 1 (List.map jB (ofNat (val (ofNat (val (List.take b.length u))) / (mU b)))))) rfl .nil)), ?_⟩
   rw [← e1, ← e2, kL, val_take_of_lt (Nat.lt_trans hW (by rw [← hvl]; exact xH hvd))]; rfl
end Go.Proofs.YtbecgnplakngdaaGreat
namespace Go.Proofs.YtbecgnplakngdaaGreat
open Go.Fid
set_option maxRecDepth 4000
set_option linter.unusedVariables false
set_option linter.unusedSimpArgs false
theorem cb145 : callB Tryz.prog 145 = true := by kernel_rfl
theorem cb151 : callB Tryz.prog 151 = true := by kernel_rfl
theorem cb186 : callB Tryz.prog 186 = true := by kernel_rfl
theorem t_over (a b : List Nat) (ha : gB a) (hb : gB b) (hb0 : 0 < val b) (hla : a.length ≤ 1099511627776) (hlb : b.length ≤ 1099511627776) : kD Tryz.prog 186 [(.sl 152 1 (List.map jB a)), (.sl 152 1 (List.map jB b))] (.tup [(.sl 152 1 (List.map jB (ofNat (val a / val b)))), (.sl 152 1 (List.map jB (ofNat (val a % val b))))]) := by
 refine jK Tryz.func186 rfl cb186 rfl ?_
 show uY _ _ _ _ ⟨[(0, (vl 152 1 jB a)), (1, (vl 152 1 jB b))], []⟩
 refine jA <| kx [] [] (zE (oNl 152 1) <| zE (oNl 152 1) <| zZ) ?_
 refine jA <| jA <| kx [(15, (vb (decide ((xB ((val a : Nat) : Int) ((val b : Nat) : Int)) < 0))))] [] (zM <| zM <| zE (jX (t_compare a b ha hb (by omega))) <| zE qM <| zZ) ?_
 refine jS rfl (fun h1 => ?_) (fun h1 => ?_)
 ·replace h1 := of_decide_eq_true h1
  refine jA <| kx [(4, (vl 152 1 jB [])), (5, (vl 152 1 jB a))] [] (zM <| zE (oNl 152 1) <| zM <| zZ) ?_
  refine jH ⟨_, (.tmp (d := (.sl 152 1 (List.map jB []))) rfl (.tmp (d := (.sl 152 1 (List.map jB a))) rfl .nil)), ?_⟩
  have hlt := cmpI_neg h1
  rw [Nat.div_eq_of_lt hlt, Nat.mod_eq_of_lt hlt, vT, ← can_eq ha]; rfl
 ·replace h1 := of_decide_eq_false h1
  refine jD <| jA <| kx [(6, (yY (yP a))), (7, (vb (nJ a)))] [] (zM <| zE (jX (t_word a ha.1)) <| zM <| zE uG <| zE uG <| zM <| zM <| zZ) ?_
  refine jA <| kx [(8, (yY (yP b))), (9, (vb (nJ b)))] [] (zM <| zE (jX (t_word b hb.1)) <| zM <| zE uG <| zE uG <| zM <| zM <| zZ) ?_
  refine jA <| jA <| kx [(30, (vb ((nJ a) && (nJ b))))] [] ?_ ?_
  ·refine zM <| zE (oV (vb (nJ a)) (vX (by kernel_rfl))) <| ?_
   rcases hb2 : (nJ a) with _ | _
   ·exact zK <| zE mV <| zZ
   ·exact zM <| zE oPa <| zZ
  refine jS (b := ((nJ a) && (nJ b))) rfl (fun h3 => ?_) (fun h3 => ?_)
  ·obtain ⟨w1, w2, w3⟩ := word_both ha.1 h3
   have w4 : yP a / yP b < 18446744073709551616 := Nat.lt_of_le_of_lt (Nat.div_le_self _ _) (by omega)
   have w5 : yP a % yP b < 18446744073709551616 := Nat.lt_of_le_of_lt (Nat.mod_le _ _) (by omega)
   refine jA <| kd [(4, (vl 152 1 jB (ofNat ((yP a) / (yP b))))), (5, (vl 152 1 jB (ofNat ((yP a) % (yP b)))))] [] mo (wM <| wM <| wE (oQu ((yP a) / (yP b))) <| wE (jX (t_split ((yP a) / (yP b)) (by omega))) <| wM <| wM <| wE (oRe ((yP a) % (yP b))) <| wE (jX (t_split ((yP a) % (yP b)) (by omega))) <| wM <| wM <| wZ) ?_
   refine jH ⟨_, (.tmp (d := (.sl 152 1 (List.map jB (ofNat ((yP a) / (yP b)))))) rfl (.tmp (d := (.sl 152 1 (List.map jB (ofNat ((yP a) % (yP b)))))) rfl .nil)), ?_⟩
   rw [w1, w2]; rfl
  ·refine jD <| jA <| jA <| kx [(41, (vb (((b.length : Nat) : Int) == 1)))] [] (zM <| zE (nX kP) <| zE oEq <| zZ) ?_
   refine jS (b := (((b.length : Nat) : Int) == 1)) rfl (fun h4 => ?_) (fun h4 => ?_)
   ·replace h4 := eq_of_beq h4
    have hv1 := val_len1 (b := b) (by omega)
    have hg := hb.1.getD 0
    have w5 : val a % b.getD 0 0 < 4294967296 := Nat.lt_trans (Nat.mod_lt _ (by omega)) (by omega)
    refine jA <| kx [(10, (vl 152 1 jB (ofNat (val a / (b.getD 0 0))))), (11, (eE (val a % (b.getD 0 0))))] [] (zM <| zM <| zE (oXl kP 0 (0 : Nat)) <| zE (xT uN) <| zE (jX (t_short a (b.getD 0 0) ha.1 (by omega) (by omega) (by omega))) <| zM <| zE uG <| zE uG <| zM <| zM <| zZ) ?_
    refine jA <| kx [(4, (vl 152 1 jB (ofNat (val a / (b.getD 0 0))))), (5, (vl 152 1 jB (ofNat (val a % (b.getD 0 0)))))] [] (zM <| zM <| zE (nS yV yO (val a % (b.getD 0 0))) <| zE (jX (t_split (val a % (b.getD 0 0)) (by omega))) <| zM <| zM <| zZ) ?_
    refine jH ⟨_, (.tmp (d := (.sl 152 1 (List.map jB (ofNat (val a / (b.getD 0 0)))))) rfl (.tmp (d := (.sl 152 1 (List.map jB (ofNat (val a % (b.getD 0 0)))))) rfl .nil)), ?_⟩
    rw [hv1]; rfl
   ·replace h4 := ne_of_beq_false h4
    have hbl := val_pos_len hb0
    refine jD <| jA <| kx [(4, (vl 152 1 jB (ofNat (val a / val b)))), (5, (vl 152 1 jB (ofNat (val a % val b))))] [] (zM <| zM <| zE (jX (t_long a b ha hb (by omega) (cmpI_nn h1) (by omega))) <| zE uG <| zE uG <| zM <| zM <| zZ) ?_
    refine jH ⟨_, (.tmp (d := (.sl 152 1 (List.map jB (ofNat (val a / val b))))) rfl (.tmp (d := (.sl 152 1 (List.map jB (ofNat (val a % val b))))) rfl .nil)), ?_⟩
    rfl
theorem t_divideI (x y : jG) (hx : x.gs.length ≤ 1099511627776) (hy : y.gs.length ≤ 1099511627776) (hy0 : kA y ≠ 0) : kD Tryz.prog 151 [(jU x), (jU y)] (.tup [(jU (kN ((kA x).fdiv (kA y)))), (jU (kN ((kA x).fmod (kA y)))), (.val (.int .i64 (0)))]) := by
 have hgx := qR x
 have hlx := gA x
 have hgy := qR y
 have hly := gA y
 have hn : 0 < val (kS y) := by have := aO y; omega
 have hq := len_quo (kS x) hgx (val (kS y))
 have hr := len_rem (kS x) hgx (val (kS y))
 have hrn := Nat.mod_lt (val (kS x)) hn
 refine jK Tryz.func151 rfl cb151 rfl ?_
 show uY _ _ _ _ ⟨[(0, (.d (jU x))), (1, (.d (jU y)))], []⟩
 refine jA <| kx [(2, (.ref 0 0)), (3, (.ref 1 0)), (4, (.ref 2 0)), (5, (.ref 3 0))] [(0, some (bx (jU x))), (1, some (bx (jU y))), (2, some (bx (jU (jG.mk false [])))), (3, some (bx (jU (jG.mk false []))))] (zN (vN 0) <| zN (vN 1) <| zN (qP 2 gL gM) <| zN (qP 3 gL gM) <| zM <| zZ) ?_
 refine jA <| kd [(7, (vl 152 1 jB (kS x))), (8, (vl 152 1 jB (kS y)))] [] mo (wR (jZ kF) <| wE (jX (gX x (by omega))) <| wR (jZ kF) <| wE (jX (gX y (by omega))) <| wM <| wM <| wZ) ?_
 refine jA <| jA <| kx [(17, (vb ((((kS y).length : Nat) : Int) == 0)))] [] (zM <| zE (nX kP (L := (kS y))) <| zE oEq <| zZ) ?_
 refine jS (b := ((((kS y).length : Nat) : Int) == 0)) rfl (fun h1 => ?_) (fun h1 => ?_)
 ·replace h1 := eq_of_beq h1
  exact absurd (toZ_nil h1) hy0
 ·replace h1 := ne_of_beq_false h1
  refine jD <| jA <| kx [(9, (vl 152 1 jB (ofNat (val (kS x) / val (kS y))))), (10, (vl 152 1 jB (ofNat (val (kS x) % val (kS y)))))] [] (zM <| zM <| zE (jX (t_over (kS x) (kS y) hgx hgy (by omega) (by omega) (by omega))) <| zM <| zE uG <| zE uG <| zM <| zM <| zZ) ?_
  refine jA <| kx [(10, (vl 152 1 jB (ofNat (val (kS x) % val (kS y)))))] [] (zM <| zE (jX (t_clone (ofNat (val (kS x) % val (kS y))) (by omega))) <| zM <| zZ) ?_
  refine jA <| jA <| kx [(37, (vb (decide (0 < (((ofNat (val (kS x) % val (kS y))).length : Nat) : Int)) && !(x.neg == y.neg))))] [] ?_ ?_
  ·refine zM <| zE (nX kP (L := (ofNat (val (kS x) % val (kS y))))) <| zE hM <| zE (oV (vb (decide (0 < (((ofNat (val (kS x) % val (kS y))).length : Nat) : Int)))) (vX (by kernel_rfl))) <| ?_
   rcases hb2 : (decide (0 < (((ofNat (val (kS x) % val (kS y))).length : Nat) : Int))) with _ | _
   ·replace hb2 := of_decide_eq_false hb2
    exact zK <| zK <| zK <| zK <| zK <| zE mV <| zZ
   ·replace hb2 := of_decide_eq_true hb2
    exact zE (kO xM) <| zR (uM sh4) <| zE (kO xM) <| zR (uM sh4) <| zE (oNb bo4) <| zE oPa <| zZ
  refine jS rfl (fun h3 => ?_) (fun h3 => ?_)
  ·have e1 : (ofNat (val (ofNat (val (kS x) / val (kS y))) + val [1])).length ≤ 1099511627777 := vC (by rw [kL, mR]; have := ofNat_lt_pw (val (kS x) / val (kS y)); have h3 : pw (ofNat (val (kS x) / val (kS y))).length ≤ pw 1099511627776 := gW (by omega); have h4 := pw_lt (show 1099511627776 < 1099511627777 by decide); omega)
   have e2 := sub_len (b := ofNat (val (kS x) % val (kS y))) hgy.1
   rw [Bool.and_eq_true, decide_eq_true_eq, Bool.not_eq_true', beq_eq_false_iff_ne] at h3
   obtain ⟨k1, k2⟩ := h3
   have k3 : 0 < val (kS x) % val (kS y) := by have := mD (qO (val (kS x) % val (kS y))) (by omega); rwa [kL] at this
   obtain ⟨d1, d2⟩ := div_other hn k2 k3
   refine kx [(9, (vl 152 1 jB (ofNat (val (ofNat (val (kS x) / val (kS y))) + val [1])))), (10, (vl 152 1 jB (ofNat (val (kS y) - val (ofNat (val (kS x) % val (kS y)))))))] [] (zM <| zE (nM kP xE yS) <| zE (jX (t_plus (ofNat (val (kS x) / val (kS y))) [1] (kM _) (yT.2 ⟨by decide, gJ⟩) (by omega) (by decide))) <| zM <| zM <| zE (jX (t_minus (kS y) (ofNat (val (kS x) % val (kS y))) hgy.1 (kM _) (by rw [kL]; omega) (by omega))) <| zM <| zM <| zZ) ?_
   refine jA <| kd [(6, (kE 0))] [(2, some (bx (jU (xS (!(x.neg == y.neg)) (val (ofNat (val (ofNat (val (kS x) / val (kS y))) + val [1]))))))), (3, some (bx (jU (xS y.neg (val (ofNat (val (kS y) - val (ofNat (val (kS x) % val (kS y))))))))))] mo (wE (kO xM) <| wR (uM sh4) <| wE (kO xM) <| wR (uM sh4) <| wE (oNb bo4) <| wM <| wE (jX (cH (!(x.neg == y.neg)) (ofNat (val (ofNat (val (kS x) / val (kS y))) + val [1])) (kM _) (by omega))) <| wE (kO xM) <| wR (uM sh4) <| wM <| wE (jX (cH y.neg (ofNat (val (kS y) - val (ofNat (val (kS x) % val (kS y))))) (kM _) (by omega))) <| wT (kU kF) <| wT (kU kF) <| wM <| wZ) ?_
   refine jH ⟨_, (kZ (cs := (bx (jU (xS (!(x.neg == y.neg)) (val (ofNat (val (ofNat (val (kS x) / val (kS y))) + val [1]))))))) (d := (jU (xS (!(x.neg == y.neg)) (val (ofNat (val (ofNat (val (kS x) / val (kS y))) + val [1])))))) rfl rfl kF rfl rfl (kZ (cs := (bx (jU (xS y.neg (val (ofNat (val (kS y) - val (ofNat (val (kS x) % val (kS y)))))))))) (d := (jU (xS y.neg (val (ofNat (val (kS y) - val (ofNat (val (kS x) % val (kS y))))))))) rfl rfl kF rfl rfl (.tmp (d := (.val (.int .i64 (0)))) rfl .nil))), ?_⟩
   unfold kA
   rw [d1, d2]
   simp only [kL, mR]
   rfl
  ·obtain ⟨d1, d2⟩ := div_same (b := x.neg) (c := y.neg) (m := val (kS x)) hn (by rw [Bool.and_eq_false_iff, decide_eq_false_iff_not, Bool.not_eq_false', beq_iff_eq] at h3; rcases h3 with k | k; right; have := cO (n := val (kS x) % val (kS y)); omega; exact .inl k)
   refine jD <| jA <| kd [(6, (kE 0))] [(2, some (bx (jU (xS (!(x.neg == y.neg)) (val (ofNat (val (kS x) / val (kS y)))))))), (3, some (bx (jU (xS y.neg (val (ofNat (val (kS x) % val (kS y))))))))] mo (wE (kO xM) <| wR (uM sh4) <| wE (kO xM) <| wR (uM sh4) <| wE (oNb bo4) <| wM <| wE (jX (cH (!(x.neg == y.neg)) (ofNat (val (kS x) / val (kS y))) (kM _) (by omega))) <| wE (kO xM) <| wR (uM sh4) <| wM <| wE (jX (cH y.neg (ofNat (val (kS x) % val (kS y))) (kM _) (by omega))) <| wT (kU kF) <| wT (kU kF) <| wM <| wZ) ?_
   refine jH ⟨_, (kZ (cs := (bx (jU (xS (!(x.neg == y.neg)) (val (ofNat (val (kS x) / val (kS y)))))))) (d := (jU (xS (!(x.neg == y.neg)) (val (ofNat (val (kS x) / val (kS y))))))) rfl rfl kF rfl rfl (kZ (cs := (bx (jU (xS y.neg (val (ofNat (val (kS x) % val (kS y)))))))) (d := (jU (xS y.neg (val (ofNat (val (kS x) % val (kS y))))))) rfl rfl kF rfl rfl (.tmp (d := (.val (.int .i64 (0)))) rfl .nil))), ?_⟩
   unfold kA
   rw [d1, d2]
   simp only [kL]
   rfl
theorem t_gcdI (x y : jG) (hx : x.gs.length ≤ 1099511627776) (hy : y.gs.length ≤ 1099511627776) : kD Tryz.prog 145 [(jU x), (jU y)] (jU (kN ((Int.gcd (kA x) (kA y) : Nat) : Int))) := by
 have hgx := qR x
 have hlx := gA x
 have hgy := qR y
 have hly := gA y
 refine jK Tryz.func145 rfl cb145 rfl ?_
 show uY _ _ _ _ ⟨[(0, (.d (jU x))), (1, (.d (jU y)))], []⟩
 refine jA <| kx [(2, (.ref 0 0)), (3, (.ref 1 0)), (4, (.ref 2 0))] [(0, some (bx (jU x))), (1, some (bx (jU y))), (2, some (bx (jU (jG.mk false []))))] (zN (vN 0) <| zN (vN 1) <| zN (qP 2 gL gM) <| zZ) ?_
 refine jA <| kd [(5, (vl 152 1 jB (kS x))), (6, (vl 152 1 jB (kS y)))] [] mo (wR (jZ kF) <| wE (jX (gX x (by omega))) <| wR (jZ kF) <| wE (jX (gX y (by omega))) <| wM <| wM <| wZ) ?_
 refine jA <| jE <| uZ (α := List Nat × List Nat) (fun (a, b) => ⟨[(4, (.ref 2 0)), (5, (vl 152 1 jB a)), (6, (vl 152 1 jB b))], [(2, some (bx (jU (jG.mk false []))))]⟩) (fun (a, b) => gB a ∧ gB b ∧ a.length ≤ 1099511627776 ∧ b.length ≤ 1099511627776 ∧ Nat.gcd (val a) (val b) = Int.gcd (kA x) (kA y)) (fun (a, b) => val b) (kS x, kS y) wk ⟨hgx, hgy, by omega, by omega, gcd_toZ x y⟩ ?_
 rintro ⟨a, b⟩ ⟨ha, hb, hla, hlb, hg⟩
 refine jA <| jA <| kx [(19, (vb (decide (0 < ((b.length : Nat) : Int)))))] [] (zM <| zE (nX kP) <| zE hM <| zZ) ?_
 refine jS (b := decide (0 < ((b.length : Nat) : Int))) rfl (fun h1 => ?_) (fun h1 => ?_)
 ·replace h1 := of_decide_eq_true h1
  have hb0 := mD hb (by omega)
  refine jD <| jE <| jA <| kx [(7, (yY (yP a))), (8, (vb (nJ a)))] [] (zM <| zE (jX (t_word a ha.1)) <| zM <| zE uG <| zE uG <| zM <| zM <| zZ) ?_
  refine jA <| kx [(9, (yY (yP b))), (10, (vb (nJ b)))] [] (zM <| zE (jX (t_word b hb.1)) <| zM <| zE uG <| zE uG <| zM <| zM <| zZ) ?_
  refine jA <| jA <| kx [(33, (vb ((nJ a) && (nJ b))))] [] ?_ ?_
  ·refine zM <| zE (oV (vb (nJ a)) (vX (by kernel_rfl))) <| ?_
   rcases hb2 : (nJ a) with _ | _
   ·exact zK <| zE mV <| zZ
   ·exact zM <| zE oPa <| zZ
  refine jS (b := ((nJ a) && (nJ b))) rfl (fun h3 => ?_) (fun h3 => ?_)
  ·obtain ⟨w1, w2, w3⟩ := word_both ha.1 h3
   have w4 : val b < 1000000000000000000 := by rw [Bool.and_eq_true] at h3; exact val_len2 hb.1 (of_decide_eq_true h3.2)
   refine jA <| jE <| uZ (α := Nat × Nat) (fun (m, n) => ⟨[(4, (.ref 2 0)), (7, (yY m)), (9, (yY n))], [(2, some (bx (jU (jG.mk false []))))]⟩) (fun (m, n) => m < 1000000000000000000 ∧ n < 1000000000000000000 ∧ Nat.gcd m n = Int.gcd (kA x) (kA y)) (fun (m, n) => n) (yP a, yP b) wk ⟨by omega, by omega, by rw [w1, w2]; exact hg⟩ ?_
   rintro ⟨m, n⟩ ⟨hm, hn, hg2⟩
   refine jA <| jA <| kx [(35, (vb (decide (0 < ((n : Nat) : Int)))))] [] (zM <| zE hM <| zZ) ?_
   refine jS (b := decide (0 < ((n : Nat) : Int))) rfl (fun h4 => ?_) (fun h4 => ?_)
   ·replace h4 := of_decide_eq_true h4
    refine jD <| jE <| kd [(7, (yY n)), (9, (yY (m % n)))] [] mo (wM <| wM <| wM <| wE (oRe (m % n)) <| wM <| wM <| wZ) ?_
    exact ⟨(n, m % n), wk, ⟨hn, Nat.lt_of_le_of_lt (Nat.mod_le _ _) hm, by rw [← hg2, Nat.gcd_comm, ← Nat.gcd_rec, Nat.gcd_comm]⟩, (by dsimp only; exact Nat.mod_lt _ (by omega))⟩
   ·replace h4 := of_decide_eq_false h4
    obtain rfl : n = 0 := by omega
    rw [Nat.gcd_zero_right] at hg2
    refine kK <| jA <| kx [] [(2, some (bx (jU (xS false (val (ofNat m))))))] (zM <| zE (jX (t_split m (by omega))) <| zE (jX (cH false (ofNat m) (kM _) (Nat.le_trans (dV (by omega)) (by decide)))) <| zT (kU kF) <| zZ) ?_
    refine jH ⟨_, (kZ (cs := (bx (jU (xS false (val (ofNat m)))))) (d := (jU (xS false (val (ofNat m))))) rfl rfl kF rfl rfl .nil), ?_⟩
    rw [← hg2, kL, mkI_false]; rfl
  ·refine jD <| jA <| kx [(12, (vl 152 1 jB (ofNat (val a % val b))))] [] (zM <| zM <| zE (jX (t_over a b ha hb hb0 (by omega) (by omega))) <| zM <| zE uG <| zE uG <| zM <| zM <| zZ) ?_
   refine kx [(5, (vl 152 1 jB b)), (6, (vl 152 1 jB (ofNat (val a % val b))))] [] (zM <| zM <| zM <| zM <| zZ) ?_
   exact ⟨(b, ofNat (val a % val b)), wk, ⟨hb, qO _, hlb, Nat.le_trans (len_rem a ha _) hla, by rw [kL, ← hg, Nat.gcd_comm, ← Nat.gcd_rec, Nat.gcd_comm]⟩, (by dsimp only; rw [kL]; exact Nat.mod_lt _ hb0)⟩
 ·replace h1 := of_decide_eq_false h1
  have hb1 : b = [] := List.eq_nil_of_length_eq_zero (by omega)
  rw [hb1, val_nil, Nat.gcd_zero_right] at hg
  refine kK <| jA <| kx [] [(2, some (bx (jU (xS false (val a)))))] (zM <| zE (jX (t_clone a (by omega))) <| zE (jX (cH false a ha.1 (by omega))) <| zT (kU kF) <| zZ) ?_
  refine jH ⟨_, (kZ (cs := (bx (jU (xS false (val a))))) (d := (jU (xS false (val a)))) rfl rfl kF rfl rfl .nil), ?_⟩
  rw [← hg, mkI_false]; rfl
end Go.Proofs.YtbecgnplakngdaaGreat
namespace Go.Proofs.YtbecgnplakngdaaGreat
open Go.Fid
set_option maxRecDepth 4000
set_option linter.unusedVariables false
set_option linter.unusedSimpArgs false
theorem cb25 : callB Tryz.prog 25 = true := by kernel_rfl
theorem cb27 : callB Tryz.prog 27 = true := by kernel_rfl
theorem cb94 : callB Tryz.prog 94 = true := by kernel_rfl
theorem cb133 : callB Tryz.prog 133 = true := by kernel_rfl
theorem cb173 : callB Tryz.prog 173 = true := by kernel_rfl
theorem cb174 : callB Tryz.prog 174 = true := by kernel_rfl
theorem cb175 : callB Tryz.prog 175 = true := by kernel_rfl
theorem cb190 : callB Tryz.prog 190 = true := by kernel_rfl
theorem cb191 : callB Tryz.prog 191 = true := by kernel_rfl
theorem cb192 : callB Tryz.prog 192 = true := by kernel_rfl
theorem eV : aN Tryz.prog 40 1 = some (1, 38) := by kernel_rfl
theorem eQ (l : List Nat) (i : Nat) (hd : Dig l) : kD Tryz.prog 192 [(.sl 152 1 (List.map jB l)), (.val (.int .i64 (((i : Nat) : Int))))] (.val (.int .u64 ((((l.getD i 0) : Nat) : Int)))) := by
 have hg := hd.getD i
 refine jK Tryz.func192 rfl cb192 rfl ?_
 show uY _ _ _ _ ⟨[(0, (vl 152 1 jB l)), (1, (kE i))], []⟩
 refine jA <| kx [] [] (zM <| zZ) ?_
 refine jA <| jA <| kx [(8, (vb (decide (((i : Nat) : Int) < ((l.length : Nat) : Int)))))] [] (zM <| zM <| zE (nX kP) <| zE qM <| zZ) ?_
 refine jS rfl (fun h1 => ?_) (fun h1 => ?_)
 ·replace h1 := of_decide_eq_true h1
  refine jA <| kx [(4, (yY (l.getD i 0)))] [] (zM <| zM <| zE (oXl kP i (0 : Nat)) <| zE (xT uN) <| zE (nS yV yO (l.getD i 0)) <| zM <| zZ) ?_
  refine jH ⟨_, (.tmp (d := (.val (.int .u64 ((((l.getD i 0) : Nat) : Int))))) rfl .nil), ?_⟩
  rfl
 ·replace h1 := of_decide_eq_false h1
  refine jD <| jA <| kx [(4, (yY 0))] [] (zM <| zZ) ?_
  refine jH ⟨_, (.tmp (d := (.val (.int .u64 (0)))) rfl .nil), ?_⟩
  rw [show l.getD i 0 = 0 from getD_out (by omega)]; rfl
theorem hC (neg : Bool) (l : List Nat) (hd : Dig l) (hb : l.length ≤ 17592186044416) : kD Tryz.prog 94 [(.val (.bool (neg))), (.sl 152 1 (List.map jB l))] (jU (xS neg (val l))) := by
 refine jK Tryz.func94 rfl cb94 rfl ?_
 show uY _ _ _ _ ⟨[(0, (vb neg)), (1, (vl 152 1 jB l))], []⟩
 refine jA <| kx [(4, (.ref 0 0))] [(0, some (bx (jU (jG.mk false []))))] (zN (qP 0 gL gM) <| zZ) ?_
 refine jA <| kx [(5, (kE l.length))] [] (zM <| zE (nX kP) <| zM <| zZ) ?_
 refine jA <| jE <| uZ (α := Nat) (fun k => ⟨[(0, (vb neg)), (1, (vl 152 1 jB l)), (4, (.ref 0 0)), (5, (kE k))], [(0, some (bx (jU (jG.mk false []))))]⟩) (fun k => k ≤ l.length ∧ val (l.take k) = val l) (fun k => k) l.length wk ⟨Nat.le_refl _, by rw [List.take_length]⟩ ?_
 rintro k ⟨hk, hv⟩
 refine jA <| jA <| kx [(17, (vb (decide (0 < ((k : Nat) : Int)) && ((((l.getD (k - 1) 0) : Nat) : Int) == 0))))] [] ?_ ?_
 ·refine zM <| zE hM <| zE (oV (vb (decide (0 < ((k : Nat) : Int)))) (vX (by kernel_rfl))) <| ?_
  rcases hb1 : (decide (0 < ((k : Nat) : Int))) with _ | _
  ·replace hb1 := of_decide_eq_false hb1
   exact zK <| zK <| zK <| zK <| zK <| zK <| zE mV <| zZ
  ·replace hb1 := of_decide_eq_true hb1
   exact zM <| zM <| zE (oSb (k - 1)) <| zE (oXl kP (k - 1) (0 : Nat)) <| zE (xT uN) <| zE oEq <| zE oPa <| zZ
 refine jS rfl (fun h2 => ?_) (fun h2 => ?_)
 ·have hm := r_made_step hk hv h2
  have hm0 := hm.1
  refine jD <| jE <| kx [(5, (kE (k - 1)))] [] (zM <| zE (oSb (k - 1)) <| zM <| zZ) ?_
  exact ⟨(k - 1), wk, ⟨by omega, hm.2⟩, (by first | omega | (dsimp only; omega))⟩
 ·refine kK <| jA <| kx [] [(0, some (bx (jU (jG.mk (neg && decide (0 < ((k : Nat) : Int))) (List.take k l)))))] ?_ ?_
  ·refine zM <| zE (oV (vb neg) (vX (by kernel_rfl))) <| ?_
   rcases hb3 : neg with _ | _
   ·exact zK <| zK <| zE mV <| zE (oBe kP) <| zM <| zM <| zE (e_slc (l := 0) (h := k) (kl := .i64) (kh := .i64) (es' := List.map jB (List.take k l)) (by exact rfl) kP (by exact rfl) (by exact rfl) (by exact rfl) (Nat.zero_le _) (by simp only [List.length_map]; omega) (by rw [List.drop_zero, List.map_take])) <| zE (e_appe (by exact rfl) kP xE (by kernel_rfl) nA (by exact rfl) (by exact rfl) (by simp only [List.length_map, List.length_take, List.length_drop, List.length_append, List.length_cons, List.length_nil, maxLen]; omega) (by simp only [List.length_map, List.length_take, List.length_drop, List.length_append, List.length_cons, List.length_nil]; omega)) <| zE (oBd pl40 gL gM) <| zT (kU kF) <| zZ
   ·exact zM <| zE hM <| zE oPa <| zE (oBe kP) <| zM <| zM <| zE (e_slc (l := 0) (h := k) (kl := .i64) (kh := .i64) (es' := List.map jB (List.take k l)) (by exact rfl) kP (by exact rfl) (by exact rfl) (by exact rfl) (Nat.zero_le _) (by simp only [List.length_map]; omega) (by rw [List.drop_zero, List.map_take])) <| zE (e_appe (by exact rfl) kP xE (by kernel_rfl) nA (by exact rfl) (by exact rfl) (by simp only [List.length_map, List.length_take, List.length_drop, List.length_append, List.length_cons, List.length_nil, maxLen]; omega) (by simp only [List.length_map, List.length_take, List.length_drop, List.length_append, List.length_cons, List.length_nil]; omega)) <| zE (oBd pl40 gL gM) <| zT (kU kF) <| zZ
  refine jH ⟨_, (kZ (cs := (bx (jU (jG.mk (neg && decide (0 < ((k : Nat) : Int))) (List.take k l))))) (d := (jU (jG.mk (neg && decide (0 < ((k : Nat) : Int))) (List.take k l)))) rfl rfl kF rfl rfl .nil), ?_⟩
  rw [r_made_end hd hk hv h2]; rfl
theorem r_valid (x : jG) (hb : x.gs.length ≤ 17592186044416) : kD Tryz.prog 25 [(jU x)] (.val (.bool ((vF x)))) := by
 refine jK Tryz.func25 rfl cb25 rfl ?_
 show uY _ _ _ _ ⟨[(0, (.d (jU x)))], []⟩
 refine jA <| kx [(1, (.ref 0 0))] [(0, some (bx (jU x)))] (zN (vN 0) <| zM <| zZ) ?_
 refine jA <| kx [(3, (kE x.gs.length))] [] (zE (kO zJ) <| zR (uM yU) <| zE (nX kP) <| zM <| zZ) ?_
 refine jA <| jA <| kx [(4, (kE 0))] [] (zM <| zZ) ?_
 refine jE <| uZ (α := Nat) (fun i => ⟨[(1, (.ref 0 0)), (3, (kE x.gs.length)), (4, (kE i))], [(0, some (bx (jU x)))]⟩) (fun i => i ≤ x.gs.length ∧ Dig (x.gs.take i)) (fun i => x.gs.length - i) 0 wk ⟨Nat.zero_le _, by rw [List.take_zero]; exact gJ⟩ ?_
 rintro i ⟨hi, hd⟩
 refine jA <| jA <| kx [(10, (vb (decide (((i : Nat) : Int) < ((x.gs.length : Nat) : Int)))))] [] (zM <| zM <| zE qM <| zZ) ?_
 refine jS rfl (fun h1 => ?_) (fun h1 => ?_)
 ·replace h1 := of_decide_eq_true h1
  refine jD <| jA <| jE <| jA <| kx [(18, (vb (decide (1000000000 ≤ (((x.gs.getD i 0) : Nat) : Int)))))] [] (zE (kO zJ) <| zR (uM yU) <| zM <| zE (oXl kP i (0 : Nat)) <| zE (xT uN) <| zE oGe <| zZ) ?_
  refine jS rfl (fun h2 => ?_) (fun h2 => ?_)
  ·replace h2 := of_decide_eq_true h2
   refine jA <| kx [(2, (vb false))] [] (zM <| zZ) ?_
   refine jH ⟨_, (.tmp (d := (.val (.bool (false)))) rfl .nil), ?_⟩
   rw [validI_big (i := i) (by omega) (by omega)]; rfl
  ·replace h2 := of_decide_eq_false h2
   refine jD <| kx [(4, (kE (i + 1)))] [] (zM <| zE (uI (i + 1)) <| zM <| zZ) ?_
   exact ⟨(i + 1), wk, ⟨by omega, dig_take_succ (by omega) hd (by omega)⟩, (by first | omega | (dsimp only; omega))⟩
 ·replace h1 := of_decide_eq_false h1
  have hie : i = x.gs.length := by omega
  rw [hie, List.take_length] at hd
  refine kK <| jA <| jA <| kx [(20, (vb (((x.gs.length : Nat) : Int) == 0)))] [] (zM <| zE oEq <| zZ) ?_
  refine jS (b := (((x.gs.length : Nat) : Int) == 0)) rfl (fun h3 => ?_) (fun h3 => ?_)
  ·replace h3 := eq_of_beq h3
   refine jA <| kx [(2, (vb (!x.neg)))] [] (zE (kO xM) <| zR (uM sh4) <| zE oNt <| zM <| zZ) ?_
   refine jH ⟨_, (.tmp (d := (.val (.bool (!x.neg)))) rfl .nil), ?_⟩
   rw [validI_nil (by omega)]; rfl
  ·replace h3 := ne_of_beq_false h3
   refine jD <| jA <| kx [(2, (vb ((((x.gs.getD (x.gs.length - 1) 0) : Nat) : Int) != 0)))] [] (zE (kO zJ) <| zR (uM yU) <| zM <| zE (oSb (x.gs.length - 1)) <| zE (oXl kP (x.gs.length - 1) (0 : Nat)) <| zE (xT uN) <| zE dL <| zM <| zZ) ?_
   refine jH ⟨_, (.tmp (d := (.val (.bool (((((x.gs.getD (x.gs.length - 1) 0) : Nat) : Int) != 0))))) rfl .nil), ?_⟩
   rw [validI_dig hd (by omega)]; rfl
theorem cL (x : jG) (hb : x.gs.length ≤ 17592186044416) : kD Tryz.prog 133 [(jU x)] (jU (kN (kA x))) := by
 refine jK Tryz.func133 rfl cb133 rfl ?_
 show uY _ _ _ _ ⟨[(0, (.d (jU x)))], []⟩
 refine jA <| kx [(1, (.ref 0 0)), (2, (.ref 1 0))] [(0, some (bx (jU x))), (1, some (bx (jU (jG.mk false []))))] (zN (vN 0) <| zN (qP 1 gL gM) <| zZ) ?_
 refine jA <| jA <| kx [(5, (vb (!(vF x))))] [] (zR (jZ kF) <| zE (jX (r_valid x (by omega))) <| zE oNt <| zZ) ?_
 refine jS (b := !(vF x)) rfl (fun h1 => ?_) (fun h1 => ?_)
 ·refine jA <| kx [] [(1, some (bx (jU (jG.mk false []))))] (zE (oBd pl40 gL gM) <| zT (kU kF) <| zZ) ?_
  refine jH ⟨_, (kZ (cs := (bx (jU (jG.mk false [])))) (d := (jU (jG.mk false []))) rfl rfl kF rfl rfl .nil), ?_⟩
  rw [toZ_bad (by rw [Bool.not_eq_true'] at h1; exact h1), ofZ_zero]; rfl
 ·refine jD <| jA <| kd [] [(1, some (bx (jU (jG.mk x.neg x.gs))))] mo (wE (kO xM) <| wR (uM sh4) <| wE (oBe kP) <| wE (kO zJ) <| wR (uM yU) <| wE (e_appe (by exact rfl) kP xE (by kernel_rfl) nA (by exact rfl) (by exact rfl) (by simp only [List.length_map, List.length_take, List.length_drop, List.length_append, List.length_cons, List.length_nil, maxLen]; omega) (by simp only [List.length_map, List.length_take, List.length_drop, List.length_append, List.length_cons, List.length_nil]; omega)) <| wE (oBd pl40 gL gM) <| wT (kU kF) <| wZ) ?_
  refine jH ⟨_, (kZ (cs := (bx (jU (jG.mk x.neg x.gs)))) (d := (jU (jG.mk x.neg x.gs))) rfl rfl kF rfl rfl .nil), ?_⟩
  rw [ofZ_toZ (by simpa using h1)]; rfl
theorem r_of (n : Int) (hlo : -9223372036854775808 ≤ n) (hhi : n ≤ 9223372036854775807) : kD Tryz.prog 27 [(.val (.int .i64 (n)))] (jU (kN n)) := by
 refine jK Tryz.func27 rfl cb27 rfl ?_
 show uY _ _ _ _ ⟨[(0, (vi n))], []⟩
 refine jA <| kx [(2, (.ref 0 0))] [(0, some (bx (jU (jG.mk false []))))] (zN (qP 0 gL gM) <| zZ) ?_
 refine jA <| kx [(3, (yY ((n % 18446744073709551616).toNat)))] [] (zM <| zE (nS un3 yO ((n % 18446744073709551616).toNat) (hr := by exact (conv_u64 _))) <| zM <| zZ) ?_
 refine jA <| jA <| kx [(8, (vb (decide (n < 0))))] [] (zM <| zE qM <| zZ) ?_
 refine jS (b := decide (n < 0)) rfl (fun h1 => ?_) (fun h1 => ?_)
 ·replace h1 := of_decide_eq_true h1
  refine kx [(3, (yY n.natAbs))] [] (zM <| zE (zAd (n + 1)) <| zE (oNg (-(n + 1))) <| zE (nS un3 yO ((-n - 1).toNat) (hr := by exact (wu64 (by omega) (by omega) (by omega)))) <| zE (uI n.natAbs) <| zM <| zZ) ?_
  refine jA <| kx [(4, (.own 1 152 1 0))] [(1, some (bm jB []))] (zN (oBo 1 kP xE yS) <| zM <| zZ) ?_
  refine jA <| jE <| uZ (α := List Nat × Nat) (fun (o, m) => ⟨[(0, (vi n)), (2, (.ref 0 0)), (3, (yY m)), (4, (.own 1 152 1 o.length))], [(0, some (bx (jU (jG.mk false [])))), (1, some (bm jB o))]⟩) (fun (o, m) => m ≤ 9223372036854775808 ∧ o ++ ofNat m = ofNat n.natAbs) (fun (o, m) => m) ([], n.natAbs) wk ⟨by omega, by rw [List.nil_append]⟩ ?_
  rintro ⟨o, m⟩ ⟨hm, hg⟩
  have hl := split_len hg (by omega)
  refine jA <| jA <| kx [(16, (vb (decide (0 < ((m : Nat) : Int)))))] [] (zM <| zE hM <| zZ) ?_
  refine jS (b := decide (0 < ((m : Nat) : Int))) rfl (fun h2 => ?_) (fun h2 => ?_)
  ·replace h2 := of_decide_eq_true h2
   refine jD <| jE <| jA <| kf [(4, (.own 1 152 1 ((o ++ [(m % 1000000000)]).length)))] [(1, some (bm jB (o ++ [(m % 1000000000)])))] (zM <| zM <| zE (oRe (m % 1000000000)) <| zE (nS gR gH (m % 1000000000)) <| zE (nM kP xE yS) <| zA jB o [(m % 1000000000)] rfl kP xE nA <| zM <| zF) ?_
   refine kx [(3, (yY (m / 1000000000)))] [] (zM <| zE (oQu (m / 1000000000)) <| zM <| zZ) ?_
   exact ⟨(o ++ [m % 1000000000], m / 1000000000), wk, ⟨by omega, split_step hg h2⟩, (by first | omega | (dsimp only; omega))⟩
  ·replace h2 := of_decide_eq_false h2
   have hdo : Dig o := split_dig hg h2
   have hvo := split_val hg h2
   refine kK <| jA <| kV (xX (t := 4) (k := 1) (es := List.map jB o) rfl rfl (xL _ _ (fun _ => rfl)) (xQ _ _ rfl) (zP _ _ (fun _ => rfl) rfl)) ?_
   refine kx [] [(0, some (bx (jU (xS (decide (n < 0)) (val o)))))] (zM <| zE qM <| zM <| zE (jX (hC (decide (n < 0)) o hdo (by omega))) <| zT (kU kF) <| zZ) ?_
   refine jH ⟨_, (kZ (cs := (bx (jU (xS (decide (n < 0)) (val o))))) (d := (jU (xS (decide (n < 0)) (val o)))) rfl rfl kF rfl rfl .nil), ?_⟩
   rw [hvo]; rfl
 ·replace h1 := of_decide_eq_false h1
  rw [show (n % 18446744073709551616).toNat = n.natAbs from by omega]
  refine jD <| jA <| kx [(3, (yY n.natAbs)), (4, (.own 2 152 1 0))] [(2, some (bm jB []))] (zN (oBo 2 kP xE yS) <| zM <| zZ) ?_
  refine jA <| jE <| uZ (α := List Nat × Nat) (fun (o, m) => ⟨[(0, (vi n)), (2, (.ref 0 0)), (3, (yY m)), (4, (.own 2 152 1 o.length))], [(0, some (bx (jU (jG.mk false [])))), (2, some (bm jB o))]⟩) (fun (o, m) => m ≤ 9223372036854775808 ∧ o ++ ofNat m = ofNat n.natAbs) (fun (o, m) => m) ([], n.natAbs) wk ⟨by omega, by rw [List.nil_append]⟩ ?_
  rintro ⟨o, m⟩ ⟨hm, hg⟩
  have hl := split_len hg (by omega)
  refine jA <| jA <| kx [(16, (vb (decide (0 < ((m : Nat) : Int)))))] [] (zM <| zE hM <| zZ) ?_
  refine jS (b := decide (0 < ((m : Nat) : Int))) rfl (fun h3 => ?_) (fun h3 => ?_)
  ·replace h3 := of_decide_eq_true h3
   refine jD <| jE <| jA <| kf [(4, (.own 2 152 1 ((o ++ [(m % 1000000000)]).length)))] [(2, some (bm jB (o ++ [(m % 1000000000)])))] (zM <| zM <| zE (oRe (m % 1000000000)) <| zE (nS gR gH (m % 1000000000)) <| zE (nM kP xE yS) <| zA jB o [(m % 1000000000)] rfl kP xE nA <| zM <| zF) ?_
   refine kx [(3, (yY (m / 1000000000)))] [] (zM <| zE (oQu (m / 1000000000)) <| zM <| zZ) ?_
   exact ⟨(o ++ [m % 1000000000], m / 1000000000), wk, ⟨by omega, split_step hg h3⟩, (by first | omega | (dsimp only; omega))⟩
  ·replace h3 := of_decide_eq_false h3
   have hdo : Dig o := split_dig hg h3
   have hvo := split_val hg h3
   refine kK <| jA <| kV (xX (t := 4) (k := 2) (es := List.map jB o) rfl rfl (xL _ _ (fun _ => rfl)) (xQ _ _ rfl) (zP _ _ (fun _ => rfl) rfl)) ?_
   refine kx [] [(0, some (bx (jU (xS (decide (n < 0)) (val o)))))] (zM <| zE qM <| zM <| zE (jX (hC (decide (n < 0)) o hdo (by omega))) <| zT (kU kF) <| zZ) ?_
   refine jH ⟨_, (kZ (cs := (bx (jU (xS (decide (n < 0)) (val o))))) (d := (jU (xS (decide (n < 0)) (val o)))) rfl rfl kF rfl rfl .nil), ?_⟩
   rw [hvo]; rfl
theorem r_size (a b : List Nat) (ha : gB a) (hb : gB b) (hla : a.length ≤ 17592186044416) (hlb : b.length ≤ 17592186044416) : kD Tryz.prog 174 [(.sl 152 1 (List.map jB a)), (.sl 152 1 (List.map jB b))] (.val (.int .i64 ((xB ((val a : Nat) : Int) ((val b : Nat) : Int))))) := by
 refine jK Tryz.func174 rfl cb174 rfl ?_
 show uY _ _ _ _ ⟨[(0, (vl 152 1 jB a)), (1, (vl 152 1 jB b))], []⟩
 refine jA <| kx [] [] (zM <| zZ) ?_
 refine jA <| jA <| kx [(10, (vb (((a.length : Nat) : Int) != ((b.length : Nat) : Int))))] [] (zM <| zE (nX kP) <| zM <| zE (nX kP) <| zE dL <| zZ) ?_
 refine jS rfl (fun h1 => ?_) (fun h1 => ?_)
 ·replace h1 := bne_iff_ne.1 h1
  refine jA <| jA <| kx [(15, (vb (decide (((a.length : Nat) : Int) < ((b.length : Nat) : Int)))))] [] (zM <| zE (nX kP) <| zM <| zE (nX kP) <| zE qM <| zZ) ?_
  refine jS rfl (fun h2 => ?_) (fun h2 => ?_)
  ·replace h2 := of_decide_eq_true h2
   refine jA <| kx [(4, (vi (-1)))] [] (zM <| zZ) ?_
   refine jH ⟨_, (.tmp (d := (.val (.int .i64 (-1)))) rfl .nil), ?_⟩
   rw [← cmpI_len ha hb h1]; unfold xB; rw [if_pos (by omega)]; rfl
  ·replace h2 := of_decide_eq_false h2
   refine jD <| jA <| kx [(4, (kE 1))] [] (zM <| zZ) ?_
   refine jH ⟨_, (.tmp (d := (.val (.int .i64 (1)))) rfl .nil), ?_⟩
   rw [← cmpI_len ha hb h1, eI (by omega)]; rfl
 ·replace h1 := bne_eq_false_iff_eq.1 h1
  have hl : a.length = b.length := by omega
  refine jD <| jA <| jA <| kx [(5, (vi (((a.length : Nat) : Int) - 1)))] [] (zM <| zE (nX kP) <| zE (dJ (((a.length : Nat) : Int) - 1)) <| zM <| zZ) ?_
  refine jE <| uZ (α := Nat) (fun k => ⟨[(0, (vl 152 1 jB a)), (1, (vl 152 1 jB b)), (5, (vi (((k : Nat) : Int) - 1)))], []⟩) (fun k => k ≤ a.length ∧ val (a.drop k) = val (b.drop k)) (fun k => k) a.length wk ⟨Nat.le_refl _, by rw [List.drop_length, hl, List.drop_length]⟩ ?_
  rintro k ⟨hk, he⟩
  refine jA <| jA <| kx [(20, (vb (decide (0 ≤ (((k : Nat) : Int) - 1)))))] [] (zM <| zE oGe <| zZ) ?_
  refine jS (b := decide (0 ≤ (((k : Nat) : Int) - 1))) rfl (fun h3 => ?_) (fun h3 => ?_)
  ·replace h3 := of_decide_eq_true h3
   obtain ⟨i, rfl⟩ : ∃ i, k = i + 1 := ⟨k - 1, by omega⟩
   rw [show (((i + 1 : Nat) : Int) - 1) = ((i : Nat) : Int) from by omega]
   have ht := cmpI_top ha.1 hb.1 hl (j := a.length - 1 - i) (by omega) (by rw [show a.length - (a.length - 1 - i) = i + 1 by omega]; exact he)
   rw [show a.length - 1 - (a.length - 1 - i) = i by omega] at ht
   refine jD <| jA <| jE <| jA <| jA <| kd [(5, (kE i)), (31, (vb (decide ((((a.getD i 0) : Nat) : Int) < (((b.getD i 0) : Nat) : Int)))))] [] mo (wM <| wM <| wE (oXl kP i (0 : Nat)) <| wE (xT uN) <| wM <| wM <| wE (oXl kP i (0 : Nat)) <| wE (xT uN) <| wE qM <| wZ) ?_
   refine jS rfl (fun h4 => ?_) (fun h4 => ?_)
   ·replace h4 := of_decide_eq_true h4
    refine jA <| kx [(4, (vi (-1)))] [] (zM <| zZ) ?_
    refine jH ⟨_, (.tmp (d := (.val (.int .i64 (-1)))) rfl .nil), ?_⟩
    rw [← ht (by omega)]; unfold xB; rw [if_pos (by omega)]; rfl
   ·replace h4 := of_decide_eq_false h4
    refine jD <| jA <| kd [(40, (vb (decide ((((b.getD i 0) : Nat) : Int) < (((a.getD i 0) : Nat) : Int)))))] [] mo (wM <| wM <| wE (oXl kP i (0 : Nat)) <| wE (xT uN) <| wM <| wM <| wE (oXl kP i (0 : Nat)) <| wE (xT uN) <| wE hM <| wZ) ?_
    refine jS rfl (fun h5 => ?_) (fun h5 => ?_)
    ·replace h5 := of_decide_eq_true h5
     refine jA <| kx [(4, (kE 1))] [] (zM <| zZ) ?_
     refine jH ⟨_, (.tmp (d := (.val (.int .i64 (1)))) rfl .nil), ?_⟩
     rw [← ht (by omega), eI (by omega)]; rfl
    ·replace h5 := of_decide_eq_false h5
     refine jD <| kx [(5, (vi (((i : Nat) : Int) - 1)))] [] (zM <| zE (dJ (((i : Nat) : Int) - 1)) <| zM <| zZ) ?_
     exact ⟨i, wk, ⟨by omega, by rw [xZ a i, xZ b i, he]; omega⟩, (by first | omega | (dsimp only; omega))⟩
  ·replace h3 := of_decide_eq_false h3
   obtain rfl : k = 0 := by omega
   rw [List.drop_zero, List.drop_zero] at he
   refine kK <| jA <| kx [(4, (kE 0))] [] (zM <| zZ) ?_
   refine jH ⟨_, (.tmp (d := (.val (.int .i64 (0)))) rfl .nil), ?_⟩
   rw [cmpI_same he]; rfl
theorem r_plus (a b : List Nat) (hda : Dig a) (hdb : Dig b) (hla : a.length ≤ 8796093022208) (hlb : b.length ≤ 8796093022208) : kD Tryz.prog 173 [(.sl 152 1 (List.map jB a)), (.sl 152 1 (List.map jB b))] (.sl 152 1 (List.map jB (ofNat (val a + val b)))) := by
 refine jK Tryz.func173 rfl cb173 rfl ?_
 show uY _ _ _ _ ⟨[(0, (vl 152 1 jB a)), (1, (vl 152 1 jB b))], []⟩
 refine jA <| kx [] [] (zE (oNl 152 1) <| zZ) ?_
 refine jA <| kx [(5, (.own 0 152 1 0))] [(0, some (bm jB []))] (zN (oBo 0 kP xE yS) <| zM <| zZ) ?_
 refine jA <| kx [(6, (yY 0))] [] (zM <| zZ) ?_
 refine jA <| jA <| kx [(7, (kE 0))] [] (zM <| zZ) ?_
 refine jE <| uZ (α := Nat × List Nat × Nat) (fun (i, o, c) => ⟨[(0, (vl 152 1 jB a)), (1, (vl 152 1 jB b)), (5, (.own 0 152 1 o.length)), (6, (yY c)), (7, (kE i))], [(0, some (bm jB o))]⟩) (fun (i, o, c) => o.length = i ∧ Dig o ∧ i ≤ max a.length b.length ∧ c ≤ 1 ∧ val o + pw i * c = val (a.take i) + val (b.take i)) (fun (i, o, c) => max a.length b.length - i) (0, [], 0) wk ⟨rfl, gJ, Nat.zero_le _, Nat.zero_le _, by simp [val]⟩ ?_
 rintro ⟨i, o, c⟩ ⟨hl, hd, hi, hc, hv⟩
 have hai := hda.getD i
 have hbi := hdb.getD i
 refine jA <| jA <| kx [(19, (vb (decide (((i : Nat) : Int) < ((a.length : Nat) : Int)) || decide (((i : Nat) : Int) < ((b.length : Nat) : Int)))))] [] ?_ ?_
 ·refine zM <| zM <| zE (nX kP) <| zE qM <| zE (oV (vb (decide (((i : Nat) : Int) < ((a.length : Nat) : Int)))) (vX (by kernel_rfl))) <| ?_
  rcases hb1 : (decide (((i : Nat) : Int) < ((a.length : Nat) : Int))) with _ | _
  ·replace hb1 := of_decide_eq_false hb1
   exact zM <| zM <| zE (nX kP) <| zE qM <| zE oPo <| zZ
  ·replace hb1 := of_decide_eq_true hb1
   exact zK <| zK <| zK <| zK <| zE mX <| zZ
 refine jS rfl (fun h2 => ?_) (fun h2 => ?_)
 ·rw [Bool.or_eq_true, decide_eq_true_eq, decide_eq_true_eq] at h2
  refine jD <| jA <| jE <| jA <| kx [(8, (yY (((a.getD i 0) + (b.getD i 0)) + c)))] [] (zM <| zM <| zE (jX (eQ a i (by first | assumption | exact kM _ | exact (qO _).1 | exact (qR _).1))) <| zM <| zM <| zE (jX (eQ b i (by first | assumption | exact kM _ | exact (qO _).1 | exact (qR _).1))) <| zE (uI ((a.getD i 0) + (b.getD i 0))) <| zM <| zE (uI (((a.getD i 0) + (b.getD i 0)) + c)) <| zM <| zZ) ?_
  refine jA <| kf [(5, (.own 0 152 1 ((o ++ [((((a.getD i 0) + (b.getD i 0)) + c) % 1000000000)]).length)))] [(0, some (bm jB (o ++ [((((a.getD i 0) + (b.getD i 0)) + c) % 1000000000)])))] (zM <| zM <| zE (oRe ((((a.getD i 0) + (b.getD i 0)) + c) % 1000000000)) <| zE (nS gR gH ((((a.getD i 0) + (b.getD i 0)) + c) % 1000000000)) <| zE (nM kP xE yS) <| zA jB o [((((a.getD i 0) + (b.getD i 0)) + c) % 1000000000)] rfl kP xE nA <| zM <| zF) ?_
  refine kx [(6, (yY ((((a.getD i 0) + (b.getD i 0)) + c) / 1000000000)))] [] (zM <| zE (oQu ((((a.getD i 0) + (b.getD i 0)) + c) / 1000000000)) <| zM <| zZ) ?_
  refine kx [(7, (kE (i + 1)))] [] (zM <| zE (uI (i + 1)) <| zM <| zZ) ?_
  exact ⟨(i + 1, o ++ [(a.getD i 0 + b.getD i 0 + c) % 1000000000], (a.getD i 0 + b.getD i 0 + c) / 1000000000), wk, ⟨by simp [hl], dig_push hd (Nat.mod_lt _ (by decide)), by omega, by omega, rplus_step hl hv rfl⟩, (by first | omega | (dsimp only; omega))⟩
 ·rw [Bool.or_eq_false_iff, decide_eq_false_iff_not, decide_eq_false_iff_not] at h2
  rw [take_all (by omega), take_all (by omega)] at hv
  have hp := val_push (c := c) hl
  refine kK <| jA <| kf [(4, (vl 152 1 jB (ofNat (val (o ++ [c]))))), (5, .junk)] [(0, none)] (zM <| zM <| zE (nS gR gH c) <| zE (nM kP xE yS) <| zAQ jB o [c] rfl kP xE nA <| zE (jX (hC false (o ++ [c]) (dig_push hd (by omega)) (by simp only [List.length_append, List.length_cons, List.length_nil]; omega))) <| zE (oF1 eV yU) <| zM <| zF) ?_
  refine jH ⟨_, (.tmp (d := (.sl 152 1 (List.map jB (ofNat (val (o ++ [c])))))) rfl .nil), ?_⟩
  rw [hp, hv]; rfl
theorem r_minus (a b : List Nat) (hda : Dig a) (hdb : Dig b) (hba : val b ≤ val a) (hla : a.length ≤ 8796093022208) : kD Tryz.prog 175 [(.sl 152 1 (List.map jB a)), (.sl 152 1 (List.map jB b))] (.sl 152 1 (List.map jB (ofNat (val a - val b)))) := by
 refine jK Tryz.func175 rfl cb175 rfl ?_
 show uY _ _ _ _ ⟨[(0, (vl 152 1 jB a)), (1, (vl 152 1 jB b))], []⟩
 refine jA <| kx [] [] (zE (oNl 152 1) <| zZ) ?_
 refine jA <| kx [(5, (.own 0 152 1 0))] [(0, some (bm jB []))] (zN (oBo 0 kP xE yS) <| zM <| zZ) ?_
 refine jA <| kx [(6, (yY 0))] [] (zM <| zZ) ?_
 refine jA <| jA <| kx [(7, (kE 0))] [] (zM <| zZ) ?_
 refine jE <| uZ (α := Nat × List Nat × Nat) (fun (i, o, c) => ⟨[(0, (vl 152 1 jB a)), (1, (vl 152 1 jB b)), (5, (.own 0 152 1 o.length)), (6, (yY c)), (7, (kE i))], [(0, some (bm jB o))]⟩) (fun (i, o, c) => o.length = i ∧ Dig o ∧ i ≤ a.length ∧ c ≤ 1 ∧ val o + val (b.take i) = val (a.take i) + pw i * c) (fun (i, o, c) => a.length - i) (0, [], 0) wk ⟨rfl, gJ, Nat.zero_le _, Nat.zero_le _, by simp [val]⟩ ?_
 rintro ⟨i, o, c⟩ ⟨hl, hd, hi, hc, hv⟩
 have hai := hda.getD i
 have hbi := hdb.getD i
 refine jA <| jA <| kx [(13, (vb (decide (((i : Nat) : Int) < ((a.length : Nat) : Int)))))] [] (zM <| zM <| zE (nX kP) <| zE qM <| zZ) ?_
 refine jS rfl (fun h1 => ?_) (fun h1 => ?_)
 ·replace h1 := of_decide_eq_true h1
  refine jD <| jA <| jE <| jA <| kx [(8, (yY (((1000000000 + (a.getD i 0)) - (b.getD i 0)) - c)))] [] (zM <| zM <| zE (jX (eQ a i (by first | assumption | exact kM _ | exact (qO _).1 | exact (qR _).1))) <| zE (uI (1000000000 + (a.getD i 0))) <| zM <| zM <| zE (jX (eQ b i (by first | assumption | exact kM _ | exact (qO _).1 | exact (qR _).1))) <| zE (oSb ((1000000000 + (a.getD i 0)) - (b.getD i 0))) <| zM <| zE (oSb (((1000000000 + (a.getD i 0)) - (b.getD i 0)) - c)) <| zM <| zZ) ?_
  refine jA <| kf [(5, (.own 0 152 1 ((o ++ [((((1000000000 + (a.getD i 0)) - (b.getD i 0)) - c) % 1000000000)]).length)))] [(0, some (bm jB (o ++ [((((1000000000 + (a.getD i 0)) - (b.getD i 0)) - c) % 1000000000)])))] (zM <| zM <| zE (oRe ((((1000000000 + (a.getD i 0)) - (b.getD i 0)) - c) % 1000000000)) <| zE (nS gR gH ((((1000000000 + (a.getD i 0)) - (b.getD i 0)) - c) % 1000000000)) <| zE (nM kP xE yS) <| zA jB o [((((1000000000 + (a.getD i 0)) - (b.getD i 0)) - c) % 1000000000)] rfl kP xE nA <| zM <| zF) ?_
  refine kx [(6, (yY (1 - ((((1000000000 + (a.getD i 0)) - (b.getD i 0)) - c) / 1000000000))))] [] (zM <| zE (oQu ((((1000000000 + (a.getD i 0)) - (b.getD i 0)) - c) / 1000000000)) <| zE (oSb (1 - ((((1000000000 + (a.getD i 0)) - (b.getD i 0)) - c) / 1000000000))) <| zM <| zZ) ?_
  refine kx [(7, (kE (i + 1)))] [] (zM <| zE (uI (i + 1)) <| zM <| zZ) ?_
  exact ⟨(i + 1, o ++ [(1000000000 + a.getD i 0 - b.getD i 0 - c) % 1000000000], 1 - (1000000000 + a.getD i 0 - b.getD i 0 - c) / 1000000000), wk, ⟨by simp [hl], dig_push hd (Nat.mod_lt _ (by decide)), by omega, by omega, rminus_step hl hv (by omega) (by omega)⟩, (by first | omega | (dsimp only; omega))⟩
 ·replace h1 := of_decide_eq_false h1
  have hie : i = a.length := by omega
  refine kK <| jA <| kV (xX (t := 5) (k := 0) (es := List.map jB o) rfl rfl (xL _ _ (fun _ => rfl)) (xQ _ _ rfl) (zP _ _ (fun _ => rfl) rfl)) ?_
  refine kx [(4, (vl 152 1 jB (ofNat (val o))))] [] (zM <| zE (jX (hC false o hd (by omega))) <| zE (oF1 eV yU) <| zM <| zZ) ?_
  refine jH ⟨_, (.tmp (d := (.sl 152 1 (List.map jB (ofNat (val o))))) rfl .nil), ?_⟩
  rw [rminus_end hda hdb hd hie hl hba hv]; rfl
theorem r_scaled (a : List Nat) (d : Nat) (hda : Dig a) (hd1 : d ≤ 1000000000) (hla : a.length ≤ 8796093022208) : kD Tryz.prog 190 [(.sl 152 1 (List.map jB a)), (.val (.int .u64 (((d : Nat) : Int))))] (.sl 152 1 (List.map jB (ofNat (val a * d)))) := by
 refine jK Tryz.func190 rfl cb190 rfl ?_
 show uY _ _ _ _ ⟨[(0, (vl 152 1 jB a)), (1, (yY d))], []⟩
 refine jA <| kx [] [] (zE (oNl 152 1) <| zZ) ?_
 refine jA <| kx [(5, (.own 0 152 1 0))] [(0, some (bm jB []))] (zN (oBo 0 kP xE yS) <| zM <| zZ) ?_
 refine jA <| kx [(6, (yY 0))] [] (zM <| zZ) ?_
 refine jA <| jA <| kx [(7, (kE 0))] [] (zM <| zZ) ?_
 refine jE <| uZ (α := Nat × List Nat × Nat) (fun (i, o, c) => ⟨[(0, (vl 152 1 jB a)), (1, (yY d)), (5, (.own 0 152 1 o.length)), (6, (yY c)), (7, (kE i))], [(0, some (bm jB o))]⟩) (fun (i, o, c) => o.length = i ∧ Dig o ∧ i ≤ a.length ∧ c ≤ 999999999 ∧ val o + pw i * c = val (a.take i) * d) (fun (i, o, c) => a.length - i) (0, [], 0) wk ⟨rfl, gJ, Nat.zero_le _, Nat.zero_le _, by simp [val]⟩ ?_
 rintro ⟨i, o, c⟩ ⟨hl, hd, hi, hc, hv⟩
 have hai := hda.getD i
 have hpq : a.getD i 0 * d ≤ 999999999 * 1000000000 := Nat.mul_le_mul (by omega) hd1
 refine jA <| jA <| kx [(13, (vb (decide (((i : Nat) : Int) < ((a.length : Nat) : Int)))))] [] (zM <| zM <| zE (nX kP) <| zE qM <| zZ) ?_
 refine jS rfl (fun h1 => ?_) (fun h1 => ?_)
 ·replace h1 := of_decide_eq_true h1
  refine jD <| jA <| jE <| jA <| kx [(8, (yY (((a.getD i 0) * d) + c)))] [] (zM <| zM <| zE (oXl kP i (0 : Nat)) <| zE (xT uN) <| zE (nS yV yO (a.getD i 0)) <| zM <| zE (oMl ((a.getD i 0) * d)) <| zM <| zE (uI (((a.getD i 0) * d) + c)) <| zM <| zZ) ?_
  refine jA <| kf [(5, (.own 0 152 1 ((o ++ [((((a.getD i 0) * d) + c) % 1000000000)]).length)))] [(0, some (bm jB (o ++ [((((a.getD i 0) * d) + c) % 1000000000)])))] (zM <| zM <| zE (oRe ((((a.getD i 0) * d) + c) % 1000000000)) <| zE (nS gR gH ((((a.getD i 0) * d) + c) % 1000000000)) <| zE (nM kP xE yS) <| zA jB o [((((a.getD i 0) * d) + c) % 1000000000)] rfl kP xE nA <| zM <| zF) ?_
  refine kx [(6, (yY ((((a.getD i 0) * d) + c) / 1000000000)))] [] (zM <| zE (oQu ((((a.getD i 0) * d) + c) / 1000000000)) <| zM <| zZ) ?_
  refine kx [(7, (kE (i + 1)))] [] (zM <| zE (uI (i + 1)) <| zM <| zZ) ?_
  exact ⟨(i + 1, o ++ [(a.getD i 0 * d + c) % 1000000000], (a.getD i 0 * d + c) / 1000000000), wk, ⟨by simp [hl], dig_push hd (Nat.mod_lt _ (by decide)), by omega, by omega, rscaled_step hl hv rfl⟩, (by first | omega | (dsimp only; omega))⟩
 ·replace h1 := of_decide_eq_false h1
  have hie : i = a.length := by omega
  rw [take_all (by omega)] at hv
  have hp := val_push (c := c) hl
  refine kK <| jA <| kf [(4, (vl 152 1 jB (ofNat (val (o ++ [c]))))), (5, .junk)] [(0, none)] (zM <| zM <| zE (nS gR gH c) <| zE (nM kP xE yS) <| zAQ jB o [c] rfl kP xE nA <| zE (jX (hC false (o ++ [c]) (dig_push hd (by omega)) (by simp only [List.length_append, List.length_cons, List.length_nil]; omega))) <| zE (oF1 eV yU) <| zM <| zF) ?_
  refine jH ⟨_, (.tmp (d := (.sl 152 1 (List.map jB (ofNat (val (o ++ [c])))))) rfl .nil), ?_⟩
  rw [hp, hv]; rfl
theorem r_shifted (a : List Nat) (d : Nat) (hda : Dig a) (hd1 : d < 1000000000) (hla : a.length ≤ 8796093022208) : kD Tryz.prog 191 [(.sl 152 1 (List.map jB a)), (.val (.int .u32 (((d : Nat) : Int))))] (.sl 152 1 (List.map jB (ofNat (d + 1000000000 * val a)))) := by
 refine jK Tryz.func191 rfl cb191 rfl ?_
 show uY _ _ _ _ ⟨[(0, (vl 152 1 jB a)), (1, (eE d))], []⟩
 refine jA <| kx [] [] (zE (oNl 152 1) <| zZ) ?_
 refine jA <| kf [(4, (vl 152 1 jB (ofNat (val ([d] ++ a)))))] [(0, none)] (zM <| zN (oBo 0 kP xE yS) <| zM <| zAQ jB [d] a rfl kP xE nA <| zE (jX (hC false ([d] ++ a) (aE.2 ⟨yT.2 ⟨hd1, gJ⟩, hda⟩) (by simp only [List.length_append, List.length_cons, List.length_nil]; omega))) <| zE (oF1 eV yU) <| zM <| zF) ?_
 refine jH ⟨_, (.tmp (d := (.sl 152 1 (List.map jB (ofNat (val ([d] ++ a)))))) rfl .nil), ?_⟩
 rfl
end Go.Proofs.YtbecgnplakngdaaGreat
