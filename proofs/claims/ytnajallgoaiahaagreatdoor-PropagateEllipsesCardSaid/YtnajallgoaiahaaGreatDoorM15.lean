/- Part 15 of a proof: rules, plain facts, and functions walked. -/
import Derived.Test.YtnajallgoaiahaaGreatDoorM14
import Derived.Test.YtnajallgoaiahaaGreatDoorM11
import Derived.Test.YtnajallgoaiahaaGreatDoorM10
import Derived.Test.YtnajallgoaiahaaGreatDoorChecked
import Derived.RangeFuncBox
import Derived.Shelf.Abstract
import Derived.OwnWalkIn
import Derived.TacticsInMore
import Derived.LoopNIn
import Derived.LoopIn
namespace Go.Proofs.YtnajallgoaiahaaGreatDoor
open Go.Fid
set_option maxRecDepth 4000
set_option linter.unusedVariables false
set_option linter.unusedSimpArgs false
theorem bo4 : boolB Tryz.prog 4 = true := by kernel_rfl
theorem cb136 : callB Tryz.prog 136 = true := by kernel_rfl
theorem cb137 : callB Tryz.prog 137 = true := by kernel_rfl
theorem cb139 : callB Tryz.prog 139 = true := by kernel_rfl
theorem cb142 : callB Tryz.prog 142 = true := by kernel_rfl
theorem cb150 : callB Tryz.prog 150 = true := by kernel_rfl
theorem cb225 : callB Tryz.prog 225 = true := by kernel_rfl
theorem cb229 : callB Tryz.prog 229 = true := by kernel_rfl
theorem un3 : (Tryz.prog.underlying 3).isSome = true := by kernel_rfl
theorem t_sign (x : jD) (hx : x.gs.length ≤ 1099511627776) : jV Tryz.prog 136 [(jM x)] (.val (.int .i64 ((qY (jY x))))) := by
 refine jJ Tryz.func136 rfl cb136 rfl ?_
 show qI _ _ _ _ ⟨[(0, (.d (jM x)))], []⟩
 refine jB <| kx [(1, (.ref 0 0))] [(0, some (bx (jM x)))] (zN (vL 0) <| zM <| zZ) ?_
 refine jB <| jI <| jB <| kx [(3, (vb ((((kS x).length : Nat) : Int) == 0)))] [] (zR (kR jS) <| zE (jX (yN x (by omega))) <| zE (vG kJ (L := (kS x))) <| zE nF <| zM <| zZ) ?_
 refine jH (b := ((((kS x).length : Nat) : Int) == 0)) rfl (fun h1 => ?_) (fun h1 => ?_)
 ·replace h1 := eq_of_beq h1
  refine jB <| kx [(2, (jW 0))] [] (zM <| zZ) ?_
  refine jG ⟨_, (.tmp (d := (.val (.int .i64 (0)))) rfl .nil), ?_⟩
  rw [toZ_nil h1]; rfl
 ·replace h1 := ne_of_beq_false h1
  refine jB <| kx [(8, (vb x.neg))] [] (zE (qH uQ) <| zR (qP aG) <| zM <| zZ) ?_
  refine jH (b := x.neg) rfl (fun h2 => ?_) (fun h2 => ?_)
  ·refine jB <| kx [(2, (vi (-1)))] [] (zM <| zZ) ?_
   refine jG ⟨_, (.tmp (d := (.val (.int .i64 (-1)))) rfl .nil), ?_⟩
   rw [sign_neg h1 h2]; rfl
  ·refine jF <| jB <| kx [(2, (jW 1))] [] (zM <| zZ) ?_
   refine jG ⟨_, (.tmp (d := (.val (.int .i64 (1)))) rfl .nil), ?_⟩
   rw [sign_pos h1 h2]; rfl
theorem t_neg (x : jD) (hx : x.gs.length ≤ 1099511627776) : jV Tryz.prog 225 [(jM x)] (jM (jZ (-jY x))) := by
 refine jJ Tryz.func225 rfl cb225 rfl ?_
 show qI _ _ _ _ ⟨[(0, (.d (jM x)))], []⟩
 refine jB <| kx [(1, (.ref 0 0)), (2, (.ref 1 0))] [(0, some (bx (jM x))), (1, some (bx (jM (jD.mk false []))))] (zN (vL 0) <| zN (qS 1 vP vQ) <| zZ) ?_
 refine jB <| kd [] [(1, some (bx (jM (vS (!x.neg) (val (kS x))))))] mo (wE (qH uQ) <| wR (qP aG) <| wE mM <| wR (kR jS) <| wE (jX (yN x (by omega))) <| wE (jX (t_clone (kS x) (Nat.le_trans (yM _) (by omega)))) <| wE (jX (nK (!x.neg) (kS x) (qD _).1 (Nat.le_trans (yM _) (by omega)))) <| wT (qC jS) <| wZ) ?_
 refine jG ⟨_, (kU (cs := (bx (jM (vS (!x.neg) (val (kS x)))))) (d := (jM (vS (!x.neg) (val (kS x))))) rfl rfl jS rfl rfl .nil), ?_⟩
 rw [← neg_eq]; rfl
theorem t_sum (b : Bool) (l : List Nat) (c : Bool) (m : List Nat) (hl : xU l) (hm : xU m) (hll : l.length ≤ 1099511627776) (hlm : m.length ≤ 1099511627776) : jV Tryz.prog 229 [(.val (.bool (b))), (.sl 140 1 (List.map jC l)), (.val (.bool (c))), (.sl 140 1 (List.map jC m))] (jM (jZ (mT b (val l) + mT c (val m)))) := by
 refine jJ Tryz.func229 rfl cb229 rfl ?_
 show qI _ _ _ _ ⟨[(0, (vb b)), (1, (vl 140 1 jC l)), (2, (vb c)), (3, (vl 140 1 jC m))], []⟩
 refine jB <| kx [(8, (.ref 0 0))] [(0, some (bx (jM (jD.mk false []))))] (zN (qS 0 vP vQ) <| zZ) ?_
 refine jB <| jI <| jB <| kx [(9, (vb (b == c)))] [] (zM <| zM <| zE (oEb bo4) <| zM <| zZ) ?_
 refine jH (b := (b == c)) rfl (fun h1 => ?_) (fun h1 => ?_)
 ·replace h1 := eq_of_beq h1
  refine jB <| kx [] [(0, some (bx (jM (vS b (val (ofNat (val l + val m)))))))] (zM <| zM <| zM <| zE (jX (t_plus l m hl.1 hm.1 (by omega) (by omega))) <| zE (jX (nK b (ofNat (val l + val m)) (kF _) (Nat.le_trans (add_len hl.1 hm.1) (by omega)))) <| zT (qC jS) <| zZ) ?_
  refine jG ⟨_, (kU (cs := (bx (jM (vS b (val (ofNat (val l + val m))))))) (d := (jM (vS b (val (ofNat (val l + val m)))))) rfl rfl jS rfl rfl .nil), ?_⟩
  rw [← sum_same h1]; rfl
 ·replace h1 := ne_of_beq_false h1
  refine jB <| kx [(18, (vb (decide (0 ≤ (uC ((val l : Nat) : Int) ((val m : Nat) : Int))))))] [] (zM <| zM <| zE (jX (t_compare l m (by assumption) (by assumption) (by omega))) <| zE oGe <| zM <| zZ) ?_
  refine jH rfl (fun h2 => ?_) (fun h2 => ?_)
  ·replace h2 := of_decide_eq_true h2
   refine jB <| kx [] [(0, some (bx (jM (vS b (val (ofNat (val l - val m)))))))] (zM <| zM <| zM <| zE (jX (t_minus l m hl.1 hm.1 (by have := aF h2; omega) (by omega))) <| zE (jX (nK b (ofNat (val l - val m)) (kF _) (Nat.le_trans (sub_len hl.1) (by omega)))) <| zT (qC jS) <| zZ) ?_
   refine jG ⟨_, (kU (cs := (bx (jM (vS b (val (ofNat (val l - val m))))))) (d := (jM (vS b (val (ofNat (val l - val m)))))) rfl rfl jS rfl rfl .nil), ?_⟩
   rw [← sum_first h1 (by have := aF h2; omega)]; rfl
  ·replace h2 := of_decide_eq_false h2
   refine jF <| jB <| kx [] [(0, some (bx (jM (vS c (val (ofNat (val m - val l)))))))] (zM <| zM <| zM <| zE (jX (t_minus m l hm.1 hl.1 (by have := cmpI_lt h2; omega) (by omega))) <| zE (jX (nK c (ofNat (val m - val l)) (kF _) (Nat.le_trans (sub_len hm.1) (by omega)))) <| zT (qC jS) <| zZ) ?_
   refine jG ⟨_, (kU (cs := (bx (jM (vS c (val (ofNat (val m - val l))))))) (d := (jM (vS c (val (ofNat (val m - val l)))))) rfl rfl jS rfl rfl .nil), ?_⟩
   rw [← sum_second h1 (by have := cmpI_lt h2; omega)]; rfl
theorem t_add (x : jD) (y : jD) (hx : x.gs.length ≤ 1099511627776) (hy : y.gs.length ≤ 1099511627776) : jV Tryz.prog 150 [(jM x), (jM y)] (jM (jZ (jY x + jY y))) := by
 refine jJ Tryz.func150 rfl cb150 rfl ?_
 show qI _ _ _ _ ⟨[(0, (.d (jM x))), (1, (.d (jM y)))], []⟩
 refine jB <| kx [(2, (.ref 0 0)), (3, (.ref 1 0)), (4, (.ref 2 0))] [(0, some (bx (jM x))), (1, some (bx (jM y))), (2, some (bx (jM (jD.mk false []))))] (zN (vL 0) <| zN (vL 1) <| zN (qS 2 vP vQ) <| zZ) ?_
 refine jB <| kd [] [(2, some (bx (jM (jZ (mT x.neg (val (kS x)) + mT y.neg (val (kS y)))))))] mo (wE (qH uQ) <| wR (qP aG) <| wR (kR jS) <| wE (jX (yN x (by omega))) <| wE (qH uQ) <| wR (qP aG) <| wR (kR jS) <| wE (jX (yN y (by omega))) <| wE (jX (t_sum x.neg (kS x) y.neg (kS y) (qD _) (qD _) (Nat.le_trans (yM _) (by omega)) (Nat.le_trans (yM _) (by omega)))) <| wT (qC jS) <| wZ) ?_
 refine jG ⟨_, (kU (cs := (bx (jM (jZ (mT x.neg (val (kS x)) + mT y.neg (val (kS y))))))) (d := (jM (jZ (mT x.neg (val (kS x)) + mT y.neg (val (kS y)))))) rfl rfl jS rfl rfl .nil), ?_⟩
 rfl
theorem t_mul (x : jD) (y : jD) (hx : x.gs.length ≤ 1099511627776) (hy : y.gs.length ≤ 1099511627776) : jV Tryz.prog 142 [(jM x), (jM y)] (jM (jZ (jY x * jY y))) := by
 refine jJ Tryz.func142 rfl cb142 rfl ?_
 show qI _ _ _ _ ⟨[(0, (.d (jM x))), (1, (.d (jM y)))], []⟩
 refine jB <| kx [(2, (.ref 0 0)), (3, (.ref 1 0)), (4, (.ref 2 0))] [(0, some (bx (jM x))), (1, some (bx (jM y))), (2, some (bx (jM (jD.mk false []))))] (zN (vL 0) <| zN (vL 1) <| zN (qS 2 vP vQ) <| zZ) ?_
 refine jB <| kd [] [(2, some (bx (jM (vS (!(x.neg == y.neg)) (val (ofNat (val (kS x) * val (kS y))))))))] mo (wE (qH uQ) <| wR (qP aG) <| wE (qH uQ) <| wR (qP aG) <| wE (oNb bo4) <| wR (kR jS) <| wE (jX (yN x (by omega))) <| wR (kR jS) <| wE (jX (yN y (by omega))) <| wE (jX (t_times (kS x) (kS y) (qD _).1 (qD _).1 (Nat.le_trans (yM _) (by omega)) (Nat.le_trans (yM _) (by omega)))) <| wE (jX (nK (!(x.neg == y.neg)) (ofNat (val (kS x) * val (kS y))) (kF _) (Nat.le_trans (mul_len (qD _).1 (qD _).1) (by have := yM x; have := yM y; omega)))) <| wT (qC jS) <| wZ) ?_
 refine jG ⟨_, (kU (cs := (bx (jM (vS (!(x.neg == y.neg)) (val (ofNat (val (kS x) * val (kS y)))))))) (d := (jM (vS (!(x.neg == y.neg)) (val (ofNat (val (kS x) * val (kS y))))))) rfl rfl jS rfl rfl .nil), ?_⟩
 rw [show jY x * jY y = _ from rfl, jY, jY, ← mul_eq]; rfl
theorem t_of (n : Int) (hlo : -9223372036854775808 ≤ n) (hhi : n ≤ 9223372036854775807) : jV Tryz.prog 139 [(.val (.int .i64 (n)))] (jM (jZ n)) := by
 refine jJ Tryz.func139 rfl cb139 rfl ?_
 show qI _ _ _ _ ⟨[(0, (vi n))], []⟩
 refine jB <| kx [(2, (.ref 0 0))] [(0, some (bx (jM (jD.mk false []))))] (zN (qS 0 vP vQ) <| zZ) ?_
 refine jB <| kx [(3, (yG ((n % 18446744073709551616).toNat)))] [] (zM <| zE (nO un3 zW ((n % 18446744073709551616).toNat) (hr := by exact (conv_u64 _))) <| zM <| zZ) ?_
 refine jB <| jB <| kx [(7, (vb (decide (n < 0))))] [] (zM <| zE xK <| zZ) ?_
 refine jH (b := decide (n < 0)) rfl (fun h1 => ?_) (fun h1 => ?_)
 ·replace h1 := of_decide_eq_true h1
  refine kx [(3, (yG ((-n).toNat)))] [] (zM <| zE (oNg (((-n).toNat : Nat) : Int) (hr := by exact (neg_u64 (by assumption) hlo))) <| zM <| zZ) ?_
  refine jB <| kx [] [(0, some (bx (jM (vS (decide (n < 0)) (val (ofNat ((-n).toNat)))))))] (zM <| zE xK <| zM <| zE (jX (t_split ((-n).toNat) (by omega))) <| zE (jX (nK (decide (n < 0)) (ofNat ((-n).toNat)) (kF _) (Nat.le_trans (dX (by omega)) (by decide)))) <| zT (qC jS) <| zZ) ?_
  refine jG ⟨_, (kU (cs := (bx (jM (vS (decide (n < 0)) (val (ofNat ((-n).toNat))))))) (d := (jM (vS (decide (n < 0)) (val (ofNat ((-n).toNat)))))) rfl rfl jS rfl rfl .nil), ?_⟩
  rw [of_neg h1]; rfl
 ·replace h1 := of_decide_eq_false h1
  refine jF <| jB <| kx [] [(0, some (bx (jM (vS (decide (n < 0)) (val (ofNat ((n % 18446744073709551616).toNat)))))))] (zM <| zE xK <| zM <| zE (jX (t_split ((n % 18446744073709551616).toNat) (by omega))) <| zE (jX (nK (decide (n < 0)) (ofNat ((n % 18446744073709551616).toNat)) (kF _) (Nat.le_trans (dX (by omega)) (by decide)))) <| zT (qC jS) <| zZ) ?_
  refine jG ⟨_, (kU (cs := (bx (jM (vS (decide (n < 0)) (val (ofNat ((n % 18446744073709551616).toNat))))))) (d := (jM (vS (decide (n < 0)) (val (ofNat ((n % 18446744073709551616).toNat)))))) rfl rfl jS rfl rfl .nil), ?_⟩
  rw [of_pos h1 hhi]; rfl
theorem t_compareI (x : jD) (y : jD) (hx : x.gs.length ≤ 1099511627776) (hy : y.gs.length ≤ 1099511627776) : jV Tryz.prog 137 [(jM x), (jM y)] (.val (.int .i64 ((uC (jY x) (jY y))))) := by
 refine jJ Tryz.func137 rfl cb137 rfl ?_
 show qI _ _ _ _ ⟨[(0, (.d (jM x))), (1, (.d (jM y)))], []⟩
 refine jB <| kx [(2, (.ref 0 0)), (3, (.ref 1 0))] [(0, some (bx (jM x))), (1, some (bx (jM y)))] (zN (vL 0) <| zN (vL 1) <| zM <| zZ) ?_
 refine jB <| jB <| kd [(5, (vi (qY (jY x)))), (6, (vi (qY (jY y))))] [] mo (wR (kR jS) <| wE (jX (t_sign x (by omega))) <| wR (kR jS) <| wE (jX (t_sign y (by omega))) <| wM <| wM <| wZ) ?_
 refine jB <| kx [(14, (vb ((qY (jY x)) != (qY (jY y)))))] [] (zM <| zM <| zE cS <| zZ) ?_
 refine jH (b := ((qY (jY x)) != (qY (jY y)))) rfl (fun h1 => ?_) (fun h1 => ?_)
 ·replace h1 := bne_iff_ne.1 h1
  refine jB <| kx [(4, (vi (uC (qY (jY x)) (qY (jY y)))))] [] (zM <| zM <| zE (jX (t_cmp_int (qY (jY x)) (qY (jY y)))) <| zM <| zZ) ?_
  refine jG ⟨_, (.tmp (d := (.val (.int .i64 ((uC (qY (jY x)) (qY (jY y))))))) rfl .nil), ?_⟩
  rw [← cmp_sign h1]; rfl
 ·replace h1 := bne_eq_false_iff_eq.1 h1
  refine jF <| jB <| kd [(7, (vi (uC ((val (kS x) : Nat) : Int) ((val (kS y) : Nat) : Int))))] [] mo (wR (kR jS) <| wE (jX (yN x (by omega))) <| wR (kR jS) <| wE (jX (yN y (by omega))) <| wE (jX (t_compare (kS x) (kS y) (qD _) (qD _) (Nat.le_trans (yM _) (by omega)))) <| wM <| wZ) ?_
  refine jB <| jB <| kx [(24, (vb x.neg))] [] (zE (qH uQ) <| zR (qP aG) <| zZ) ?_
  refine jH (b := x.neg) rfl (fun h2 => ?_) (fun h2 => ?_)
  ·refine jB <| kx [(4, (vi (-(uC ((val (kS x) : Nat) : Int) ((val (kS y) : Nat) : Int)))))] [] (zM <| zE (oNg (-(uC ((val (kS x) : Nat) : Int) ((val (kS y) : Nat) : Int))) (hr := by exact (wi64 (by omega) (by have := cmpI_range ((val (kS x) : Nat) : Int) ((val (kS y) : Nat) : Int); omega) (by have := cmpI_range ((val (kS x) : Nat) : Int) ((val (kS y) : Nat) : Int); omega)))) <| zM <| zZ) ?_
   refine jG ⟨_, (.tmp (d := (.val (.int .i64 (-(uC ((val (kS x) : Nat) : Int) ((val (kS y) : Nat) : Int)))))) rfl .nil), ?_⟩
   rw [← cmp_neg h1 h2]; rfl
  ·refine jF <| jB <| kx [(4, (vi (uC ((val (kS x) : Nat) : Int) ((val (kS y) : Nat) : Int))))] [] (zM <| zM <| zZ) ?_
   refine jG ⟨_, (.tmp (d := (.val (.int .i64 ((uC ((val (kS x) : Nat) : Int) ((val (kS y) : Nat) : Int)))))) rfl .nil), ?_⟩
   rw [← cmp_pos h1 h2]; rfl
end Go.Proofs.YtnajallgoaiahaaGreatDoor
namespace Go.Proofs.YtnajallgoaiahaaGreatDoor
open Go.RowKit Go.Shelf
attribute [local go_sem] Oper.semAt_some
set_option maxRecDepth 100000 in
set_option maxHeartbeats 2000000 in
theorem trimV (b cap : Nat) (l : List Nat) (hd : Go.Fid.Dig l) (h0 : Go.Fid.val l ≠ 0) (w : World) (hc : ∀ i, i < l.length → w.cell? ⟨b, i, none⟩ = some (.int .u32 ((l.getD i 0 : Nat) : Int))) (h1 : l.length ≤ cap) (h2 : cap ≤ maxLen) :
    CallsIn Fence.wide 1 Tryz.prog 251 #[.slice (some ⟨b, 0, none⟩) l.length cap] w fun e w' => e = .returned (.slice (some ⟨b, 0, none⟩) (Go.Fid.ofNat (Go.Fid.val l)).length cap) ∧ w' = w := by
  refine callsIn_of_wp Tryz.func251 rfl trivial ?_ rfl
  simp only [Tryz.ntmps251, List.size_toArray, List.length_cons, List.length_nil, Nat.reduceAdd, Nat.reduceSub, Array.replicate_succ, Array.replicate_zero, List.push_toArray, List.append_toArray, List.nil_append, List.cons_append]
  gi_wp2
  gi_loopw [0] (fun i wr => ∃ j : Nat, j ≤ l.length ∧ 0 < j ∧ i = .slice (some ⟨b, 0, none⟩) j cap ∧ Go.Fid.val (l.take j) = Go.Fid.val l ∧ wr = w)
    (fun i _ => match i with | .slice _ n _ => n | _ => 0)
  case atStart =>
    have hl : 0 < l.length := by
      rcases l with _ | ⟨d, l⟩
      · exact absurd rfl h0
      · simp
    exact ⟨l.length, Nat.le_refl _, hl, rfl, by rw [List.take_length], rfl⟩
  case round =>
    obtain ⟨j, hj, hj0, rfl, hv, rfl⟩ := hrel
    have hcj := hc (j - 1) (by omega)
    have hj63 : (j : Int) ≤ 9223372036854775807 := by unfold maxLen at h2; omega
    have hv2 := Go.Fid.val_take_succ l (j - 1)
    rw [show j - 1 + 1 = j by omega] at hv2
    by_cases hz : l.getD (j - 1) 0 = 0
    · rw [hz] at hcj hv2
      have h1j : 0 < j - 1 := by
        rcases Nat.eq_zero_or_pos (j - 1) with e | e
        · rw [e, List.take_zero, Go.Fid.val_nil, Nat.mul_zero] at hv2
          omega
        · exact e
      gi_wp2
      go_roundw
      case rel => exact ⟨j - 1, by omega, h1j, by simp, by rw [← hv, hv2]; simp, trivial⟩
      case measure => simp; omega
    · gi_wp2
      · rename_i hq
        exfalso
        simp [List.getD] at hz hq
        omega
      · refine ⟨rfl, .slice (some ⟨b, 0, none⟩) j cap, by simp [results, Tryz.results251, go_sem], ?_⟩
        have e : Go.Fid.ofNat (Go.Fid.val l) = l.take j := by
          rw [← hv]
          refine (Go.Fid.can_eq ⟨hd.take j, ?_⟩).symm
          unfold Go.Fid.Top
          have h5 : (l.take j).length - 1 = j - 1 := by rw [List.length_take]; omega
          rw [h5]
          have h6 : j - 1 < l.length := by omega
          simp [List.getD, List.getElem?_eq_getElem h6, List.getElem?_take_of_lt (show j - 1 < j by omega)] at hz ⊢
          exact hz
        rw [e, List.length_take, Nat.min_eq_left hj]
        exact ⟨rfl, rfl⟩
theorem trim_cb : Go.Fid.callB Tryz.prog 251 = true := by kernel_rfl
open Go.Fid in
theorem e_trimO {o : Oper} {S : Nat → SV} {x : Operand} {ats : Array TypeId} {k T m : Nat} (l : List Nat) (ho : o.op = .call { callee := .value (.func 251), args := #[x], argTypes := ats }) (hx : ev S x = .own k T 1 m) (hl : l.length = m) (hd : Dig l) (h0 : val l ≠ 0) :
    uL Tryz.prog o S [(k, l.map (fun g => SV.d (jC g)))] (.own k T 1 (ofNat (val l)).length) :=
  fun a w D β Q hop hrd hD => by
    have hxv := hop x (by simp [ho, Op.operands, Call.operands])
    rw [hx] at hxv
    have hm : 0 < m := by
      rcases Nat.eq_zero_or_pos m with e | e
      · rw [e] at hl
        have := List.eq_nil_of_length_eq_zero hl
        subst this
        exact absurd rfl h0
      · exact e
    have hle : (ofNat (val l)).length ≤ l.length := qM (vI hd)
    rcases hxv with ⟨_, e, _⟩ | ⟨b, cap, vs, h1, h2, h3, h4, h5, h6⟩
    · omega
    · have hblk := hrd (k, l.map (fun g => SV.d (jC g))) (by simp)
      rcases hblk with ⟨g1, _⟩ | ⟨b', vs', T', g1, g2, g3, g4, g5⟩
      · rw [h1] at g1; cases g1
      · obtain rfl : b = b' := by rw [h1] at g1; injection g1
        rw [h3] at g2
        injection g2 with g2
        injection g2 with g2 gT
        subst g2; subst gT
        have hcell : ∀ i, w.cell? ⟨b, i, none⟩ = vs[i]? := fun i => cell_of_row w b i vs T (0, 0) h3
        have hrun : (execOp a.eval o).run Tryz.prog w = .ok (.enter 251 #[.slice (some ⟨b, 0, none⟩) l.length cap]) w := by
          simp only [execOp, ho, resolve, Deferred.ofValue, Act.eval, Sem.run_bind, Sem.run_pure, Result.andThen_ok, invoke, Array.empty_append, Array.append_empty]
          rw [vD trim_cb]
          simp [h2, hl]
        refine nL hrun (((callsIn_wide (n := 1)).1 (trimV b cap l hd h0 w (fun i hi => ?_) (by omega) h6)).mono fun e w' h => ?_)
        · rw [hcell]
          obtain ⟨u, e1, _, e3⟩ := g4 i (.d (jC (l.getD i 0))) (by rw [List.getElem?_map, List.getElem?_eq_getElem hi]; simp [List.getD, List.getElem?_eq_getElem hi])
          rw [e1, vA e3]
        · obtain ⟨he, rfl⟩ := h
          exact ⟨_, he, _, D, rfl, Below.refl _ _, ⟨fun _ _ _ h => h, fun _ _ _ h => .inl h⟩, .inr ⟨b, cap, vs, h1, rfl, h3, h4, by omega, h6⟩⟩
open Go.Fid in
theorem trim_take {l : List Nat} (hd : Dig l) : ofNat (val l) = l.take (ofNat (val l)).length := by
  have h1 : ∀ (n : Nat) (l : List Nat), l.length = n → Dig l → ofNat (val l) = l.take (ofNat (val l)).length := by
    intro n
    induction n with
    | zero => intro l hl _; rw [List.eq_nil_of_length_eq_zero hl]; rw [val_nil, qU]; rfl
    | succ n ih =>
      intro l hl hd
      have h2 := val_take_succ l n
      rw [← hl, List.take_length] at h2
      by_cases hz : l.getD n 0 = 0
      · rw [hz, Nat.mul_zero, Nat.add_zero] at h2
        have h3 := ih (l.take n) (by rw [List.length_take]; omega) (hd.take n)
        rw [← h2, List.take_take] at h3
        have h4 : (ofNat (val l)).length ≤ n := by
          rw [h2]; exact qM (by have := vI (hd.take n); rwa [List.length_take, Nat.min_eq_left (by omega)] at this)
        rw [Nat.min_eq_left h4] at h3
        exact h3
      · have h3 : xU l := ⟨hd, by
          unfold Top
          rw [show l.length - 1 = n by omega]
          have h6 : n < l.length := by omega
          simp [List.getD, List.getElem?_eq_getElem h6] at hz ⊢
          exact hz⟩
        rw [← can_eq h3, List.take_length]
  exact h1 _ l rfl hd
end Go.Proofs.YtnajallgoaiahaaGreatDoor
namespace Go.Proofs.YtnajallgoaiahaaGreatDoor
open Go.Fid
set_option maxRecDepth 4000
set_option linter.unusedVariables false
set_option linter.unusedSimpArgs false
theorem cb252 : callB Tryz.prog 252 = true := by kernel_rfl
theorem ze41 : xP Tryz.prog 41 = some [.slice none 0 0] := by kernel_rfl
theorem zo41 : fS [.slice none 0 0] [.sl 140 1 []] := by simp [fS, Value.oneCell']
theorem t_short (a : List Nat) (d : Nat) (hda : Dig a) (hd0 : 0 < d) (hd1 : d ≤ 1000000000) (hla : a.length ≤ 17592186044416) : jV Tryz.prog 252 [(.sl 140 1 (List.map jC a)), (.val (.int .u32 (((d : Nat) : Int))))] (.tup [(.sl 140 1 (List.map jC (ofNat (val a / d)))), (.val (.int .u32 ((((val a % d) : Nat) : Int))))]) := by
 refine jJ Tryz.func252 rfl cb252 rfl ?_
 show qI _ _ _ _ ⟨[(0, (vl 140 1 jC a)), (1, (dL d))], []⟩
 refine jB <| kx [(3, (.ref 0 0)), (4, (.ref 1 0)), (5, (dL 0))] [(0, some (bx (.val (.int .u32 (((d : Nat) : Int)))))), (1, some (bx (.sl 140 1 (List.map jC []))))] (zN (vL 0) <| zN (qS 1 ze41 zo41) <| zM <| zZ) ?_
 refine jB <| kx [] [(1, some [(.own 2 140 1 a.length)]), (2, some (bm jC (List.replicate a.length 0)))] (zM <| zE (vG kJ) <| zN (oMk 2 jC (0 : Nat) a.length a.length kJ vB xV gL) <| zT (oSo xG) <| zZ) ?_
 refine jB <| kx [(6, (.ref 3 0))] [(3, some (bx (.val (.int .u64 (0)))))] (zH (qS 3 ze170 zo170) <| zT (qC sh170) <| zZ) ?_
 refine jB <| pwp_backL backs cb249 rfl 7 jC a 0 (fun (q, xB) => ⟨[(3, (.ref 0 0)), (4, (.ref 1 0)), (5, (dL 0)), (6, (.ref 3 0))], [(0, some (bx (.val (.int .u32 (((d : Nat) : Int)))))), (1, some [(.own 2 140 1 a.length)]), (2, some (bm jC q)), (3, some (bx (.val (.int .u64 (((xB : Nat) : Int))))))]⟩) (fun (j : Nat) (q, xB) => q.length = a.length ∧ Dig q ∧ xB < d ∧ val (a.drop (a.length - j)) = val (q.drop (a.length - j)) * d + xB) (List.replicate a.length 0, 0) rfl rfl rfl rfl rfl rfl rfl rfl rfl rfl rfl rfl (fun _ => rfl) (fun _ => rfl) wk ⟨by simp, xR _, hd0, by simp [val, cM]⟩ (by omega) ?_ ?_
 ·rintro rl j ⟨q, xB⟩ hj ⟨qV, hdq, hr, hv⟩
  have hg := hda.getD (a.length - 1 - j)
  obtain ⟨hb1, hb2⟩ := short_bound hr hd1 hg
  refine jB <| kx [(7, (jW (a.length - 1 - j)))] [] (zM <| zZ) ?_
  refine kx [(8, (dL (a.getD (a.length - 1 - j) 0)))] [] (zM <| zZ) ?_
  refine jI <| jB <| kx [(9, (yG ((xB * 1000000000) + (a.getD (a.length - 1 - j) 0))))] [] (zR (qP sh170) <| zE (oMl (xB * 1000000000)) <| zM <| zE (nO yC zW (a.getD (a.length - 1 - j) 0)) <| zE (vU ((xB * 1000000000) + (a.getD (a.length - 1 - j) 0))) <| zM <| zZ) ?_
  refine kd [] [(2, some (bm jC (q.set (a.length - 1 - j) (((xB * 1000000000) + (a.getD (a.length - 1 - j) 0)) / d)))), (3, some (bx (.val (.int .u64 ((((((xB * 1000000000) + (a.getD (a.length - 1 - j) 0)) % d) : Nat) : Int))))))] mo (wR (qP xG) <| wM <| wM <| wR (qP qK) <| wE (nO yC zW d) <| wE (oQu (((xB * 1000000000) + (a.getD (a.length - 1 - j) 0)) / d)) <| wE (nO gH yU (((xB * 1000000000) + (a.getD (a.length - 1 - j) 0)) / d)) <| wM <| wR (qP qK) <| wE (nO yC zW d) <| wE (oRe (((xB * 1000000000) + (a.getD (a.length - 1 - j) 0)) % d)) <| wE (eF kJ (a.length - 1 - j)) <| wT (oSp qK (a.length - 1 - j) (((xB * 1000000000) + (a.getD (a.length - 1 - j) 0)) / d)) <| wT (qC sh170) <| wZ) ?_
  exact ⟨(q.set (a.length - 1 - j) ((xB * 1000000000 + a.getD (a.length - 1 - j) 0) / d), (xB * 1000000000 + a.getD (a.length - 1 - j) 0) % d), wk, ⟨by simpa using qV, hdq.set _ hb2, Nat.mod_lt _ hd0, short_step hj qV hv rfl⟩⟩
 ·rintro ⟨q, xB⟩ ⟨qV, hdq, hr, hv⟩
  obtain ⟨e1, e2⟩ := short_end hv hr
  refine jB <| qE (publishB (j := 1) (k := 2) (es := List.map jC q) rfl rfl rfl (uM _ _ (fun _ => rfl)) (vC _ _ qV) (vM _ _ (fun _ => rfl) qV)) ?_
  refine kd [(5, (dL xB))] [(1, some (bx (.sl 140 1 (List.map jC (ofNat (val q))))))] mo (wR (qP xG) <| wE (jX (t_trim q (by assumption) (by omega))) <| wR (qP sh170) <| wE (nO gH yU xB) <| wT (qC xG) <| wM <| wZ) ?_
  refine jG ⟨_, (res_1 (cs := (bx (.sl 140 1 (List.map jC (ofNat (val q)))))) (d := (.sl 140 1 (List.map jC (ofNat (val q))))) rfl rfl xG rfl rfl (.tmp (d := (.val (.int .u32 (((xB : Nat) : Int))))) rfl .nil)), ?_⟩
  rw [← e1, ← e2]; rfl
theorem o_times (a b : List Nat) (hda : Dig a) (hdb : Dig b) (hla : a.length ≤ 4398046511104) (hlb : b.length ≤ 4398046511104) (h0 : 0 < val a * val b) : TakesO Tryz.prog 226 [(.sl 140 1 (List.map jC a)), (.sl 140 1 (List.map jC b))] 140 1 (ofNat (val a * val b)).length (List.map jC (ofNat (val a * val b))) := by
 refine fn_introO Tryz.func226 rfl cb226 rfl (nN h0) ?_
 show qI _ _ _ _ ⟨[(0, (vl 140 1 jC a)), (1, (vl 140 1 jC b))], []⟩
 refine jB <| kx [] [] (zE (fH 140 1) <| zZ) ?_
 refine jB <| kx [(5, (.own 0 140 1 (a.length + b.length)))] [(0, some (bm jC (List.replicate (a.length + b.length) 0)))] (zM <| zE (vG kJ) <| zM <| zE (vG kJ) <| zE (vU (a.length + b.length)) <| zN (oMk 0 jC (0 : Nat) (a.length + b.length) (a.length + b.length) kJ vB xV gL) <| zM <| zZ) ?_
 refine jB <| jB <| kx [(18, (vl 140 1 jC a)), (19, (jW a.length)), (20, (jW 0))] [] (zM <| zE (vG kJ) <| zM <| zZ) ?_
 refine jI <| kN (α := Nat × List Nat) (fun (i, out) => ⟨[(1, (vl 140 1 jC b)), (5, (.own 0 140 1 (a.length + b.length))), (18, (vl 140 1 jC a)), (19, (jW a.length)), (20, (jW i))], [(0, some (bm jC out))]⟩) (fun (i, out) => out.length = a.length + b.length ∧ Dig out ∧ i ≤ a.length ∧ (∀ k, i + b.length ≤ k → out.getD k 0 = 0) ∧ val out = val (a.take i) * val b) (fun (i, out) => a.length - i) (0, List.replicate (a.length + b.length) 0) wk ⟨by simp, xR _, Nat.zero_le _, fun k _ => dT _ k, by simp [val, cM]⟩ ?_
 rintro ⟨i, out⟩ ⟨qV, hdo, hi, hz, hv⟩
 have hai := hda.getD i
 refine jB <| kx [(21, (vb (decide (((i : Nat) : Int) < ((a.length : Nat) : Int)))))] [] (zE xK <| zZ) ?_
 refine jB <| jH rfl (fun h1 => ?_) (fun h1 => ?_)
 ·replace h1 := of_decide_eq_true h1
  refine jF <| jB <| jI <| jB <| kx [(6, (jW i)), (7, (dL (a.getD i 0)))] [] (zM <| zE (xM kJ i (0 : Nat)) <| zE (xZ qK) <| zM <| zM <| zZ) ?_
  refine jB <| kx [(8, (yG 0))] [] (zM <| zZ) ?_
  refine jB <| jB <| kx [(25, (vl 140 1 jC b)), (26, (jW b.length)), (27, (jW 0))] [] (zM <| zE (vG kJ) <| zM <| zZ) ?_
  refine jI <| kN (α := Nat × List Nat × Nat) (fun (j, o2, c) => ⟨[(1, (vl 140 1 jC b)), (5, (.own 0 140 1 (a.length + b.length))), (6, (jW i)), (7, (dL (a.getD i 0))), (8, (yG c)), (18, (vl 140 1 jC a)), (19, (jW a.length)), (20, (jW i)), (25, (vl 140 1 jC b)), (26, (jW b.length)), (27, (jW j))], [(0, some (bm jC o2))]⟩) (fun (j, o2, c) => o2.length = a.length + b.length ∧ Dig o2 ∧ j ≤ b.length ∧ c < 1000000000 ∧ (∀ k, i + b.length ≤ k → o2.getD k 0 = 0) ∧ val o2 + pw (i + j) * c = val (a.take i) * val b + pw i * (a.getD i 0 * val (b.take j))) (fun (j, o2, c) => b.length - j) (0, out, 0) wk ⟨qV, hdo, Nat.zero_le _, by decide, hz, by simp [val, hv]⟩ ?_
  rintro ⟨j, o2, c⟩ ⟨hlen2, hdo2, hj, hc, hz2, hv2⟩
  have hbj := hdb.getD j
  have hoj := hdo2.getD (i + j)
  have hpq : a.getD i 0 * b.getD j 0 ≤ 999999999 * 999999999 := Nat.mul_le_mul (by omega) (by omega)
  refine jB <| kx [(28, (vb (decide (((j : Nat) : Int) < ((b.length : Nat) : Int)))))] [] (zE xK <| zZ) ?_
  refine jB <| jH rfl (fun h2 => ?_) (fun h2 => ?_)
  ·replace h2 := of_decide_eq_true h2
   refine jF <| jB <| jI <| jB <| kx [(9, (jW j)), (10, (dL (b.getD j 0)))] [] (zM <| zE (xM kJ j (0 : Nat)) <| zE (xZ qK) <| zM <| zM <| zZ) ?_
   refine jB <| kx [(11, (yG (((o2.getD (i + j) 0) + ((a.getD i 0) * (b.getD j 0))) + c)))] [] (zM <| zM <| zM <| zE (vU (i + j)) <| zE (eF kJ (i + j)) <| zR (oLp qK (i + j) (0 : Nat)) <| zE (nO yC zW (o2.getD (i + j) 0)) <| zM <| zE (nO yC zW (a.getD i 0)) <| zM <| zE (nO yC zW (b.getD j 0)) <| zE (oMl ((a.getD i 0) * (b.getD j 0))) <| zE (vU ((o2.getD (i + j) 0) + ((a.getD i 0) * (b.getD j 0)))) <| zM <| zE (vU (((o2.getD (i + j) 0) + ((a.getD i 0) * (b.getD j 0))) + c)) <| zM <| zZ) ?_
   refine kx [(8, (yG ((((o2.getD (i + j) 0) + ((a.getD i 0) * (b.getD j 0))) + c) / 1000000000)))] [(0, some (bm jC (o2.set (i + j) ((((o2.getD (i + j) 0) + ((a.getD i 0) * (b.getD j 0))) + c) % 1000000000))))] (zM <| zM <| zM <| zE (vU (i + j)) <| zM <| zE (oRe ((((o2.getD (i + j) 0) + ((a.getD i 0) * (b.getD j 0))) + c) % 1000000000)) <| zE (nO gH yU ((((o2.getD (i + j) 0) + ((a.getD i 0) * (b.getD j 0))) + c) % 1000000000)) <| zM <| zE (oQu ((((o2.getD (i + j) 0) + ((a.getD i 0) * (b.getD j 0))) + c) / 1000000000)) <| zE (eF kJ (i + j)) <| zT (oSp qK (i + j) ((((o2.getD (i + j) 0) + ((a.getD i 0) * (b.getD j 0))) + c) % 1000000000)) <| zM <| zZ) ?_
   refine kx [(27, (jW (j + 1)))] [] (zE (vU (j + 1)) <| zM <| zZ) ?_
   exact ⟨(j + 1, o2.set (i + j) ((o2.getD (i + j) 0 + a.getD i 0 * b.getD j 0 + c) % 1000000000), (o2.getD (i + j) 0 + a.getD i 0 * b.getD j 0 + c) / 1000000000), wk, (by obtain ⟨q1, q2⟩ := times_step (by omega) hdo2 hv2 rfl (val_take_succ b j); exact ⟨by simpa using hlen2, q1, by omega, by omega, zero_set (by omega) hz2, q2⟩), (by first | omega | (dsimp only; omega))⟩
  ·replace h2 := of_decide_eq_false h2
   have hje : j = b.length := by omega
   rw [hje] at hv2
   refine kL <| kx [] [(0, some (bm jC (o2.set (i + b.length) c)))] (zM <| zM <| zM <| zE (vG kJ) <| zE (vU (i + b.length)) <| zM <| zE (nO gH yU c) <| zE (eF kJ (i + b.length)) <| zT (oSp qK (i + b.length) c) <| zZ) ?_
   refine kx [(20, (jW (i + 1)))] [] (zE (vU (i + 1)) <| zM <| zZ) ?_
   exact ⟨(i + 1, o2.set (i + b.length) c), wk, (by obtain ⟨q1, q2, q3, q4⟩ := times_row hdo2 (by omega) hlen2 hz2 hc hv2; exact ⟨q1, q2, by omega, q3, q4⟩), (by first | omega | (dsimp only; omega))⟩
 ·replace h1 := of_decide_eq_false h1
  have hie : i = a.length := by omega
  rw [hie, List.take_length] at hv
  refine kL <| jB <| kx [(4, (.own 0 140 1 ((ofNat (val out)).length)))] [] (zM <| zR ⟨_, e_trimO out (by exact rfl) (by exact rfl) qV hdo (by omega), by kernel_rfl⟩ <| zM <| zZ) ?_
  rw [← hv]
  refine jG ⟨4, 0, rfl, rfl, (bm jC out), rfl, ?_⟩
  exact own_prefix _ (trim_take hdo)
end Go.Proofs.YtnajallgoaiahaaGreatDoor
