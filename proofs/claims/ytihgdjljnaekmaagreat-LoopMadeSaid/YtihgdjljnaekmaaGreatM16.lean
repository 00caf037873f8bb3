/- Part 16 of a proof: rules, plain facts, and functions walked. -/
import Derived.Test.YtihgdjljnaekmaaGreatM15
import Derived.Test.YtihgdjljnaekmaaGreatM11
import Derived.Test.YtihgdjljnaekmaaGreatM10
import Derived.Test.YtihgdjljnaekmaaGreatChecked
import Derived.RangeFuncBox
import Derived.Shelf.Abstract
import Derived.OwnWalkIn
import Derived.TacticsInMore
import Derived.LoopNIn
import Derived.LoopIn
namespace Go.Proofs.YtihgdjljnaekmaaGreat
open Go.Fid
set_option maxRecDepth 4000
set_option linter.unusedVariables false
set_option linter.unusedSimpArgs false
theorem bo4 : boolB Tryz.prog 4 = true := by kernel_rfl
theorem cb104 : callB Tryz.prog 104 = true := by kernel_rfl
theorem cb106 : callB Tryz.prog 106 = true := by kernel_rfl
theorem cb120 : callB Tryz.prog 120 = true := by kernel_rfl
theorem cb139 : callB Tryz.prog 139 = true := by kernel_rfl
theorem cb140 : callB Tryz.prog 140 = true := by kernel_rfl
theorem cb157 : callB Tryz.prog 157 = true := by kernel_rfl
theorem cb177 : callB Tryz.prog 177 = true := by kernel_rfl
theorem un3 : (Tryz.prog.underlying 3).isSome = true := by kernel_rfl
theorem t_sign (x : kG) (hx : x.gs.length ≤ 1099511627776) : jZ Tryz.prog 139 [(jJ x)] (.val (.int .i64 ((kF (jS x))))) := by
 refine jL Tryz.func139 rfl cb139 rfl ?_
 show qS _ _ _ _ ⟨[(0, (.d (jJ x)))], []⟩
 refine jA <| kx [(1, (.ref 0 0))] [(0, some (bx (jJ x)))] (zN (zL 0) <| zM <| zZ) ?_
 refine jA <| jH <| jA <| kx [(3, (vb ((((jV x).length : Nat) : Int) == 0)))] [] (zR (kT jM) <| zE (kD (yB x (by omega))) <| zE (xA kC (L := (jV x))) <| zE gF <| zM <| zZ) ?_
 refine jG (b := ((((jV x).length : Nat) : Int) == 0)) rfl (fun h1 => ?_) (fun h1 => ?_)
 ·replace h1 := eq_of_beq h1
  refine jA <| kx [(2, (jQ 0))] [] (zM <| zZ) ?_
  refine jI ⟨_, (.tmp (d := (.val (.int .i64 (0)))) rfl .nil), ?_⟩
  rw [toZ_nil h1]; rfl
 ·replace h1 := ne_of_beq_false h1
  refine jA <| kx [(8, (vb x.neg))] [] (zE (kQ uW) <| zR (kM cZ) <| zM <| zZ) ?_
  refine jG (b := x.neg) rfl (fun h2 => ?_) (fun h2 => ?_)
  ·refine jA <| kx [(2, (vi (-1)))] [] (zM <| zZ) ?_
   refine jI ⟨_, (.tmp (d := (.val (.int .i64 (-1)))) rfl .nil), ?_⟩
   rw [sign_neg h1 h2]; rfl
  ·refine jF <| jA <| kx [(2, (jQ 1))] [] (zM <| zZ) ?_
   refine jI ⟨_, (.tmp (d := (.val (.int .i64 (1)))) rfl .nil), ?_⟩
   rw [sign_pos h1 h2]; rfl
theorem t_neg (x : kG) (hx : x.gs.length ≤ 1099511627776) : jZ Tryz.prog 177 [(jJ x)] (jJ (jR (-jS x))) := by
 refine jL Tryz.func177 rfl cb177 rfl ?_
 show qS _ _ _ _ ⟨[(0, (.d (jJ x)))], []⟩
 refine jA <| kx [(1, (.ref 0 0)), (2, (.ref 1 0))] [(0, some (bx (jJ x))), (1, some (bx (jJ (kG.mk false []))))] (zN (zL 0) <| zN (uQ 1 uN uM) <| zZ) ?_
 refine jA <| kd [] [(1, some (bx (jJ (vH (!x.neg) (val (jV x))))))] mo (wE (kQ uW) <| wR (kM cZ) <| wE oNt <| wR (kT jM) <| wE (kD (yB x (by omega))) <| wE (kD (t_clone (jV x) (Nat.le_trans (xZ _) (by omega)))) <| wE (kD (mC (!x.neg) (jV x) (kR _).1 (Nat.le_trans (xZ _) (by omega)))) <| wT (kZ jM) <| wZ) ?_
 refine jI ⟨_, (kS (cs := (bx (jJ (vH (!x.neg) (val (jV x)))))) (d := (jJ (vH (!x.neg) (val (jV x))))) rfl rfl jM rfl rfl .nil), ?_⟩
 rw [← neg_eq]; rfl
theorem t_sum (b : Bool) (l : List Nat) (c : Bool) (m : List Nat) (hl : zC l) (hm : zC m) (hll : l.length ≤ 1099511627776) (hlm : m.length ≤ 1099511627776) : jZ Tryz.prog 157 [(.val (.bool (b))), (.sl 135 1 (List.map jD l)), (.val (.bool (c))), (.sl 135 1 (List.map jD m))] (jJ (jR (nG b (val l) + nG c (val m)))) := by
 refine jL Tryz.func157 rfl cb157 rfl ?_
 show qS _ _ _ _ ⟨[(0, (vb b)), (1, (vl 135 1 jD l)), (2, (vb c)), (3, (vl 135 1 jD m))], []⟩
 refine jA <| kx [(8, (.ref 0 0))] [(0, some (bx (jJ (kG.mk false []))))] (zN (uQ 0 uN uM) <| zZ) ?_
 refine jA <| jH <| jA <| kx [(9, (vb (b == c)))] [] (zM <| zM <| zE (oEb bo4) <| zM <| zZ) ?_
 refine jG (b := (b == c)) rfl (fun h1 => ?_) (fun h1 => ?_)
 ·replace h1 := eq_of_beq h1
  refine jA <| kx [] [(0, some (bx (jJ (vH b (val (ofNat (val l + val m)))))))] (zM <| zM <| zM <| zE (kD (t_plus l m hl.1 hm.1 (by omega) (by omega))) <| zE (kD (mC b (ofNat (val l + val m)) (jY _) (Nat.le_trans (add_len hl.1 hm.1) (by omega)))) <| zT (kZ jM) <| zZ) ?_
  refine jI ⟨_, (kS (cs := (bx (jJ (vH b (val (ofNat (val l + val m))))))) (d := (jJ (vH b (val (ofNat (val l + val m)))))) rfl rfl jM rfl rfl .nil), ?_⟩
  rw [← sum_same h1]; rfl
 ·replace h1 := ne_of_beq_false h1
  refine jA <| kx [(18, (vb (decide (0 ≤ (qY ((val l : Nat) : Int) ((val m : Nat) : Int))))))] [] (zM <| zM <| zE (kD (t_compare l m (by assumption) (by assumption) (by omega))) <| zE oGe <| zM <| zZ) ?_
  refine jG rfl (fun h2 => ?_) (fun h2 => ?_)
  ·replace h2 := of_decide_eq_true h2
   refine jA <| kx [] [(0, some (bx (jJ (vH b (val (ofNat (val l - val m)))))))] (zM <| zM <| zM <| zE (kD (t_minus l m hl.1 hm.1 (by have := dW h2; omega) (by omega))) <| zE (kD (mC b (ofNat (val l - val m)) (jY _) (Nat.le_trans (sub_len hl.1) (by omega)))) <| zT (kZ jM) <| zZ) ?_
   refine jI ⟨_, (kS (cs := (bx (jJ (vH b (val (ofNat (val l - val m))))))) (d := (jJ (vH b (val (ofNat (val l - val m)))))) rfl rfl jM rfl rfl .nil), ?_⟩
   rw [← sum_first h1 (by have := dW h2; omega)]; rfl
  ·replace h2 := of_decide_eq_false h2
   refine jF <| jA <| kx [] [(0, some (bx (jJ (vH c (val (ofNat (val m - val l)))))))] (zM <| zM <| zM <| zE (kD (t_minus m l hm.1 hl.1 (by have := cmpI_lt h2; omega) (by omega))) <| zE (kD (mC c (ofNat (val m - val l)) (jY _) (Nat.le_trans (sub_len hm.1) (by omega)))) <| zT (kZ jM) <| zZ) ?_
   refine jI ⟨_, (kS (cs := (bx (jJ (vH c (val (ofNat (val m - val l))))))) (d := (jJ (vH c (val (ofNat (val m - val l)))))) rfl rfl jM rfl rfl .nil), ?_⟩
   rw [← sum_second h1 (by have := cmpI_lt h2; omega)]; rfl
theorem t_add (x : kG) (y : kG) (hx : x.gs.length ≤ 1099511627776) (hy : y.gs.length ≤ 1099511627776) : jZ Tryz.prog 120 [(jJ x), (jJ y)] (jJ (jR (jS x + jS y))) := by
 refine jL Tryz.func120 rfl cb120 rfl ?_
 show qS _ _ _ _ ⟨[(0, (.d (jJ x))), (1, (.d (jJ y)))], []⟩
 refine jA <| kx [(2, (.ref 0 0)), (3, (.ref 1 0)), (4, (.ref 2 0))] [(0, some (bx (jJ x))), (1, some (bx (jJ y))), (2, some (bx (jJ (kG.mk false []))))] (zN (zL 0) <| zN (zL 1) <| zN (uQ 2 uN uM) <| zZ) ?_
 refine jA <| kd [] [(2, some (bx (jJ (jR (nG x.neg (val (jV x)) + nG y.neg (val (jV y)))))))] mo (wE (kQ uW) <| wR (kM cZ) <| wR (kT jM) <| wE (kD (yB x (by omega))) <| wE (kQ uW) <| wR (kM cZ) <| wR (kT jM) <| wE (kD (yB y (by omega))) <| wE (kD (t_sum x.neg (jV x) y.neg (jV y) (kR _) (kR _) (Nat.le_trans (xZ _) (by omega)) (Nat.le_trans (xZ _) (by omega)))) <| wT (kZ jM) <| wZ) ?_
 refine jI ⟨_, (kS (cs := (bx (jJ (jR (nG x.neg (val (jV x)) + nG y.neg (val (jV y))))))) (d := (jJ (jR (nG x.neg (val (jV x)) + nG y.neg (val (jV y)))))) rfl rfl jM rfl rfl .nil), ?_⟩
 rfl
theorem t_mul (x : kG) (y : kG) (hx : x.gs.length ≤ 1099511627776) (hy : y.gs.length ≤ 1099511627776) : jZ Tryz.prog 106 [(jJ x), (jJ y)] (jJ (jR (jS x * jS y))) := by
 refine jL Tryz.func106 rfl cb106 rfl ?_
 show qS _ _ _ _ ⟨[(0, (.d (jJ x))), (1, (.d (jJ y)))], []⟩
 refine jA <| kx [(2, (.ref 0 0)), (3, (.ref 1 0)), (4, (.ref 2 0))] [(0, some (bx (jJ x))), (1, some (bx (jJ y))), (2, some (bx (jJ (kG.mk false []))))] (zN (zL 0) <| zN (zL 1) <| zN (uQ 2 uN uM) <| zZ) ?_
 refine jA <| kd [] [(2, some (bx (jJ (vH (!(x.neg == y.neg)) (val (ofNat (val (jV x) * val (jV y))))))))] mo (wE (kQ uW) <| wR (kM cZ) <| wE (kQ uW) <| wR (kM cZ) <| wE (oNb bo4) <| wR (kT jM) <| wE (kD (yB x (by omega))) <| wR (kT jM) <| wE (kD (yB y (by omega))) <| wE (kD (t_times (jV x) (jV y) (kR _).1 (kR _).1 (Nat.le_trans (xZ _) (by omega)) (Nat.le_trans (xZ _) (by omega)))) <| wE (kD (mC (!(x.neg == y.neg)) (ofNat (val (jV x) * val (jV y))) (jY _) (Nat.le_trans (mul_len (kR _).1 (kR _).1) (by have := xZ x; have := xZ y; omega)))) <| wT (kZ jM) <| wZ) ?_
 refine jI ⟨_, (kS (cs := (bx (jJ (vH (!(x.neg == y.neg)) (val (ofNat (val (jV x) * val (jV y)))))))) (d := (jJ (vH (!(x.neg == y.neg)) (val (ofNat (val (jV x) * val (jV y))))))) rfl rfl jM rfl rfl .nil), ?_⟩
 rw [show jS x * jS y = _ from rfl, jS, jS, ← mul_eq]; rfl
theorem t_of (n : Int) (hlo : -9223372036854775808 ≤ n) (hhi : n ≤ 9223372036854775807) : jZ Tryz.prog 104 [(.val (.int .i64 (n)))] (jJ (jR n)) := by
 refine jL Tryz.func104 rfl cb104 rfl ?_
 show qS _ _ _ _ ⟨[(0, (vi n))], []⟩
 refine jA <| kx [(2, (.ref 0 0))] [(0, some (bx (jJ (kG.mk false []))))] (zN (uQ 0 uN uM) <| zZ) ?_
 refine jA <| kx [(3, (xX ((n % 18446744073709551616).toNat)))] [] (zM <| zE (yV un3 xC ((n % 18446744073709551616).toNat) (hr := by exact (conv_u64 _))) <| zM <| zZ) ?_
 refine jA <| jA <| kx [(7, (vb (decide (n < 0))))] [] (zM <| zE uP <| zZ) ?_
 refine jG (b := decide (n < 0)) rfl (fun h1 => ?_) (fun h1 => ?_)
 ·replace h1 := of_decide_eq_true h1
  refine kx [(3, (xX ((-n).toNat)))] [] (zM <| zE (oNg (((-n).toNat : Nat) : Int) (hr := by exact (neg_u64 (by assumption) hlo))) <| zM <| zZ) ?_
  refine jA <| kx [] [(0, some (bx (jJ (vH (decide (n < 0)) (val (ofNat ((-n).toNat)))))))] (zM <| zE uP <| zM <| zE (kD (t_split ((-n).toNat) (by omega))) <| zE (kD (mC (decide (n < 0)) (ofNat ((-n).toNat)) (jY _) (Nat.le_trans (dL (by omega)) (by decide)))) <| zT (kZ jM) <| zZ) ?_
  refine jI ⟨_, (kS (cs := (bx (jJ (vH (decide (n < 0)) (val (ofNat ((-n).toNat))))))) (d := (jJ (vH (decide (n < 0)) (val (ofNat ((-n).toNat)))))) rfl rfl jM rfl rfl .nil), ?_⟩
  rw [of_neg h1]; rfl
 ·replace h1 := of_decide_eq_false h1
  refine jF <| jA <| kx [] [(0, some (bx (jJ (vH (decide (n < 0)) (val (ofNat ((n % 18446744073709551616).toNat)))))))] (zM <| zE uP <| zM <| zE (kD (t_split ((n % 18446744073709551616).toNat) (by omega))) <| zE (kD (mC (decide (n < 0)) (ofNat ((n % 18446744073709551616).toNat)) (jY _) (Nat.le_trans (dL (by omega)) (by decide)))) <| zT (kZ jM) <| zZ) ?_
  refine jI ⟨_, (kS (cs := (bx (jJ (vH (decide (n < 0)) (val (ofNat ((n % 18446744073709551616).toNat))))))) (d := (jJ (vH (decide (n < 0)) (val (ofNat ((n % 18446744073709551616).toNat)))))) rfl rfl jM rfl rfl .nil), ?_⟩
  rw [of_pos h1 hhi]; rfl
theorem t_compareI (x : kG) (y : kG) (hx : x.gs.length ≤ 1099511627776) (hy : y.gs.length ≤ 1099511627776) : jZ Tryz.prog 140 [(jJ x), (jJ y)] (.val (.int .i64 ((qY (jS x) (jS y))))) := by
 refine jL Tryz.func140 rfl cb140 rfl ?_
 show qS _ _ _ _ ⟨[(0, (.d (jJ x))), (1, (.d (jJ y)))], []⟩
 refine jA <| kx [(2, (.ref 0 0)), (3, (.ref 1 0))] [(0, some (bx (jJ x))), (1, some (bx (jJ y)))] (zN (zL 0) <| zN (zL 1) <| zM <| zZ) ?_
 refine jA <| jA <| kd [(5, (vi (kF (jS x)))), (6, (vi (kF (jS y))))] [] mo (wR (kT jM) <| wE (kD (t_sign x (by omega))) <| wR (kT jM) <| wE (kD (t_sign y (by omega))) <| wM <| wM <| wZ) ?_
 refine jA <| kx [(14, (vb ((kF (jS x)) != (kF (jS y)))))] [] (zM <| zM <| zE cG <| zZ) ?_
 refine jG (b := ((kF (jS x)) != (kF (jS y)))) rfl (fun h1 => ?_) (fun h1 => ?_)
 ·replace h1 := bne_iff_ne.1 h1
  refine jA <| kx [(4, (vi (qY (kF (jS x)) (kF (jS y)))))] [] (zM <| zM <| zE (kD (t_cmp_int (kF (jS x)) (kF (jS y)))) <| zM <| zZ) ?_
  refine jI ⟨_, (.tmp (d := (.val (.int .i64 ((qY (kF (jS x)) (kF (jS y))))))) rfl .nil), ?_⟩
  rw [← cmp_sign h1]; rfl
 ·replace h1 := bne_eq_false_iff_eq.1 h1
  refine jF <| jA <| kd [(7, (vi (qY ((val (jV x) : Nat) : Int) ((val (jV y) : Nat) : Int))))] [] mo (wR (kT jM) <| wE (kD (yB x (by omega))) <| wR (kT jM) <| wE (kD (yB y (by omega))) <| wE (kD (t_compare (jV x) (jV y) (kR _) (kR _) (Nat.le_trans (xZ _) (by omega)))) <| wM <| wZ) ?_
  refine jA <| jA <| kx [(24, (vb x.neg))] [] (zE (kQ uW) <| zR (kM cZ) <| zZ) ?_
  refine jG (b := x.neg) rfl (fun h2 => ?_) (fun h2 => ?_)
  ·refine jA <| kx [(4, (vi (-(qY ((val (jV x) : Nat) : Int) ((val (jV y) : Nat) : Int)))))] [] (zM <| zE (oNg (-(qY ((val (jV x) : Nat) : Int) ((val (jV y) : Nat) : Int))) (hr := by exact (wi64 (by omega) (by have := cmpI_range ((val (jV x) : Nat) : Int) ((val (jV y) : Nat) : Int); omega) (by have := cmpI_range ((val (jV x) : Nat) : Int) ((val (jV y) : Nat) : Int); omega)))) <| zM <| zZ) ?_
   refine jI ⟨_, (.tmp (d := (.val (.int .i64 (-(qY ((val (jV x) : Nat) : Int) ((val (jV y) : Nat) : Int)))))) rfl .nil), ?_⟩
   rw [← cmp_neg h1 h2]; rfl
  ·refine jF <| jA <| kx [(4, (vi (qY ((val (jV x) : Nat) : Int) ((val (jV y) : Nat) : Int))))] [] (zM <| zM <| zZ) ?_
   refine jI ⟨_, (.tmp (d := (.val (.int .i64 ((qY ((val (jV x) : Nat) : Int) ((val (jV y) : Nat) : Int)))))) rfl .nil), ?_⟩
   rw [← cmp_pos h1 h2]; rfl
end Go.Proofs.YtihgdjljnaekmaaGreat
namespace Go.Proofs.YtihgdjljnaekmaaGreat
open Go.RowKit Go.Shelf
attribute [local go_sem] Oper.semAt_some
set_option maxRecDepth 100000 in
set_option maxHeartbeats 2000000 in
theorem trimV (b cap : Nat) (l : List Nat) (hd : Go.Fid.Dig l) (h0 : Go.Fid.val l ≠ 0) (w : World) (hc : ∀ i, i < l.length → w.cell? ⟨b, i, none⟩ = some (.int .u32 ((l.getD i 0 : Nat) : Int))) (h1 : l.length ≤ cap) (h2 : cap ≤ maxLen) :
    CallsIn Fence.wide 1 Tryz.prog 179 #[.slice (some ⟨b, 0, none⟩) l.length cap] w fun e w' => e = .returned (.slice (some ⟨b, 0, none⟩) (Go.Fid.ofNat (Go.Fid.val l)).length cap) ∧ w' = w := by
  refine callsIn_of_wp Tryz.func179 rfl trivial ?_ rfl
  simp only [Tryz.ntmps179, List.size_toArray, List.length_cons, List.length_nil, Nat.reduceAdd, Nat.reduceSub, Array.replicate_succ, Array.replicate_zero, List.push_toArray, List.append_toArray, List.nil_append, List.cons_append]
  gi_wp2
  gi_loopw [0] (fun i wr => ∃ j : Nat, j ≤ l.length ∧ 0 < j ∧ i = .slice (some ⟨b, 0, none⟩) j cap ∧ Go.Fid.val (l.take j) = Go.Fid.val l ∧ wr = w)
    (fun i _ => match i with | .slice _ n _ => n | _ => 0)
  case atStart =>
    have hl : 0 < l.length := by
      rcases l with _ | ⟨d, l⟩
      · exact absurd rfl h0
      · simp
    exact ⟨l.length, Nat.le_refl _, hl, rfl, by rw [List.take_length], rfl⟩
  case round =>
    obtain ⟨j, hj, hj0, rfl, hv, rfl⟩ := hrel
    have hcj := hc (j - 1) (by omega)
    have hj63 : (j : Int) ≤ 9223372036854775807 := by unfold maxLen at h2; omega
    have hv2 := Go.Fid.val_take_succ l (j - 1)
    rw [show j - 1 + 1 = j by omega] at hv2
    by_cases hz : l.getD (j - 1) 0 = 0
    · rw [hz] at hcj hv2
      have h1j : 0 < j - 1 := by
        rcases Nat.eq_zero_or_pos (j - 1) with e | e
        · rw [e, List.take_zero, Go.Fid.val_nil, Nat.mul_zero] at hv2
          omega
        · exact e
      gi_wp2
      go_roundw
      case rel => exact ⟨j - 1, by omega, h1j, by simp, by rw [← hv, hv2]; simp, trivial⟩
      case measure => simp; omega
    · gi_wp2
      · rename_i hq
        exfalso
        simp [List.getD] at hz hq
        omega
      · refine ⟨rfl, .slice (some ⟨b, 0, none⟩) j cap, by simp [results, Tryz.results179, go_sem], ?_⟩
        have e : Go.Fid.ofNat (Go.Fid.val l) = l.take j := by
          rw [← hv]
          refine (Go.Fid.can_eq ⟨hd.take j, ?_⟩).symm
          unfold Go.Fid.Top
          have h5 : (l.take j).length - 1 = j - 1 := by rw [List.length_take]; omega
          rw [h5]
          have h6 : j - 1 < l.length := by omega
          simp [List.getD, List.getElem?_eq_getElem h6, List.getElem?_take_of_lt (show j - 1 < j by omega)] at hz ⊢
          exact hz
        rw [e, List.length_take, Nat.min_eq_left hj]
        exact ⟨rfl, rfl⟩
theorem trim_cb : Go.Fid.callB Tryz.prog 179 = true := by kernel_rfl
open Go.Fid in
theorem e_trimO {o : Oper} {S : Nat → SV} {x : Operand} {ats : Array TypeId} {k T m : Nat} (l : List Nat) (ho : o.op = .call { callee := .value (.func 179), args := #[x], argTypes := ats }) (hx : ev S x = .own k T 1 m) (hl : l.length = m) (hd : Dig l) (h0 : val l ≠ 0) :
    qR Tryz.prog o S [(k, l.map (fun g => SV.d (jD g)))] (.own k T 1 (ofNat (val l)).length) :=
  fun a w D β Q hop hrd hD => by
    have hxv := hop x (by simp [ho, Op.operands, Call.operands])
    rw [hx] at hxv
    have hm : 0 < m := by
      rcases Nat.eq_zero_or_pos m with e | e
      · rw [e] at hl
        have := List.eq_nil_of_length_eq_zero hl
        subst this
        exact absurd rfl h0
      · exact e
    have hle : (ofNat (val l)).length ≤ l.length := qJ (uX hd)
    rcases hxv with ⟨_, e, _⟩ | ⟨b, cap, vs, h1, h2, h3, h4, h5, h6⟩
    · omega
    · have hblk := hrd (k, l.map (fun g => SV.d (jD g))) (by simp)
      rcases hblk with ⟨g1, _⟩ | ⟨b', vs', T', g1, g2, g3, g4, g5⟩
      · rw [h1] at g1; cases g1
      · obtain rfl : b = b' := by rw [h1] at g1; injection g1
        rw [h3] at g2
        injection g2 with g2
        injection g2 with g2 gT
        subst g2; subst gT
        have hcell : ∀ i, w.cell? ⟨b, i, none⟩ = vs[i]? := fun i => cell_of_row w b i vs T (0, 0) h3
        have hrun : (execOp a.eval o).run Tryz.prog w = .ok (.enter 179 #[.slice (some ⟨b, 0, none⟩) l.length cap]) w := by
          simp only [execOp, ho, resolve, Deferred.ofValue, Act.eval, Sem.run_bind, Sem.run_pure, Result.andThen_ok, invoke, Array.empty_append, Array.append_empty]
          rw [vU trim_cb]
          simp [h2, hl]
        refine mS hrun (((callsIn_wide (n := 1)).1 (trimV b cap l hd h0 w (fun i hi => ?_) (by omega) h6)).mono fun e w' h => ?_)
        · rw [hcell]
          obtain ⟨u, e1, _, e3⟩ := g4 i (.d (jD (l.getD i 0))) (by rw [List.getElem?_map, List.getElem?_eq_getElem hi]; simp [List.getD, List.getElem?_eq_getElem hi])
          rw [e1, qF e3]
        · obtain ⟨he, rfl⟩ := h
          exact ⟨_, he, _, D, rfl, Below.refl _ _, ⟨fun _ _ _ h => h, fun _ _ _ h => .inl h⟩, .inr ⟨b, cap, vs, h1, rfl, h3, h4, by omega, h6⟩⟩
open Go.Fid in
theorem trim_take {l : List Nat} (hd : Dig l) : ofNat (val l) = l.take (ofNat (val l)).length := by
  have h1 : ∀ (n : Nat) (l : List Nat), l.length = n → Dig l → ofNat (val l) = l.take (ofNat (val l)).length := by
    intro n
    induction n with
    | zero => intro l hl _; rw [List.eq_nil_of_length_eq_zero hl]; rw [val_nil, uC]; rfl
    | succ n ih =>
      intro l hl hd
      have h2 := val_take_succ l n
      rw [← hl, List.take_length] at h2
      by_cases hz : l.getD n 0 = 0
      · rw [hz, Nat.mul_zero, Nat.add_zero] at h2
        have h3 := ih (l.take n) (by rw [List.length_take]; omega) (hd.take n)
        rw [← h2, List.take_take] at h3
        have h4 : (ofNat (val l)).length ≤ n := by
          rw [h2]; exact qJ (by have := uX (hd.take n); rwa [List.length_take, Nat.min_eq_left (by omega)] at this)
        rw [Nat.min_eq_left h4] at h3
        exact h3
      · have h3 : zC l := ⟨hd, by
          unfold Top
          rw [show l.length - 1 = n by omega]
          have h6 : n < l.length := by omega
          simp [List.getD, List.getElem?_eq_getElem h6] at hz ⊢
          exact hz⟩
        rw [← can_eq h3, List.take_length]
  exact h1 _ l rfl hd
end Go.Proofs.YtihgdjljnaekmaaGreat
namespace Go.Proofs.YtihgdjljnaekmaaGreat
open Go.Fid
set_option maxRecDepth 4000
set_option linter.unusedVariables false
set_option linter.unusedSimpArgs false
theorem cb196 : callB Tryz.prog 196 = true := by kernel_rfl
theorem ze47 : vF Tryz.prog 47 = some [.slice none 0 0] := by kernel_rfl
theorem zo47 : mV [.slice none 0 0] [.sl 135 1 []] := by simp [mV, Value.oneCell']
theorem t_short (a : List Nat) (d : Nat) (hda : Dig a) (hd0 : 0 < d) (hd1 : d ≤ 1000000000) (hla : a.length ≤ 17592186044416) : jZ Tryz.prog 196 [(.sl 135 1 (List.map jD a)), (.val (.int .u32 (((d : Nat) : Int))))] (.tup [(.sl 135 1 (List.map jD (ofNat (val a / d)))), (.val (.int .u32 ((((val a % d) : Nat) : Int))))]) := by
 refine jL Tryz.func196 rfl cb196 rfl ?_
 show qS _ _ _ _ ⟨[(0, (vl 135 1 jD a)), (1, (dC d))], []⟩
 refine jA <| kx [(3, (.ref 0 0)), (4, (.ref 1 0)), (5, (dC 0))] [(0, some (bx (.val (.int .u32 (((d : Nat) : Int)))))), (1, some (bx (.sl 135 1 (List.map jD []))))] (zN (zL 0) <| zN (uQ 1 ze47 zo47) <| zM <| zZ) ?_
 refine jA <| kx [] [(1, some [(.own 2 135 1 a.length)]), (2, some (bm jD (List.replicate a.length 0)))] (zM <| zE (xA kC) <| zN (oMk 2 jD (0 : Nat) a.length a.length kC uU xP gB) <| zT (oSo xE) <| zZ) ?_
 refine jA <| kx [(6, (.ref 3 0))] [(3, some (bx (.val (.int .u64 (0)))))] (zH (uQ 3 ze180 zo180) <| zT (kZ dR) <| zZ) ?_
 refine jA <| pwp_backL backs cb158 rfl 7 jD a 0 (fun (q, vG) => ⟨[(3, (.ref 0 0)), (4, (.ref 1 0)), (5, (dC 0)), (6, (.ref 3 0))], [(0, some (bx (.val (.int .u32 (((d : Nat) : Int)))))), (1, some [(.own 2 135 1 a.length)]), (2, some (bm jD q)), (3, some (bx (.val (.int .u64 (((vG : Nat) : Int))))))]⟩) (fun (j : Nat) (q, vG) => q.length = a.length ∧ Dig q ∧ vG < d ∧ val (a.drop (a.length - j)) = val (q.drop (a.length - j)) * d + vG) (List.replicate a.length 0, 0) rfl rfl rfl rfl rfl rfl rfl rfl rfl rfl rfl rfl (fun _ => rfl) (fun _ => rfl) wk ⟨by simp, vX _, hd0, by simp [val, mN]⟩ (by omega) ?_ ?_
 ·rintro rl j ⟨q, vG⟩ hj ⟨qU, hdq, hr, hv⟩
  have hg := hda.getD (a.length - 1 - j)
  obtain ⟨hb1, hb2⟩ := short_bound hr hd1 hg
  refine jA <| kx [(7, (jQ (a.length - 1 - j)))] [] (zM <| zZ) ?_
  refine kx [(8, (dC (a.getD (a.length - 1 - j) 0)))] [] (zM <| zZ) ?_
  refine jH <| jA <| kx [(9, (xX ((vG * 1000000000) + (a.getD (a.length - 1 - j) 0))))] [] (zR (kM dR) <| zE (oMl (vG * 1000000000)) <| zM <| zE (yV vZ xC (a.getD (a.length - 1 - j) 0)) <| zE (qQ ((vG * 1000000000) + (a.getD (a.length - 1 - j) 0))) <| zM <| zZ) ?_
  refine kd [] [(2, some (bm jD (q.set (a.length - 1 - j) (((vG * 1000000000) + (a.getD (a.length - 1 - j) 0)) / d)))), (3, some (bx (.val (.int .u64 ((((((vG * 1000000000) + (a.getD (a.length - 1 - j) 0)) % d) : Nat) : Int))))))] mo (wR (kM xE) <| wM <| wM <| wR (kM qD) <| wE (yV vZ xC d) <| wE (oQu (((vG * 1000000000) + (a.getD (a.length - 1 - j) 0)) / d)) <| wE (yV zU zP (((vG * 1000000000) + (a.getD (a.length - 1 - j) 0)) / d)) <| wM <| wR (kM qD) <| wE (yV vZ xC d) <| wE (oRe (((vG * 1000000000) + (a.getD (a.length - 1 - j) 0)) % d)) <| wE (dT kC (a.length - 1 - j)) <| wT (oSp qD (a.length - 1 - j) (((vG * 1000000000) + (a.getD (a.length - 1 - j) 0)) / d)) <| wT (kZ dR) <| wZ) ?_
  exact ⟨(q.set (a.length - 1 - j) ((vG * 1000000000 + a.getD (a.length - 1 - j) 0) / d), (vG * 1000000000 + a.getD (a.length - 1 - j) 0) % d), wk, ⟨by simpa using qU, hdq.set _ hb2, Nat.mod_lt _ hd0, short_step hj qU hv rfl⟩⟩
 ·rintro ⟨q, vG⟩ ⟨qU, hdq, hr, hv⟩
  obtain ⟨e1, e2⟩ := short_end hv hr
  refine jA <| kY (publishB (j := 1) (k := 2) (es := List.map jD q) rfl rfl rfl (uO _ _ (fun _ => rfl)) (uS _ _ qU) (vE _ _ (fun _ => rfl) qU)) ?_
  refine kd [(5, (dC vG))] [(1, some (bx (.sl 135 1 (List.map jD (ofNat (val q))))))] mo (wR (kM xE) <| wE (kD (t_trim q (by assumption) (by omega))) <| wR (kM dR) <| wE (yV zU zP vG) <| wT (kZ xE) <| wM <| wZ) ?_
  refine jI ⟨_, (dY (cs := (bx (.sl 135 1 (List.map jD (ofNat (val q)))))) (d := (.sl 135 1 (List.map jD (ofNat (val q))))) rfl rfl xE rfl rfl (.tmp (d := (.val (.int .u32 (((vG : Nat) : Int))))) rfl .nil)), ?_⟩
  rw [← e1, ← e2]; rfl
theorem o_times (a b : List Nat) (hda : Dig a) (hdb : Dig b) (hla : a.length ≤ 4398046511104) (hlb : b.length ≤ 4398046511104) (h0 : 0 < val a * val b) : TakesO Tryz.prog 150 [(.sl 135 1 (List.map jD a)), (.sl 135 1 (List.map jD b))] 135 1 (ofNat (val a * val b)).length (List.map jD (ofNat (val a * val b))) := by
 refine fn_introO Tryz.func150 rfl cb150 rfl (gS h0) ?_
 show qS _ _ _ _ ⟨[(0, (vl 135 1 jD a)), (1, (vl 135 1 jD b))], []⟩
 refine jA <| kx [] [] (zE (oNl 135 1) <| zZ) ?_
 refine jA <| kx [(5, (.own 0 135 1 (a.length + b.length)))] [(0, some (bm jD (List.replicate (a.length + b.length) 0)))] (zM <| zE (xA kC) <| zM <| zE (xA kC) <| zE (qQ (a.length + b.length)) <| zN (oMk 0 jD (0 : Nat) (a.length + b.length) (a.length + b.length) kC uU xP gB) <| zM <| zZ) ?_
 refine jA <| jA <| kx [(18, (vl 135 1 jD a)), (19, (jQ a.length)), (20, (jQ 0))] [] (zM <| zE (xA kC) <| zM <| zZ) ?_
 refine jH <| kH (α := Nat × List Nat) (fun (i, out) => ⟨[(1, (vl 135 1 jD b)), (5, (.own 0 135 1 (a.length + b.length))), (18, (vl 135 1 jD a)), (19, (jQ a.length)), (20, (jQ i))], [(0, some (bm jD out))]⟩) (fun (i, out) => out.length = a.length + b.length ∧ Dig out ∧ i ≤ a.length ∧ (∀ k, i + b.length ≤ k → out.getD k 0 = 0) ∧ val out = val (a.take i) * val b) (fun (i, out) => a.length - i) (0, List.replicate (a.length + b.length) 0) wk ⟨by simp, vX _, Nat.zero_le _, fun k _ => dK _ k, by simp [val, mN]⟩ ?_
 rintro ⟨i, out⟩ ⟨qU, hdo, hi, hz, hv⟩
 have hai := hda.getD i
 refine jA <| kx [(21, (vb (decide (((i : Nat) : Int) < ((a.length : Nat) : Int)))))] [] (zE uP <| zZ) ?_
 refine jA <| jG rfl (fun h1 => ?_) (fun h1 => ?_)
 ·replace h1 := of_decide_eq_true h1
  refine jF <| jA <| jH <| jA <| kx [(6, (jQ i)), (7, (dC (a.getD i 0)))] [] (zM <| zE (yO kC i (0 : Nat)) <| zE (nB qD) <| zM <| zM <| zZ) ?_
  refine jA <| kx [(8, (xX 0))] [] (zM <| zZ) ?_
  refine jA <| jA <| kx [(25, (vl 135 1 jD b)), (26, (jQ b.length)), (27, (jQ 0))] [] (zM <| zE (xA kC) <| zM <| zZ) ?_
  refine jH <| kH (α := Nat × List Nat × Nat) (fun (j, o2, c) => ⟨[(1, (vl 135 1 jD b)), (5, (.own 0 135 1 (a.length + b.length))), (6, (jQ i)), (7, (dC (a.getD i 0))), (8, (xX c)), (18, (vl 135 1 jD a)), (19, (jQ a.length)), (20, (jQ i)), (25, (vl 135 1 jD b)), (26, (jQ b.length)), (27, (jQ j))], [(0, some (bm jD o2))]⟩) (fun (j, o2, c) => o2.length = a.length + b.length ∧ Dig o2 ∧ j ≤ b.length ∧ c < 1000000000 ∧ (∀ k, i + b.length ≤ k → o2.getD k 0 = 0) ∧ val o2 + pw (i + j) * c = val (a.take i) * val b + pw i * (a.getD i 0 * val (b.take j))) (fun (j, o2, c) => b.length - j) (0, out, 0) wk ⟨qU, hdo, Nat.zero_le _, by decide, hz, by simp [val, hv]⟩ ?_
  rintro ⟨j, o2, c⟩ ⟨hlen2, hdo2, hj, hc, hz2, hv2⟩
  have hbj := hdb.getD j
  have hoj := hdo2.getD (i + j)
  have hpq : a.getD i 0 * b.getD j 0 ≤ 999999999 * 999999999 := Nat.mul_le_mul (by omega) (by omega)
  refine jA <| kx [(28, (vb (decide (((j : Nat) : Int) < ((b.length : Nat) : Int)))))] [] (zE uP <| zZ) ?_
  refine jA <| jG rfl (fun h2 => ?_) (fun h2 => ?_)
  ·replace h2 := of_decide_eq_true h2
   refine jF <| jA <| jH <| jA <| kx [(9, (jQ j)), (10, (dC (b.getD j 0)))] [] (zM <| zE (yO kC j (0 : Nat)) <| zE (nB qD) <| zM <| zM <| zZ) ?_
   refine jA <| kx [(11, (xX (((o2.getD (i + j) 0) + ((a.getD i 0) * (b.getD j 0))) + c)))] [] (zM <| zM <| zM <| zE (qQ (i + j)) <| zE (dT kC (i + j)) <| zR (oLp qD (i + j) (0 : Nat)) <| zE (yV vZ xC (o2.getD (i + j) 0)) <| zM <| zE (yV vZ xC (a.getD i 0)) <| zM <| zE (yV vZ xC (b.getD j 0)) <| zE (oMl ((a.getD i 0) * (b.getD j 0))) <| zE (qQ ((o2.getD (i + j) 0) + ((a.getD i 0) * (b.getD j 0)))) <| zM <| zE (qQ (((o2.getD (i + j) 0) + ((a.getD i 0) * (b.getD j 0))) + c)) <| zM <| zZ) ?_
   refine kx [(8, (xX ((((o2.getD (i + j) 0) + ((a.getD i 0) * (b.getD j 0))) + c) / 1000000000)))] [(0, some (bm jD (o2.set (i + j) ((((o2.getD (i + j) 0) + ((a.getD i 0) * (b.getD j 0))) + c) % 1000000000))))] (zM <| zM <| zM <| zE (qQ (i + j)) <| zM <| zE (oRe ((((o2.getD (i + j) 0) + ((a.getD i 0) * (b.getD j 0))) + c) % 1000000000)) <| zE (yV zU zP ((((o2.getD (i + j) 0) + ((a.getD i 0) * (b.getD j 0))) + c) % 1000000000)) <| zM <| zE (oQu ((((o2.getD (i + j) 0) + ((a.getD i 0) * (b.getD j 0))) + c) / 1000000000)) <| zE (dT kC (i + j)) <| zT (oSp qD (i + j) ((((o2.getD (i + j) 0) + ((a.getD i 0) * (b.getD j 0))) + c) % 1000000000)) <| zM <| zZ) ?_
   refine kx [(27, (jQ (j + 1)))] [] (zE (qQ (j + 1)) <| zM <| zZ) ?_
   exact ⟨(j + 1, o2.set (i + j) ((o2.getD (i + j) 0 + a.getD i 0 * b.getD j 0 + c) % 1000000000), (o2.getD (i + j) 0 + a.getD i 0 * b.getD j 0 + c) / 1000000000), wk, (by obtain ⟨q1, q2⟩ := times_step (by omega) hdo2 hv2 rfl (val_take_succ b j); exact ⟨by simpa using hlen2, q1, by omega, by omega, zero_set (by omega) hz2, q2⟩), (by first | omega | (dsimp only; omega))⟩
  ·replace h2 := of_decide_eq_false h2
   have hje : j = b.length := by omega
   rw [hje] at hv2
   refine jW <| kx [] [(0, some (bm jD (o2.set (i + b.length) c)))] (zM <| zM <| zM <| zE (xA kC) <| zE (qQ (i + b.length)) <| zM <| zE (yV zU zP c) <| zE (dT kC (i + b.length)) <| zT (oSp qD (i + b.length) c) <| zZ) ?_
   refine kx [(20, (jQ (i + 1)))] [] (zE (qQ (i + 1)) <| zM <| zZ) ?_
   exact ⟨(i + 1, o2.set (i + b.length) c), wk, (by obtain ⟨q1, q2, q3, q4⟩ := times_row hdo2 (by omega) hlen2 hz2 hc hv2; exact ⟨q1, q2, by omega, q3, q4⟩), (by first | omega | (dsimp only; omega))⟩
 ·replace h1 := of_decide_eq_false h1
  have hie : i = a.length := by omega
  rw [hie, List.take_length] at hv
  refine jW <| jA <| kx [(4, (.own 0 135 1 ((ofNat (val out)).length)))] [] (zM <| zR ⟨_, e_trimO out (by exact rfl) (by exact rfl) qU hdo (by omega), by kernel_rfl⟩ <| zM <| zZ) ?_
  rw [← hv]
  refine jI ⟨4, 0, rfl, rfl, (bm jD out), rfl, ?_⟩
  exact own_prefix _ (trim_take hdo)
end Go.Proofs.YtihgdjljnaekmaaGreat
