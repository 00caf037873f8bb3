/- Part 15 of a proof: rules, plain facts, and functions walked. -/
import Derived.Test.YtnajallgoaiahaaGreatDoorM14
import Derived.Test.YtnajallgoaiahaaGreatDoorM11
import Derived.Test.YtnajallgoaiahaaGreatDoorM10
import Derived.Test.YtnajallgoaiahaaGreatDoorChecked
import Derived.RangeFuncBox
import Derived.Shelf.Abstract
import Derived.OwnWalkIn
import Derived.TacticsInMore
import Derived.LoopNIn
import Derived.LoopIn
namespace Go.Proofs.YtnajallgoaiahaaGreatDoor
open Go.Fid
set_option maxRecDepth 4000
set_option linter.unusedVariables false
set_option linter.unusedSimpArgs false
theorem bo4 : boolB Tryz.prog 4 = true := by kernel_rfl
theorem cb136 : callB Tryz.prog 136 = true := by kernel_rfl
theorem cb137 : callB Tryz.prog 137 = true := by kernel_rfl
theorem cb139 : callB Tryz.prog 139 = true := by kernel_rfl
theorem cb142 : callB Tryz.prog 142 = true := by kernel_rfl
theorem cb150 : callB Tryz.prog 150 = true := by kernel_rfl
theorem cb225 : callB Tryz.prog 225 = true := by kernel_rfl
theorem cb229 : callB Tryz.prog 229 = true := by kernel_rfl
theorem un3 : (Tryz.prog.underlying 3).isSome = true := by kernel_rfl
theorem t_sign (x : kS) (hx : x.gs.length ≤ 1099511627776) : jT Tryz.prog 136 [(jK x)] (.val (.int .i64 ((uB (jW x))))) := by
 refine jJ Tryz.func136 rfl cb136 rfl ?_
 show qR _ _ _ _ ⟨[(0, (.d (jK x)))], []⟩
 refine jB<|kx [(1, (.ref 0 0))] [(0, some (bx (jK x)))] (zN (xA 0)<|zM<|zZ) ?_
 refine jB<|jG<|jB<|kx [(3, (vb ((((kO x).length : Nat) : Int) == 0)))] [] (zR (kP jV)<|zE (jZ (yZ x (by omega)))<|zE (vX kM (L := (kO x)))<|zE gA<|zM<|zZ) ?_
 refine jF (b := ((((kO x).length : Nat) : Int) == 0)) rfl (fun h1 => ?_) (fun h1 => ?_)
 ·replace h1 := eq_of_beq h1
  refine jB<|kx [(2, (jN 0))] [] (zM<|zZ) ?_
  refine jE ⟨_, (.tmp (d := (.val (.int .i64 (0)))) rfl .nil), ?_⟩
  rw [toZ_nil h1]; rfl
 ·replace h1 := ne_of_beq_false h1
  refine jB<|kx [(8, (vb x.neg))] [] (zE (qD vJ)<|zR (uL sh4)<|zM<|zZ) ?_
  refine jF (b := x.neg) rfl (fun h2 => ?_) (fun h2 => ?_)
  ·refine jB<|kx [(2, (vi (-1)))] [] (zM<|zZ) ?_
   refine jE ⟨_, (.tmp (d := (.val (.int .i64 (-1)))) rfl .nil), ?_⟩
   rw [sign_neg h1 h2]; rfl
  ·refine jD<|jB<|kx [(2, (jN 1))] [] (zM<|zZ) ?_
   refine jE ⟨_, (.tmp (d := (.val (.int .i64 (1)))) rfl .nil), ?_⟩
   rw [sign_pos h1 h2]; rfl
theorem t_neg (x : kS) (hx : x.gs.length ≤ 1099511627776) : jT Tryz.prog 225 [(jK x)] (jK (kJ (-jW x))) := by
 refine jJ Tryz.func225 rfl cb225 rfl ?_
 show qR _ _ _ _ ⟨[(0, (.d (jK x)))], []⟩
 refine jB<|kx [(1, (.ref 0 0)), (2, (.ref 1 0))] [(0, some (bx (jK x))), (1, some (bx (jK (kS.mk false []))))] (zN (xA 0)<|zN (uU 1 zL zP)<|zZ) ?_
 refine jB<|kd [] [(1, some (bx (jK (vW (!x.neg) (val (kO x))))))] mo (wE (qD vJ)<|wR (uL sh4)<|wE fC<|wR (kP jV)<|wE (jZ (yZ x (by omega)))<|wE (jZ (t_clone (kO x) (Nat.le_trans (yX _) (by omega))))<|wE (jZ (nU (!x.neg) (kO x) (qK _).1 (Nat.le_trans (yX _) (by omega))))<|wT (qM jV)<|wZ) ?_
 refine jE ⟨_, (kU (cs := (bx (jK (vW (!x.neg) (val (kO x)))))) (d := (jK (vW (!x.neg) (val (kO x))))) rfl rfl jV rfl rfl .nil), ?_⟩
 rw [← neg_eq]; rfl
theorem t_sum (b : Bool) (l : List Nat) (c : Bool) (m : List Nat) (hl : xX l) (hm : xX m) (hll : l.length ≤ 1099511627776) (hlm : m.length ≤ 1099511627776) : jT Tryz.prog 229 [(.val (.bool (b))), (.sl 140 1 (List.map jC l)), (.val (.bool (c))), (.sl 140 1 (List.map jC m))] (jK (kJ (mZ b (val l) + mZ c (val m)))) := by
 refine jJ Tryz.func229 rfl cb229 rfl ?_
 show qR _ _ _ _ ⟨[(0, (vb b)), (1, (vl 140 1 jC l)), (2, (vb c)), (3, (vl 140 1 jC m))], []⟩
 refine jB<|kx [(8, (.ref 0 0))] [(0, some (bx (jK (kS.mk false []))))] (zN (uU 0 zL zP)<|zZ) ?_
 refine jB<|jG<|jB<|kx [(9, (vb (b == c)))] [] (zM<|zM<|zE (oEb bo4)<|zM<|zZ) ?_
 refine jF (b := (b == c)) rfl (fun h1 => ?_) (fun h1 => ?_)
 ·replace h1 := eq_of_beq h1
  refine jB<|kx [] [(0, some (bx (jK (vW b (val (ofNat (val l + val m)))))))] (zM<|zM<|zM<|zE (jZ (t_plus l m hl.1 hm.1 (by omega) (by omega)))<|zE (jZ (nU b (ofNat (val l + val m)) (kL _) (Nat.le_trans (add_len hl.1 hm.1) (by omega))))<|zT (qM jV)<|zZ) ?_
  refine jE ⟨_, (kU (cs := (bx (jK (vW b (val (ofNat (val l + val m))))))) (d := (jK (vW b (val (ofNat (val l + val m)))))) rfl rfl jV rfl rfl .nil), ?_⟩
  rw [← sum_same h1]; rfl
 ·replace h1 := ne_of_beq_false h1
  refine jB<|kx [(18, (vb (decide (0 ≤ (uX ((val l : Nat) : Int) ((val m : Nat) : Int))))))] [] (zM<|zM<|zE (jZ (t_compare l m (by assumption) (by assumption) (by omega)))<|zE oGe<|zM<|zZ) ?_
  refine jF rfl (fun h2 => ?_) (fun h2 => ?_)
  ·replace h2 := uH h2
   refine jB<|kx [] [(0, some (bx (jK (vW b (val (ofNat (val l - val m)))))))] (zM<|zM<|zM<|zE (jZ (t_minus l m hl.1 hm.1 (by have := iB h2; omega) (by omega)))<|zE (jZ (nU b (ofNat (val l - val m)) (kL _) (Nat.le_trans (sub_len hl.1) (by omega))))<|zT (qM jV)<|zZ) ?_
   refine jE ⟨_, (kU (cs := (bx (jK (vW b (val (ofNat (val l - val m))))))) (d := (jK (vW b (val (ofNat (val l - val m)))))) rfl rfl jV rfl rfl .nil), ?_⟩
   rw [← sum_first h1 (by have := iB h2; omega)]; rfl
  ·replace h2 := vB h2
   refine jD<|jB<|kx [] [(0, some (bx (jK (vW c (val (ofNat (val m - val l)))))))] (zM<|zM<|zM<|zE (jZ (t_minus m l hm.1 hl.1 (by have := cmpI_lt h2; omega) (by omega)))<|zE (jZ (nU c (ofNat (val m - val l)) (kL _) (Nat.le_trans (sub_len hm.1) (by omega))))<|zT (qM jV)<|zZ) ?_
   refine jE ⟨_, (kU (cs := (bx (jK (vW c (val (ofNat (val m - val l))))))) (d := (jK (vW c (val (ofNat (val m - val l)))))) rfl rfl jV rfl rfl .nil), ?_⟩
   rw [← sum_second h1 (by have := cmpI_lt h2; omega)]; rfl
theorem t_add (x : kS) (y : kS) (hx : x.gs.length ≤ 1099511627776) (hy : y.gs.length ≤ 1099511627776) : jT Tryz.prog 150 [(jK x), (jK y)] (jK (kJ (jW x + jW y))) := by
 refine jJ Tryz.func150 rfl cb150 rfl ?_
 show qR _ _ _ _ ⟨[(0, (.d (jK x))), (1, (.d (jK y)))], []⟩
 refine jB<|kx [(2, (.ref 0 0)), (3, (.ref 1 0)), (4, (.ref 2 0))] [(0, some (bx (jK x))), (1, some (bx (jK y))), (2, some (bx (jK (kS.mk false []))))] (zN (xA 0)<|zN (xA 1)<|zN (uU 2 zL zP)<|zZ) ?_
 refine jB<|kd [] [(2, some (bx (jK (kJ (mZ x.neg (val (kO x)) + mZ y.neg (val (kO y)))))))] mo (wE (qD vJ)<|wR (uL sh4)<|wR (kP jV)<|wE (jZ (yZ x (by omega)))<|wE (qD vJ)<|wR (uL sh4)<|wR (kP jV)<|wE (jZ (yZ y (by omega)))<|wE (jZ (t_sum x.neg (kO x) y.neg (kO y) (qK _) (qK _) (Nat.le_trans (yX _) (by omega)) (Nat.le_trans (yX _) (by omega))))<|wT (qM jV)<|wZ) ?_
 refine jE ⟨_, (kU (cs := (bx (jK (kJ (mZ x.neg (val (kO x)) + mZ y.neg (val (kO y))))))) (d := (jK (kJ (mZ x.neg (val (kO x)) + mZ y.neg (val (kO y)))))) rfl rfl jV rfl rfl .nil), ?_⟩
 rfl
theorem t_mul (x : kS) (y : kS) (hx : x.gs.length ≤ 1099511627776) (hy : y.gs.length ≤ 1099511627776) : jT Tryz.prog 142 [(jK x), (jK y)] (jK (kJ (jW x * jW y))) := by
 refine jJ Tryz.func142 rfl cb142 rfl ?_
 show qR _ _ _ _ ⟨[(0, (.d (jK x))), (1, (.d (jK y)))], []⟩
 refine jB<|kx [(2, (.ref 0 0)), (3, (.ref 1 0)), (4, (.ref 2 0))] [(0, some (bx (jK x))), (1, some (bx (jK y))), (2, some (bx (jK (kS.mk false []))))] (zN (xA 0)<|zN (xA 1)<|zN (uU 2 zL zP)<|zZ) ?_
 refine jB<|kd [] [(2, some (bx (jK (vW (!(x.neg == y.neg)) (val (ofNat (val (kO x) * val (kO y))))))))] mo (wE (qD vJ)<|wR (uL sh4)<|wE (qD vJ)<|wR (uL sh4)<|wE (oNb bo4)<|wR (kP jV)<|wE (jZ (yZ x (by omega)))<|wR (kP jV)<|wE (jZ (yZ y (by omega)))<|wE (jZ (t_times (kO x) (kO y) (qK _).1 (qK _).1 (Nat.le_trans (yX _) (by omega)) (Nat.le_trans (yX _) (by omega))))<|wE (jZ (nU (!(x.neg == y.neg)) (ofNat (val (kO x) * val (kO y))) (kL _) (Nat.le_trans (mul_len (qK _).1 (qK _).1) (by have := yX x; have := yX y; omega))))<|wT (qM jV)<|wZ) ?_
 refine jE ⟨_, (kU (cs := (bx (jK (vW (!(x.neg == y.neg)) (val (ofNat (val (kO x) * val (kO y)))))))) (d := (jK (vW (!(x.neg == y.neg)) (val (ofNat (val (kO x) * val (kO y))))))) rfl rfl jV rfl rfl .nil), ?_⟩
 rw [show jW x * jW y = _ from rfl, jW, jW, ← mul_eq]; rfl
theorem t_of (n : Int) (hlo : -9223372036854775808 ≤ n) (hhi : n ≤ 9223372036854775807) : jT Tryz.prog 139 [(.val (.int .i64 (n)))] (jK (kJ n)) := by
 refine jJ Tryz.func139 rfl cb139 rfl ?_
 show qR _ _ _ _ ⟨[(0, (vi n))], []⟩
 refine jB<|kx [(2, (.ref 0 0))] [(0, some (bx (jK (kS.mk false []))))] (zN (uU 0 zL zP)<|zZ) ?_
 refine jB<|kx [(3, (yS ((n % 18446744073709551616).toNat)))] [] (zM<|zE (nY un3 yF ((n % 18446744073709551616).toNat) (hr := by exact (conv_u64 _)))<|zM<|zZ) ?_
 refine jB<|jB<|kx [(7, (vb (decide (n < 0))))] [] (zM<|zE vZ<|zZ) ?_
 refine jF (b := decide (n < 0)) rfl (fun h1 => ?_) (fun h1 => ?_)
 ·replace h1 := uH h1
  refine kx [(3, (yS ((-n).toNat)))] [] (zM<|zE (oNg (((-n).toNat : Nat) : Int) (hr := by exact (neg_u64 (by assumption) hlo)))<|zM<|zZ) ?_
  refine jB<|kx [] [(0, some (bx (jK (vW (decide (n < 0)) (val (ofNat ((-n).toNat)))))))] (zM<|zE vZ<|zM<|zE (jZ (t_split ((-n).toNat) (by omega)))<|zE (jZ (nU (decide (n < 0)) (ofNat ((-n).toNat)) (kL _) (Nat.le_trans (eP (by omega)) (by decide))))<|zT (qM jV)<|zZ) ?_
  refine jE ⟨_, (kU (cs := (bx (jK (vW (decide (n < 0)) (val (ofNat ((-n).toNat))))))) (d := (jK (vW (decide (n < 0)) (val (ofNat ((-n).toNat)))))) rfl rfl jV rfl rfl .nil), ?_⟩
  rw [of_neg h1]; rfl
 ·replace h1 := vB h1
  refine jD<|jB<|kx [] [(0, some (bx (jK (vW (decide (n < 0)) (val (ofNat ((n % 18446744073709551616).toNat)))))))] (zM<|zE vZ<|zM<|zE (jZ (t_split ((n % 18446744073709551616).toNat) (by omega)))<|zE (jZ (nU (decide (n < 0)) (ofNat ((n % 18446744073709551616).toNat)) (kL _) (Nat.le_trans (eP (by omega)) (by decide))))<|zT (qM jV)<|zZ) ?_
  refine jE ⟨_, (kU (cs := (bx (jK (vW (decide (n < 0)) (val (ofNat ((n % 18446744073709551616).toNat))))))) (d := (jK (vW (decide (n < 0)) (val (ofNat ((n % 18446744073709551616).toNat)))))) rfl rfl jV rfl rfl .nil), ?_⟩
  rw [of_pos h1 hhi]; rfl
theorem t_compareI (x : kS) (y : kS) (hx : x.gs.length ≤ 1099511627776) (hy : y.gs.length ≤ 1099511627776) : jT Tryz.prog 137 [(jK x), (jK y)] (.val (.int .i64 ((uX (jW x) (jW y))))) := by
 refine jJ Tryz.func137 rfl cb137 rfl ?_
 show qR _ _ _ _ ⟨[(0, (.d (jK x))), (1, (.d (jK y)))], []⟩
 refine jB<|kx [(2, (.ref 0 0)), (3, (.ref 1 0))] [(0, some (bx (jK x))), (1, some (bx (jK y)))] (zN (xA 0)<|zN (xA 1)<|zM<|zZ) ?_
 refine jB<|jB<|kd [(5, (vi (uB (jW x)))), (6, (vi (uB (jW y))))] [] mo (wR (kP jV)<|wE (jZ (t_sign x (by omega)))<|wR (kP jV)<|wE (jZ (t_sign y (by omega)))<|wM<|wM<|wZ) ?_
 refine jB<|kx [(14, (vb ((uB (jW x)) != (uB (jW y)))))] [] (zM<|zM<|zE nR<|zZ) ?_
 refine jF (b := ((uB (jW x)) != (uB (jW y)))) rfl (fun h1 => ?_) (fun h1 => ?_)
 ·replace h1 := bne_iff_ne.1 h1
  refine jB<|kx [(4, (vi (uX (uB (jW x)) (uB (jW y)))))] [] (zM<|zM<|zE (jZ (t_cmp_int (uB (jW x)) (uB (jW y))))<|zM<|zZ) ?_
  refine jE ⟨_, (.tmp (d := (.val (.int .i64 ((uX (uB (jW x)) (uB (jW y))))))) rfl .nil), ?_⟩
  rw [← cmp_sign h1]; rfl
 ·replace h1 := bne_eq_false_iff_eq.1 h1
  refine jD<|jB<|kd [(7, (vi (uX ((val (kO x) : Nat) : Int) ((val (kO y) : Nat) : Int))))] [] mo (wR (kP jV)<|wE (jZ (yZ x (by omega)))<|wR (kP jV)<|wE (jZ (yZ y (by omega)))<|wE (jZ (t_compare (kO x) (kO y) (qK _) (qK _) (Nat.le_trans (yX _) (by omega))))<|wM<|wZ) ?_
  refine jB<|jB<|kx [(24, (vb x.neg))] [] (zE (qD vJ)<|zR (uL sh4)<|zZ) ?_
  refine jF (b := x.neg) rfl (fun h2 => ?_) (fun h2 => ?_)
  ·refine jB<|kx [(4, (vi (-(uX ((val (kO x) : Nat) : Int) ((val (kO y) : Nat) : Int)))))] [] (zM<|zE (oNg (-(uX ((val (kO x) : Nat) : Int) ((val (kO y) : Nat) : Int))) (hr := by exact (wi64 (by omega) (by have := cmpI_range ((val (kO x) : Nat) : Int) ((val (kO y) : Nat) : Int); omega) (by have := cmpI_range ((val (kO x) : Nat) : Int) ((val (kO y) : Nat) : Int); omega))))<|zM<|zZ) ?_
   refine jE ⟨_, (.tmp (d := (.val (.int .i64 (-(uX ((val (kO x) : Nat) : Int) ((val (kO y) : Nat) : Int)))))) rfl .nil), ?_⟩
   rw [← cmp_neg h1 h2]; rfl
  ·refine jD<|jB<|kx [(4, (vi (uX ((val (kO x) : Nat) : Int) ((val (kO y) : Nat) : Int))))] [] (zM<|zM<|zZ) ?_
   refine jE ⟨_, (.tmp (d := (.val (.int .i64 ((uX ((val (kO x) : Nat) : Int) ((val (kO y) : Nat) : Int)))))) rfl .nil), ?_⟩
   rw [← cmp_pos h1 h2]; rfl
open Go.RowKit Go.Shelf
attribute [local go_sem] Oper.semAt_some
set_option maxRecDepth 100000 in
set_option maxHeartbeats 2000000 in
theorem trimV (b cap : Nat) (l : List Nat) (hd : Go.Fid.Dig l) (h0 : Go.Fid.val l ≠ 0) (w : World) (hc : ∀ i, i < l.length → w.cell? ⟨b, i, none⟩ = some (.int .u32 ((l.getD i 0 : Nat) : Int))) (h1 : l.length ≤ cap) (h2 : cap ≤ maxLen) :
    CallsIn Fence.wide 1 Tryz.prog 251 #[.slice (some ⟨b, 0, none⟩) l.length cap] w fun e w' => e = .returned (.slice (some ⟨b, 0, none⟩) (Go.Fid.ofNat (Go.Fid.val l)).length cap) ∧ w' = w := by
  refine callsIn_of_wp Tryz.func251 rfl trivial ?_ rfl
  simp only [Tryz.ntmps251, List.size_toArray, List.length_cons, List.length_nil, Nat.reduceAdd, Nat.reduceSub, Array.replicate_succ, Array.replicate_zero, List.push_toArray, List.append_toArray, List.nil_append, List.cons_append]
  gi_wp2
  gi_loopw [0] (fun i wr => ∃ j : Nat, j ≤ l.length ∧ 0 < j ∧ i = .slice (some ⟨b, 0, none⟩) j cap ∧ Go.Fid.val (l.take j) = Go.Fid.val l ∧ wr = w)
    (fun i _ => match i with | .slice _ n _ => n | _ => 0)
  case atStart =>
    have hl : 0 < l.length := by
      rcases l with _ | ⟨d, l⟩
      · exact absurd rfl h0
      · simp
    exact ⟨l.length, Nat.le_refl _, hl, rfl, by rw [List.take_length], rfl⟩
  case round =>
    obtain ⟨j, hj, hj0, rfl, hv, rfl⟩ := hrel
    have hcj := hc (j - 1) (by omega)
    have hj63 : (j : Int) ≤ 9223372036854775807 := by unfold maxLen at h2; omega
    have hv2 := Go.Fid.val_take_succ l (j - 1)
    rw [show j - 1 + 1 = j by omega] at hv2
    by_cases hz : l.getD (j - 1) 0 = 0
    · rw [hz] at hcj hv2
      have h1j : 0 < j - 1 := by
        rcases Nat.eq_zero_or_pos (j - 1) with e | e
        · rw [e, List.take_zero, Go.Fid.val_nil, Nat.mul_zero] at hv2
          omega
        · exact e
      gi_wp2
      go_roundw
      case rel => exact ⟨j - 1, by omega, h1j, by simp, by rw [← hv, hv2]; simp, trivial⟩
      case measure => simp; omega
    · gi_wp2
      · rename_i hq
        exfalso
        simp [List.getD] at hz hq
        omega
      · refine ⟨rfl, .slice (some ⟨b, 0, none⟩) j cap, by simp [results, Tryz.results251, go_sem], ?_⟩
        have e : Go.Fid.ofNat (Go.Fid.val l) = l.take j := by
          rw [← hv]
          refine (Go.Fid.can_eq ⟨hd.take j, ?_⟩).symm
          unfold Go.Fid.Top
          have h5 : (l.take j).length - 1 = j - 1 := by rw [List.length_take]; omega
          rw [h5]
          have h6 : j - 1 < l.length := by omega
          simp [List.getD, List.getElem?_eq_getElem h6, List.getElem?_take_of_lt (show j - 1 < j by omega)] at hz ⊢
          exact hz
        rw [e, List.length_take, Nat.min_eq_left hj]
        exact ⟨rfl, rfl⟩
theorem trim_cb : Go.Fid.callB Tryz.prog 251 = true := by kernel_rfl
open Go.Fid in
theorem e_trimO {o : Oper} {S : Nat → SV} {x : Operand} {ats : Array TypeId} {k T m : Nat} (l : List Nat) (ho : o.op = .call { callee := .value (.func 251), args := #[x], argTypes := ats }) (hx : ev S x = .own k T 1 m) (hl : l.length = m) (hd : Dig l) (h0 : val l ≠ 0) :
    uT Tryz.prog o S [(k, l.map (fun g => SV.d (jC g)))] (.own k T 1 (ofNat (val l)).length) :=
  fun a w D β Q hop hrd hD => by
    have hxv := hop x (by simp [ho, Op.operands, Call.operands])
    rw [hx] at hxv
    have hm : 0 < m := by
      rcases Nat.eq_zero_or_pos m with e | e
      · rw [e] at hl
        have := List.eq_nil_of_length_eq_zero hl
        subst this
        exact absurd rfl h0
      · exact e
    have hle : (ofNat (val l)).length ≤ l.length := qY (vQ hd)
    rcases hxv with ⟨_, e, _⟩ | ⟨b, cap, vs, h1, h2, h3, h4, h5, h6⟩
    · omega
    · have hblk := hrd (k, l.map (fun g => SV.d (jC g))) (by simp)
      rcases hblk with ⟨g1, _⟩ | ⟨b', vs', T', g1, g2, g3, g4, g5⟩
      · rw [h1] at g1; cases g1
      · obtain rfl : b = b' := by rw [h1] at g1; injection g1
        rw [h3] at g2
        injection g2 with g2
        injection g2 with g2 gT
        subst g2; subst gT
        have hcell : ∀ i, w.cell? ⟨b, i, none⟩ = vs[i]? := fun i => cell_of_row w b i vs T (0, 0) h3
        have hrun : (execOp a.eval o).run Tryz.prog w = .ok (.enter 251 #[.slice (some ⟨b, 0, none⟩) l.length cap]) w := by
          simp only [execOp, ho, resolve, Deferred.ofValue, Act.eval, Sem.run_bind, Sem.run_pure, Result.andThen_ok, invoke, Array.empty_append, Array.append_empty]
          rw [vA trim_cb]
          simp [h2, hl]
        refine nB hrun (((callsIn_wide (n := 1)).1 (trimV b cap l hd h0 w (fun i hi => ?_) (by omega) h6)).mono fun e w' h => ?_)
        · rw [hcell]
          obtain ⟨u, e1, _, e3⟩ := g4 i (.d (jC (l.getD i 0))) (by rw [List.getElem?_map, List.getElem?_eq_getElem hi]; simp [List.getD, List.getElem?_eq_getElem hi])
          rw [e1, vM e3]
        · obtain ⟨he, rfl⟩ := h
          exact ⟨_, he, _, D, rfl, Below.refl _ _, ⟨fun _ _ _ h => h, fun _ _ _ h => .inl h⟩, .inr ⟨b, cap, vs, h1, rfl, h3, h4, by omega, h6⟩⟩
open Go.Fid in
theorem trim_take {l : List Nat} (hd : Dig l) : ofNat (val l) = l.take (ofNat (val l)).length := by
  have h1 : ∀ (n : Nat) (l : List Nat), l.length = n → Dig l → ofNat (val l) = l.take (ofNat (val l)).length := by
    intro n
    induction n with
    | zero => intro l hl _; rw [List.eq_nil_of_length_eq_zero hl]; rw [val_nil, uF]; rfl
    | succ n ih =>
      intro l hl hd
      have h2 := val_take_succ l n
      rw [← hl, List.take_length] at h2
      by_cases hz : l.getD n 0 = 0
      · rw [hz, Nat.mul_zero, Nat.add_zero] at h2
        have h3 := ih (l.take n) (by rw [List.length_take]; omega) (hd.take n)
        rw [← h2, List.take_take] at h3
        have h4 : (ofNat (val l)).length ≤ n := by
          rw [h2]; exact qY (by have := vQ (hd.take n); rwa [List.length_take, Nat.min_eq_left (by omega)] at this)
        rw [Nat.min_eq_left h4] at h3
        exact h3
      · have h3 : xX l := ⟨hd, by
          unfold Top
          rw [show l.length - 1 = n by omega]
          have h6 : n < l.length := by omega
          simp [List.getD, List.getElem?_eq_getElem h6] at hz ⊢
          exact hz⟩
        rw [← can_eq h3, List.take_length]
  exact h1 _ l rfl hd
end Go.Proofs.YtnajallgoaiahaaGreatDoor
namespace Go.Proofs.YtnajallgoaiahaaGreatDoor
open Go.Fid
set_option maxRecDepth 4000
set_option linter.unusedVariables false
set_option linter.unusedSimpArgs false
theorem cb252 : callB Tryz.prog 252 = true := by kernel_rfl
theorem ze41 : xH Tryz.prog 41 = some [.slice none 0 0] := by kernel_rfl
theorem zo41 : eC [.slice none 0 0] [.sl 140 1 []] := by simp [eC, Value.oneCell']
theorem t_short (a : List Nat) (d : Nat) (hda : Dig a) (hd0 : 0 < d) (hd1 : d ≤ 1000000000) (hla : a.length ≤ 17592186044416) : jT Tryz.prog 252 [(.sl 140 1 (List.map jC a)), (.val (.int .u32 (((d : Nat) : Int))))] (.tup [(.sl 140 1 (List.map jC (ofNat (val a / d)))), (.val (.int .u32 ((((val a % d) : Nat) : Int))))]) := by
 refine jJ Tryz.func252 rfl cb252 rfl ?_
 show qR _ _ _ _ ⟨[(0, (vl 140 1 jC a)), (1, (fE d))], []⟩
 refine jB<|kx [(3, (.ref 0 0)), (4, (.ref 1 0)), (5, (fE 0))] [(0, some (bx (.val (.int .u32 (((d : Nat) : Int)))))), (1, some (bx (.sl 140 1 (List.map jC []))))] (zN (xA 0)<|zN (uU 1 ze41 zo41)<|zM<|zZ) ?_
 refine jB<|kx [] [(1, some [(.own 2 140 1 a.length)]), (2, some (bm jC (List.replicate a.length 0)))] (zM<|zE (vX kM)<|zN (oMk 2 jC (0 : Nat) a.length a.length kM vL xZ gW)<|zT (oSo zG)<|zZ) ?_
 refine jB<|kx [(6, (.ref 3 0))] [(3, some (bx (.val (.int .u64 (0)))))] (zH (uU 3 ze170 zo170)<|zT (qM sh170)<|zZ) ?_
 refine jB<|pwp_backL backs cb249 rfl 7 jC a 0 (fun (q, xF) => ⟨[(3, (.ref 0 0)), (4, (.ref 1 0)), (5, (fE 0)), (6, (.ref 3 0))], [(0, some (bx (.val (.int .u32 (((d : Nat) : Int)))))), (1, some [(.own 2 140 1 a.length)]), (2, some (bm jC q)), (3, some (bx (.val (.int .u64 (((xF : Nat) : Int))))))]⟩) (fun (j : Nat) (q, xF) => q.length = a.length ∧ Dig q ∧ xF < d ∧ val (a.drop (a.length - j)) = val (q.drop (a.length - j)) * d + xF) (List.replicate a.length 0, 0) rfl rfl rfl rfl rfl rfl rfl rfl rfl rfl rfl rfl (fun _ => rfl) (fun _ => rfl) wk ⟨by simp, xU _, hd0, by simp [val, dI]⟩ (by omega) ?_ ?_
 ·rintro rl j ⟨q, xF⟩ hj ⟨qZ, hdq, hr, hv⟩
  have hg := hda.getD (a.length - 1 - j)
  obtain ⟨hb1, hb2⟩ := short_bound hr hd1 hg
  refine jB<|kx [(7, (jN (a.length - 1 - j)))] [] (zM<|zZ) ?_
  refine kx [(8, (fE (a.getD (a.length - 1 - j) 0)))] [] (zM<|zZ) ?_
  refine jG<|jB<|kx [(9, (yS ((xF * 1000000000) + (a.getD (a.length - 1 - j) 0))))] [] (zR (uL sh170)<|zE (oMl (xF * 1000000000))<|zM<|zE (nY yD yF (a.getD (a.length - 1 - j) 0))<|zE (vG ((xF * 1000000000) + (a.getD (a.length - 1 - j) 0)))<|zM<|zZ) ?_
  refine kd [] [(2, some (bm jC (q.set (a.length - 1 - j) (((xF * 1000000000) + (a.getD (a.length - 1 - j) 0)) / d)))), (3, some (bx (.val (.int .u64 ((((((xF * 1000000000) + (a.getD (a.length - 1 - j) 0)) % d) : Nat) : Int))))))] mo (wR (uL zG)<|wM<|wM<|wR (uL qU)<|wE (nY yD yF d)<|wE (oQu (((xF * 1000000000) + (a.getD (a.length - 1 - j) 0)) / d))<|wE (nY gP gE (((xF * 1000000000) + (a.getD (a.length - 1 - j) 0)) / d))<|wM<|wR (uL qU)<|wE (nY yD yF d)<|wE (oRe (((xF * 1000000000) + (a.getD (a.length - 1 - j) 0)) % d))<|wE (fJ kM (a.length - 1 - j))<|wT (oSp qU (a.length - 1 - j) (((xF * 1000000000) + (a.getD (a.length - 1 - j) 0)) / d))<|wT (qM sh170)<|wZ) ?_
  exact ⟨(q.set (a.length - 1 - j) ((xF * 1000000000 + a.getD (a.length - 1 - j) 0) / d), (xF * 1000000000 + a.getD (a.length - 1 - j) 0) % d), wk, ⟨by simpa using qZ, hdq.set _ hb2, Nat.mod_lt _ hd0, short_step hj qZ hv rfl⟩⟩
 ·rintro ⟨q, xF⟩ ⟨qZ, hdq, hr, hv⟩
  obtain ⟨e1, e2⟩ := short_end hv hr
  refine jB<|kH (publishB (j := 1) (k := 2) (es := List.map jC q) rfl rfl rfl (uI _ _ (fun _ => rfl)) (uG _ _ qZ) (vE _ _ (fun _ => rfl) qZ)) ?_
  refine kd [(5, (fE xF))] [(1, some (bx (.sl 140 1 (List.map jC (ofNat (val q))))))] mo (wR (uL zG)<|wE (jZ (t_trim q (by assumption) (by omega)))<|wR (uL sh170)<|wE (nY gP gE xF)<|wT (qM zG)<|wM<|wZ) ?_
  refine jE ⟨_, (res_1 (cs := (bx (.sl 140 1 (List.map jC (ofNat (val q)))))) (d := (.sl 140 1 (List.map jC (ofNat (val q))))) rfl rfl zG rfl rfl (.tmp (d := (.val (.int .u32 (((xF : Nat) : Int))))) rfl .nil)), ?_⟩
  rw [← e1, ← e2]; rfl
theorem o_times (a b : List Nat) (hda : Dig a) (hdb : Dig b) (hla : a.length ≤ 4398046511104) (hlb : b.length ≤ 4398046511104) (h0 : 0 < val a * val b) : TakesO Tryz.prog 226 [(.sl 140 1 (List.map jC a)), (.sl 140 1 (List.map jC b))] 140 1 (ofNat (val a * val b)).length (List.map jC (ofNat (val a * val b))) := by
 refine fn_introO Tryz.func226 rfl cb226 rfl (dE h0) ?_
 show qR _ _ _ _ ⟨[(0, (vl 140 1 jC a)), (1, (vl 140 1 jC b))], []⟩
 refine jB<|kx [] [] (zE (mP 140 1)<|zZ) ?_
 refine jB<|kx [(5, (.own 0 140 1 (a.length + b.length)))] [(0, some (bm jC (List.replicate (a.length + b.length) 0)))] (zM<|zE (vX kM)<|zM<|zE (vX kM)<|zE (vG (a.length + b.length))<|zN (oMk 0 jC (0 : Nat) (a.length + b.length) (a.length + b.length) kM vL xZ gW)<|zM<|zZ) ?_
 refine jB<|jB<|kx [(18, (vl 140 1 jC a)), (19, (jN a.length)), (20, (jN 0))] [] (zM<|zE (vX kM)<|zM<|zZ) ?_
 refine jG<|kI (α := Nat × List Nat) (fun (i, out) => ⟨[(1, (vl 140 1 jC b)), (5, (.own 0 140 1 (a.length + b.length))), (18, (vl 140 1 jC a)), (19, (jN a.length)), (20, (jN i))], [(0, some (bm jC out))]⟩) (fun (i, out) => out.length = a.length + b.length ∧ Dig out ∧ i ≤ a.length ∧ (∀ k, i + b.length ≤ k → out.getD k 0 = 0) ∧ val out = val (a.take i) * val b) (fun (i, out) => a.length - i) (0, List.replicate (a.length + b.length) 0) wk ⟨by simp, xU _, Nat.zero_le _, fun k _ => eL _ k, by simp [val, dI]⟩ ?_
 rintro ⟨i, out⟩ ⟨qZ, hdo, hi, hz, hv⟩
 have hai := hda.getD i
 refine jB<|kx [(21, (vb (decide (((i : Nat) : Int) < ((a.length : Nat) : Int)))))] [] (zE vZ<|zZ) ?_
 refine jB<|jF rfl (fun h1 => ?_) (fun h1 => ?_)
 ·replace h1 := uH h1
  refine jD<|jB<|jG<|jB<|kx [(6, (jN i)), (7, (fE (a.getD i 0)))] [] (zM<|zE (zU kM i (0 : Nat))<|zE (xI qU)<|zM<|zM<|zZ) ?_
  refine jB<|kx [(8, (yS 0))] [] (zM<|zZ) ?_
  refine jB<|jB<|kx [(25, (vl 140 1 jC b)), (26, (jN b.length)), (27, (jN 0))] [] (zM<|zE (vX kM)<|zM<|zZ) ?_
  refine jG<|kI (α := Nat × List Nat × Nat) (fun (j, o2, c) => ⟨[(1, (vl 140 1 jC b)), (5, (.own 0 140 1 (a.length + b.length))), (6, (jN i)), (7, (fE (a.getD i 0))), (8, (yS c)), (18, (vl 140 1 jC a)), (19, (jN a.length)), (20, (jN i)), (25, (vl 140 1 jC b)), (26, (jN b.length)), (27, (jN j))], [(0, some (bm jC o2))]⟩) (fun (j, o2, c) => o2.length = a.length + b.length ∧ Dig o2 ∧ j ≤ b.length ∧ c < 1000000000 ∧ (∀ k, i + b.length ≤ k → o2.getD k 0 = 0) ∧ val o2 + pw (i + j) * c = val (a.take i) * val b + pw i * (a.getD i 0 * val (b.take j))) (fun (j, o2, c) => b.length - j) (0, out, 0) wk ⟨qZ, hdo, Nat.zero_le _, by decide, hz, by simp [val, hv]⟩ ?_
  rintro ⟨j, o2, c⟩ ⟨hlen2, hdo2, hj, hc, hz2, hv2⟩
  have hbj := hdb.getD j
  have hoj := hdo2.getD (i + j)
  have hpq : a.getD i 0 * b.getD j 0 ≤ 999999999 * 999999999 := Nat.mul_le_mul (by omega) (by omega)
  refine jB<|kx [(28, (vb (decide (((j : Nat) : Int) < ((b.length : Nat) : Int)))))] [] (zE vZ<|zZ) ?_
  refine jB<|jF rfl (fun h2 => ?_) (fun h2 => ?_)
  ·replace h2 := uH h2
   refine jD<|jB<|jG<|jB<|kx [(9, (jN j)), (10, (fE (b.getD j 0)))] [] (zM<|zE (zU kM j (0 : Nat))<|zE (xI qU)<|zM<|zM<|zZ) ?_
   refine jB<|kx [(11, (yS (((o2.getD (i + j) 0) + ((a.getD i 0) * (b.getD j 0))) + c)))] [] (zM<|zM<|zM<|zE (vG (i + j))<|zE (fJ kM (i + j))<|zR (oLp qU (i + j) (0 : Nat))<|zE (nY yD yF (o2.getD (i + j) 0))<|zM<|zE (nY yD yF (a.getD i 0))<|zM<|zE (nY yD yF (b.getD j 0))<|zE (oMl ((a.getD i 0) * (b.getD j 0)))<|zE (vG ((o2.getD (i + j) 0) + ((a.getD i 0) * (b.getD j 0))))<|zM<|zE (vG (((o2.getD (i + j) 0) + ((a.getD i 0) * (b.getD j 0))) + c))<|zM<|zZ) ?_
   refine kx [(8, (yS ((((o2.getD (i + j) 0) + ((a.getD i 0) * (b.getD j 0))) + c) / 1000000000)))] [(0, some (bm jC (o2.set (i + j) ((((o2.getD (i + j) 0) + ((a.getD i 0) * (b.getD j 0))) + c) % 1000000000))))] (zM<|zM<|zM<|zE (vG (i + j))<|zM<|zE (oRe ((((o2.getD (i + j) 0) + ((a.getD i 0) * (b.getD j 0))) + c) % 1000000000))<|zE (nY gP gE ((((o2.getD (i + j) 0) + ((a.getD i 0) * (b.getD j 0))) + c) % 1000000000))<|zM<|zE (oQu ((((o2.getD (i + j) 0) + ((a.getD i 0) * (b.getD j 0))) + c) / 1000000000))<|zE (fJ kM (i + j))<|zT (oSp qU (i + j) ((((o2.getD (i + j) 0) + ((a.getD i 0) * (b.getD j 0))) + c) % 1000000000))<|zM<|zZ) ?_
   refine kx [(27, (jN (j + 1)))] [] (zE (vG (j + 1))<|zM<|zZ) ?_
   exact ⟨(j + 1, o2.set (i + j) ((o2.getD (i + j) 0 + a.getD i 0 * b.getD j 0 + c) % 1000000000), (o2.getD (i + j) 0 + a.getD i 0 * b.getD j 0 + c) / 1000000000), wk, (by obtain ⟨q1, q2⟩ := times_step (by omega) hdo2 hv2 rfl (val_take_succ b j); exact ⟨by simpa using hlen2, q1, by omega, by omega, zero_set (by omega) hz2, q2⟩), (by first|omega|(dsimp only;omega))⟩
  ·replace h2 := vB h2
   have hje : j = b.length := by omega
   rw [hje] at hv2
   refine kC<|kx [] [(0, some (bm jC (o2.set (i + b.length) c)))] (zM<|zM<|zM<|zE (vX kM)<|zE (vG (i + b.length))<|zM<|zE (nY gP gE c)<|zE (fJ kM (i + b.length))<|zT (oSp qU (i + b.length) c)<|zZ) ?_
   refine kx [(20, (jN (i + 1)))] [] (zE (vG (i + 1))<|zM<|zZ) ?_
   exact ⟨(i + 1, o2.set (i + b.length) c), wk, (by obtain ⟨q1, q2, q3, q4⟩ := times_row hdo2 (by omega) hlen2 hz2 hc hv2; exact ⟨q1, q2, by omega, q3, q4⟩), (by first|omega|(dsimp only;omega))⟩
 ·replace h1 := vB h1
  have hie : i = a.length := by omega
  rw [hie, List.take_length] at hv
  refine kC<|jB<|kx [(4, (.own 0 140 1 ((ofNat (val out)).length)))] [] (zM<|zR ⟨_, e_trimO out (by exact rfl) (by exact rfl) qZ hdo (by omega), by kernel_rfl⟩<|zM<|zZ) ?_
  rw [← hv]
  refine jE ⟨4, 0, rfl, rfl, (bm jC out), rfl, ?_⟩
  exact own_prefix _ (trim_take hdo)
end Go.Proofs.YtnajallgoaiahaaGreatDoor
