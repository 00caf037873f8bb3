/- Part 17 of a proof: rules, plain facts, and functions walked. -/
import Derived.Test.YtihgdjljnaekmaaGreatM16
import Derived.Test.YtihgdjljnaekmaaGreatM11
import Derived.Test.YtihgdjljnaekmaaGreatM10
import Derived.Test.YtihgdjljnaekmaaGreatChecked
import Derived.RangeFuncBox
import Derived.Shelf.Abstract
import Derived.OwnWalkIn
import Derived.TacticsInMore
import Derived.LoopNIn
import Derived.LoopIn
namespace Go.Proofs.YtihgdjljnaekmaaGreat
open Go.Fid
set_option maxRecDepth 4000
set_option linter.unusedVariables false
set_option linter.unusedSimpArgs false
theorem cb138 : callB Tryz.prog 138 = true := by kernel_rfl
theorem cb151 : callB Tryz.prog 151 = true := by kernel_rfl
theorem cb169 : callB Tryz.prog 169 = true := by kernel_rfl
theorem cb170 : callB Tryz.prog 170 = true := by kernel_rfl
theorem cb175 : callB Tryz.prog 175 = true := by kernel_rfl
theorem cb193 : callB Tryz.prog 193 = true := by kernel_rfl
theorem fo49_0 : fieldB Tryz.prog 49 0 = some 0 := by kernel_rfl
theorem fo49_1 : fieldB Tryz.prog 49 1 = some 1 := by kernel_rfl
theorem sh4 : shapeB Tryz.prog 4 = some (false, 1) := by kernel_rfl
theorem t_big (a : Nat) : Takes Tryz.prog 170 [(.val (.int .u32 (((a : Nat) : Int))))] (.val (.bool ((decide (1000000000 ≤ ((a : Nat) : Int)))))) := by
  refine fn_intro Tryz.func170 rfl cb170 rfl ?_
  show PWp _ _ _ _ ⟨[(0, (vwn a))], []⟩
  refine pwp_seq <| kx [] [] (zM <| zZ) ?_
  refine pwp_seq <| kx [(2, (vb (decide (1000000000 ≤ ((a : Nat) : Int)))))] [] (zM <| zE oGe <| zM <| zZ) ?_
  refine pwp_ret ⟨_, (.tmp (d := (.val (.bool (decide (1000000000 ≤ ((a : Nat) : Int)))))) rfl .nil), ?_⟩
  rfl
theorem t_index (l : List Nat) (hb : l.length ≤ 17592186044416) : Takes Tryz.prog 193 [(.sl 135 1 (List.map enc_u32 l)), (.val (.func (.func 170) #[] #[]))] (.val (.int .i64 ((firstBig l)))) := by
  refine fn_intro Tryz.func193 rfl cb193 rfl ?_
  show PWp _ _ _ _ ⟨[(0, (vl 135 1 enc_u32 l)), (1, (.d (.val (.func (.func 170) #[] #[]))))], []⟩
  refine pwp_seq <| kx [] [] (zM <| zZ) ?_
  refine pwp_seq <| pwp_seq <| kx [(7, (vin l.length)), (8, (vin 0))] [] (zM <| zE (oLm el47) <| zM <| zZ) ?_
  refine pwp_block <| pwp_loop (α := Nat) (fun i => ⟨[(0, (vl 135 1 enc_u32 l)), (1, (.d (.val (.func (.func 170) #[] #[])))), (7, (vin l.length)), (8, (vin i))], []⟩) (fun i => i ≤ l.length ∧ Dig (l.take i)) (fun i => l.length - i) 0 wk ⟨Nat.zero_le _, dig_nil⟩ ?_
  rintro i ⟨hi, hd⟩
  refine pwp_seq <| kx [(9, (vb (decide (((i : Nat) : Int) < ((l.length : Nat) : Int)))))] [] (zE oLt <| zZ) ?_
  refine pwp_seq <| pwp_cond rfl (fun h1 => ?_) (fun h1 => ?_)
  · replace h1 := of_decide_eq_true h1
    refine pwp_skip <| pwp_seq <| pwp_block <| pwp_seq <| kx [(5, (vin i))] [] (zM <| zM <| zZ) ?_
    refine pwp_seq <| kx [(16, (vb (decide (1000000000 ≤ (((l.getD i 0) : Nat) : Int)))))] [] (zM <| zM <| zM <| zE (oXl el47 i (0 : Nat)) <| zE (oC1 sh135) <| zE (oCl (t_big (l.getD i 0))) <| zZ) ?_
    refine pwp_cond rfl (fun h2 => ?_) (fun h2 => ?_)
    · replace h2 := of_decide_eq_true h2
      refine pwp_seq <| kx [(4, (vin i))] [] (zM <| zM <| zZ) ?_
      refine pwp_ret ⟨_, (.tmp (d := (.val (.int .i64 (((i : Nat) : Int))))) rfl .nil), ?_⟩
      rw [firstBig_at (by omega) hd (by omega)]; rfl
    · replace h2 := of_decide_eq_false h2
      refine pwp_skip <| kx [(8, (vin (i + 1)))] [] (zE (oAd (i + 1)) <| zM <| zZ) ?_
      exact ⟨(i + 1), wk, ⟨by omega, dig_take_succ (by omega) hd (by omega)⟩, (by omega)⟩
  · replace h1 := of_decide_eq_false h1
    refine pwp_exit <| pwp_seq <| kx [(4, (vi (-1)))] [] (zM <| zZ) ?_
    refine pwp_ret ⟨_, (.tmp (d := (.val (.int .i64 (-1)))) rfl .nil), ?_⟩
    rw [firstBig_neg (by rw [List.take_of_length_le (by omega)] at hd; exact hd)]; rfl
theorem t_contains (l : List Nat) (hb : l.length ≤ 17592186044416) : Takes Tryz.prog 169 [(.sl 135 1 (List.map enc_u32 l)), (.val (.func (.func 170) #[] #[]))] (.val (.bool ((decide (0 ≤ firstBig l))))) := by
  refine fn_intro Tryz.func169 rfl cb169 rfl ?_
  show PWp _ _ _ _ ⟨[(0, (vl 135 1 enc_u32 l)), (1, (.d (.val (.func (.func 170) #[] #[]))))], []⟩
  refine pwp_seq <| kx [] [] (zM <| zZ) ?_
  refine pwp_seq <| kx [(4, (vb (decide (0 ≤ (firstBig l)))))] [] (zM <| zM <| zE (oCl (t_index l (by omega))) <| zE oGe <| zM <| zZ) ?_
  refine pwp_ret ⟨_, (.tmp (d := (.val (.bool (decide (0 ≤ (firstBig l)))))) rfl .nil), ?_⟩
  rfl
theorem t_valid (x : RInt) (hb : x.gs.length ≤ 17592186044416) : Takes Tryz.prog 138 [(encI x)] (.val (.bool ((validI x)))) := by
  refine fn_intro Tryz.func138 rfl cb138 rfl ?_
  show PWp _ _ _ _ ⟨[(0, (.d (encI x)))], []⟩
  refine pwp_seq <| kx [(1, (.ref 0 0))] [(0, some (bx (encI x)))] (zN (oBx 0) <| zM <| zZ) ?_
  refine pwp_seq <| kx [(3, (vin x.gs.length))] [] (zE (oFr fo49_1) <| zR (oL1 sh47) <| zE (oLm el47) <| zM <| zZ) ?_
  refine pwp_seq <| pwp_seq <| kx [(8, (vb (((x.gs.length : Nat) : Int) == 0)))] [] (zM <| zE oEq <| zZ) ?_
  refine pwp_cond (b := (((x.gs.length : Nat) : Int) == 0)) rfl (fun h1 => ?_) (fun h1 => ?_)
  · replace h1 := eq_of_beq h1
    refine pwp_seq <| kx [(2, (vb (!x.neg)))] [] (zE (oFr fo49_0) <| zR (oL1 sh4) <| zE oNt <| zM <| zZ) ?_
    refine pwp_ret ⟨_, (.tmp (d := (.val (.bool (!x.neg)))) rfl .nil), ?_⟩
    rw [show validI x = !x.neg from if_pos h1]; rfl
  · replace h1 := ne_of_beq_false h1
    refine pwp_skip <| pwp_seq <| kx [(2, (vb (((((x.gs.getD (x.gs.length - 1) 0) : Nat) : Int) != 0) && !(decide (0 ≤ firstBig x.gs)))))] [] ?_ ?_
    · refine zE (oFr fo49_1) <| zR (oL1 sh47) <| zM <| zE (oSb (x.gs.length - 1)) <| zE (oXl el47 (x.gs.length - 1) (0 : Nat)) <| zE (oC1 sh135) <| zE oNe <| zE (oV (vb ((((x.gs.getD (x.gs.length - 1) 0) : Nat) : Int) != 0)) (mv_ok (by kernel_rfl))) <| ?_
      rcases hb2 : ((((x.gs.getD (x.gs.length - 1) 0) : Nat) : Int) != 0) with _ | _
      · replace hb2 := bne_eq_false_iff_eq.1 hb2
        exact zK <| zK <| zK <| zK <| zE oPf <| zM <| zZ
      · replace hb2 := bne_iff_ne.1 hb2
        exact zE (oFr fo49_1) <| zR (oL1 sh47) <| zE (oCl (t_contains x.gs (by omega))) <| zE oNt <| zE oPa <| zM <| zZ
    refine pwp_ret ⟨_, (.tmp (d := (.val (.bool ((((((x.gs.getD (x.gs.length - 1) 0) : Nat) : Int) != 0) && !(decide (0 ≤ firstBig x.gs))))))) rfl .nil), ?_⟩
    rw [show validI x = _ from if_neg h1]; rfl
theorem t_groups (x : RInt) (hb : x.gs.length ≤ 17592186044416) : Takes Tryz.prog 151 [(encI x)] (.sl 135 1 (List.map enc_u32 (grpI x))) := by
  refine fn_intro Tryz.func151 rfl cb151 rfl ?_
  show PWp _ _ _ _ ⟨[(0, (.d (encI x)))], []⟩
  refine pwp_seq <| kx [(1, (.ref 0 0))] [(0, some (bx (encI x)))] (zN (oBx 0) <| zE (oNl 135 1) <| zZ) ?_
  refine pwp_seq <| pwp_seq <| kx [(5, (vb (!(validI x))))] [] (zR (oLa sh49) <| zE (oCl (t_valid x (by omega))) <| zE oNt <| zZ) ?_
  refine pwp_cond (b := !(validI x)) rfl (fun h1 => ?_) (fun h1 => ?_)
  · refine pwp_seq <| kx [(2, (vl 135 1 enc_u32 []))] [] (zE (oNl 135 1) <| zZ) ?_
    refine pwp_ret ⟨_, (.tmp (d := (.sl 135 1 (List.map enc_u32 []))) rfl .nil), ?_⟩
    rw [show grpI x = [] from if_neg (by simpa using h1)]; rfl
  · refine pwp_skip <| pwp_seq <| kx [(2, (vl 135 1 enc_u32 x.gs))] [] (zE (oFr fo49_1) <| zR (oL1 sh47) <| zM <| zZ) ?_
    refine pwp_ret ⟨_, (.tmp (d := (.sl 135 1 (List.map enc_u32 x.gs))) rfl .nil), ?_⟩
    rw [show grpI x = x.gs from if_pos (by simpa using h1)]; rfl
theorem t_clone (l : List Nat) (hb : l.length ≤ 17592186044416) : Takes Tryz.prog 175 [(.sl 135 1 (List.map enc_u32 l))] (.sl 135 1 (List.map enc_u32 l)) := by
  refine fn_intro Tryz.func175 rfl cb175 rfl ?_
  show PWp _ _ _ _ ⟨[(0, (vl 135 1 enc_u32 l))], []⟩
  refine pwp_seq <| kx [] [] (zE (oNl 135 1) <| zZ) ?_
  refine pwp_seq <| pwp_seq <| pwp_nilq rfl rfl rfl rfl rfl rfl el47 rfl rfl rfl (fun nb hnb => ?_)
  refine pwp_cond (b := nb) rfl (fun h1 => ?_) (fun h1 => ?_)
  · refine pwp_seq <| kx [(2, (vl 135 1 enc_u32 []))] [] (zE (oNl 135 1) <| zZ) ?_
    refine pwp_ret ⟨_, (.tmp (d := (.sl 135 1 (List.map enc_u32 []))) rfl .nil), ?_⟩
    rw [List.map_eq_nil_iff.1 (hnb h1)]; rfl
  · refine pwp_skip <| pwp_seq <| kf [(2, (.own 0 135 1 (([] ++ l).length)))] [(0, some (bm enc_u32 ([] ++ l)))] (zN (oBo 0 el47 ze135 zo135) <| zM <| zA enc_u32 [] l rfl el47 ze135 by135 <| zM <| zF) ?_
    refine pwp_sim (publish (t := 2) (k := 0) (es := List.map enc_u32 ([] ++ l)) rfl rfl (pub_cells _ _ (fun _ => rfl)) (map_len _ _ rfl) (pub_take _ _ (fun _ => rfl) rfl)) ?_
    refine pwp_ret ⟨_, (.tmp (d := (.sl 135 1 (List.map enc_u32 ([] ++ l)))) rfl .nil), ?_⟩
    rfl
end Go.Proofs.YtihgdjljnaekmaaGreat
namespace Go.Proofs.YtihgdjljnaekmaaGreat
open Go.Fid
set_option maxRecDepth 4000
set_option linter.unusedVariables false
set_option linter.unusedSimpArgs false
theorem bo4 : boolB Tryz.prog 4 = true := by kernel_rfl
theorem cb104 : callB Tryz.prog 104 = true := by kernel_rfl
theorem cb106 : callB Tryz.prog 106 = true := by kernel_rfl
theorem cb120 : callB Tryz.prog 120 = true := by kernel_rfl
theorem cb139 : callB Tryz.prog 139 = true := by kernel_rfl
theorem cb140 : callB Tryz.prog 140 = true := by kernel_rfl
theorem cb157 : callB Tryz.prog 157 = true := by kernel_rfl
theorem cb177 : callB Tryz.prog 177 = true := by kernel_rfl
theorem un3 : (Tryz.prog.underlying 3).isSome = true := by kernel_rfl
theorem t_sign (x : RInt) (hx : x.gs.length ≤ 1099511627776) : Takes Tryz.prog 139 [(encI x)] (.val (.int .i64 ((signI (toZ x))))) := by
  refine fn_intro Tryz.func139 rfl cb139 rfl ?_
  show PWp _ _ _ _ ⟨[(0, (.d (encI x)))], []⟩
  refine pwp_seq <| kx [(1, (.ref 0 0))] [(0, some (bx (encI x)))] (zN (oBx 0) <| zM <| zZ) ?_
  refine pwp_seq <| pwp_block <| pwp_seq <| kx [(3, (vb ((((grpI x).length : Nat) : Int) == 0)))] [] (zR (oLa sh49) <| zE (oCl (t_groups x (by omega))) <| zE (oLm el47 (L := (grpI x))) <| zE oEq <| zM <| zZ) ?_
  refine pwp_cond (b := ((((grpI x).length : Nat) : Int) == 0)) rfl (fun h1 => ?_) (fun h1 => ?_)
  · replace h1 := eq_of_beq h1
    refine pwp_seq <| kx [(2, (vin 0))] [] (zM <| zZ) ?_
    refine pwp_ret ⟨_, (.tmp (d := (.val (.int .i64 (0)))) rfl .nil), ?_⟩
    rw [toZ_nil h1]; rfl
  · replace h1 := ne_of_beq_false h1
    refine pwp_seq <| kx [(8, (vb x.neg))] [] (zE (oFr fo49_0) <| zR (oL1 sh4) <| zM <| zZ) ?_
    refine pwp_cond (b := x.neg) rfl (fun h2 => ?_) (fun h2 => ?_)
    · refine pwp_seq <| kx [(2, (vi (-1)))] [] (zM <| zZ) ?_
      refine pwp_ret ⟨_, (.tmp (d := (.val (.int .i64 (-1)))) rfl .nil), ?_⟩
      rw [sign_neg h1 h2]; rfl
    · refine pwp_skip <| pwp_seq <| kx [(2, (vin 1))] [] (zM <| zZ) ?_
      refine pwp_ret ⟨_, (.tmp (d := (.val (.int .i64 (1)))) rfl .nil), ?_⟩
      rw [sign_pos h1 h2]; rfl
theorem t_neg (x : RInt) (hx : x.gs.length ≤ 1099511627776) : Takes Tryz.prog 177 [(encI x)] (encI (ofZ (-toZ x))) := by
  refine fn_intro Tryz.func177 rfl cb177 rfl ?_
  show PWp _ _ _ _ ⟨[(0, (.d (encI x)))], []⟩
  refine pwp_seq <| kx [(1, (.ref 0 0)), (2, (.ref 1 0))] [(0, some (bx (encI x))), (1, some (bx (encI (RInt.mk false []))))] (zN (oBx 0) <| zN (oAl 1 ze49 zo49) <| zZ) ?_
  refine pwp_seq <| kd [] [(1, some (bx (encI (mkI (!x.neg) (val (grpI x))))))] mo (wE (oFr fo49_0) <| wR (oL1 sh4) <| wE oNt <| wR (oLa sh49) <| wE (oCl (t_groups x (by omega))) <| wE (oCl (t_clone (grpI x) (Nat.le_trans (grpI_len _) (by omega)))) <| wE (oCl (t_made (!x.neg) (grpI x) (grpI_can _).1 (Nat.le_trans (grpI_len _) (by omega)))) <| wT (oSt sh49) <| wZ) ?_
  refine pwp_ret ⟨_, (res_a (cs := (bx (encI (mkI (!x.neg) (val (grpI x)))))) (d := (encI (mkI (!x.neg) (val (grpI x))))) rfl rfl sh49 rfl rfl .nil), ?_⟩
  rw [← neg_eq]; rfl
theorem t_sum (b : Bool) (l : List Nat) (c : Bool) (m : List Nat) (hl : Cano l) (hm : Cano m) (hll : l.length ≤ 1099511627776) (hlm : m.length ≤ 1099511627776) : Takes Tryz.prog 157 [(.val (.bool (b))), (.sl 135 1 (List.map enc_u32 l)), (.val (.bool (c))), (.sl 135 1 (List.map enc_u32 m))] (encI (ofZ (sgn b (val l) + sgn c (val m)))) := by
  refine fn_intro Tryz.func157 rfl cb157 rfl ?_
  show PWp _ _ _ _ ⟨[(0, (vb b)), (1, (vl 135 1 enc_u32 l)), (2, (vb c)), (3, (vl 135 1 enc_u32 m))], []⟩
  refine pwp_seq <| kx [(8, (.ref 0 0))] [(0, some (bx (encI (RInt.mk false []))))] (zN (oAl 0 ze49 zo49) <| zZ) ?_
  refine pwp_seq <| pwp_block <| pwp_seq <| kx [(9, (vb (b == c)))] [] (zM <| zM <| zE (oEb bo4) <| zM <| zZ) ?_
  refine pwp_cond (b := (b == c)) rfl (fun h1 => ?_) (fun h1 => ?_)
  · replace h1 := eq_of_beq h1
    refine pwp_seq <| kx [] [(0, some (bx (encI (mkI b (val (ofNat (val l + val m)))))))] (zM <| zM <| zM <| zE (oCl (t_plus l m hl.1 hm.1 (by omega) (by omega))) <| zE (oCl (t_made b (ofNat (val l + val m)) (ofNat_dig _) (Nat.le_trans (add_len hl.1 hm.1) (by omega)))) <| zT (oSt sh49) <| zZ) ?_
    refine pwp_ret ⟨_, (res_a (cs := (bx (encI (mkI b (val (ofNat (val l + val m))))))) (d := (encI (mkI b (val (ofNat (val l + val m)))))) rfl rfl sh49 rfl rfl .nil), ?_⟩
    rw [← sum_same h1]; rfl
  · replace h1 := ne_of_beq_false h1
    refine pwp_seq <| kx [(18, (vb (decide (0 ≤ (cmpI ((val l : Nat) : Int) ((val m : Nat) : Int))))))] [] (zM <| zM <| zE (oCl (t_compare l m (by assumption) (by assumption) (by omega))) <| zE oGe <| zM <| zZ) ?_
    refine pwp_cond rfl (fun h2 => ?_) (fun h2 => ?_)
    · replace h2 := of_decide_eq_true h2
      refine pwp_seq <| kx [] [(0, some (bx (encI (mkI b (val (ofNat (val l - val m)))))))] (zM <| zM <| zM <| zE (oCl (t_minus l m hl.1 hm.1 (by have := cmpI_ge h2; omega) (by omega))) <| zE (oCl (t_made b (ofNat (val l - val m)) (ofNat_dig _) (Nat.le_trans (sub_len hl.1) (by omega)))) <| zT (oSt sh49) <| zZ) ?_
      refine pwp_ret ⟨_, (res_a (cs := (bx (encI (mkI b (val (ofNat (val l - val m))))))) (d := (encI (mkI b (val (ofNat (val l - val m)))))) rfl rfl sh49 rfl rfl .nil), ?_⟩
      rw [← sum_first h1 (by have := cmpI_ge h2; omega)]; rfl
    · replace h2 := of_decide_eq_false h2
      refine pwp_skip <| pwp_seq <| kx [] [(0, some (bx (encI (mkI c (val (ofNat (val m - val l)))))))] (zM <| zM <| zM <| zE (oCl (t_minus m l hm.1 hl.1 (by have := cmpI_lt h2; omega) (by omega))) <| zE (oCl (t_made c (ofNat (val m - val l)) (ofNat_dig _) (Nat.le_trans (sub_len hm.1) (by omega)))) <| zT (oSt sh49) <| zZ) ?_
      refine pwp_ret ⟨_, (res_a (cs := (bx (encI (mkI c (val (ofNat (val m - val l))))))) (d := (encI (mkI c (val (ofNat (val m - val l)))))) rfl rfl sh49 rfl rfl .nil), ?_⟩
      rw [← sum_second h1 (by have := cmpI_lt h2; omega)]; rfl
theorem t_add (x : RInt) (y : RInt) (hx : x.gs.length ≤ 1099511627776) (hy : y.gs.length ≤ 1099511627776) : Takes Tryz.prog 120 [(encI x), (encI y)] (encI (ofZ (toZ x + toZ y))) := by
  refine fn_intro Tryz.func120 rfl cb120 rfl ?_
  show PWp _ _ _ _ ⟨[(0, (.d (encI x))), (1, (.d (encI y)))], []⟩
  refine pwp_seq <| kx [(2, (.ref 0 0)), (3, (.ref 1 0)), (4, (.ref 2 0))] [(0, some (bx (encI x))), (1, some (bx (encI y))), (2, some (bx (encI (RInt.mk false []))))] (zN (oBx 0) <| zN (oBx 1) <| zN (oAl 2 ze49 zo49) <| zZ) ?_
  refine pwp_seq <| kd [] [(2, some (bx (encI (ofZ (sgn x.neg (val (grpI x)) + sgn y.neg (val (grpI y)))))))] mo (wE (oFr fo49_0) <| wR (oL1 sh4) <| wR (oLa sh49) <| wE (oCl (t_groups x (by omega))) <| wE (oFr fo49_0) <| wR (oL1 sh4) <| wR (oLa sh49) <| wE (oCl (t_groups y (by omega))) <| wE (oCl (t_sum x.neg (grpI x) y.neg (grpI y) (grpI_can _) (grpI_can _) (Nat.le_trans (grpI_len _) (by omega)) (Nat.le_trans (grpI_len _) (by omega)))) <| wT (oSt sh49) <| wZ) ?_
  refine pwp_ret ⟨_, (res_a (cs := (bx (encI (ofZ (sgn x.neg (val (grpI x)) + sgn y.neg (val (grpI y))))))) (d := (encI (ofZ (sgn x.neg (val (grpI x)) + sgn y.neg (val (grpI y)))))) rfl rfl sh49 rfl rfl .nil), ?_⟩
  rfl
theorem t_mul (x : RInt) (y : RInt) (hx : x.gs.length ≤ 1099511627776) (hy : y.gs.length ≤ 1099511627776) : Takes Tryz.prog 106 [(encI x), (encI y)] (encI (ofZ (toZ x * toZ y))) := by
  refine fn_intro Tryz.func106 rfl cb106 rfl ?_
  show PWp _ _ _ _ ⟨[(0, (.d (encI x))), (1, (.d (encI y)))], []⟩
  refine pwp_seq <| kx [(2, (.ref 0 0)), (3, (.ref 1 0)), (4, (.ref 2 0))] [(0, some (bx (encI x))), (1, some (bx (encI y))), (2, some (bx (encI (RInt.mk false []))))] (zN (oBx 0) <| zN (oBx 1) <| zN (oAl 2 ze49 zo49) <| zZ) ?_
  refine pwp_seq <| kd [] [(2, some (bx (encI (mkI (!(x.neg == y.neg)) (val (ofNat (val (grpI x) * val (grpI y))))))))] mo (wE (oFr fo49_0) <| wR (oL1 sh4) <| wE (oFr fo49_0) <| wR (oL1 sh4) <| wE (oNb bo4) <| wR (oLa sh49) <| wE (oCl (t_groups x (by omega))) <| wR (oLa sh49) <| wE (oCl (t_groups y (by omega))) <| wE (oCl (t_times (grpI x) (grpI y) (grpI_can _).1 (grpI_can _).1 (Nat.le_trans (grpI_len _) (by omega)) (Nat.le_trans (grpI_len _) (by omega)))) <| wE (oCl (t_made (!(x.neg == y.neg)) (ofNat (val (grpI x) * val (grpI y))) (ofNat_dig _) (Nat.le_trans (mul_len (grpI_can _).1 (grpI_can _).1) (by have := grpI_len x; have := grpI_len y; omega)))) <| wT (oSt sh49) <| wZ) ?_
  refine pwp_ret ⟨_, (res_a (cs := (bx (encI (mkI (!(x.neg == y.neg)) (val (ofNat (val (grpI x) * val (grpI y)))))))) (d := (encI (mkI (!(x.neg == y.neg)) (val (ofNat (val (grpI x) * val (grpI y))))))) rfl rfl sh49 rfl rfl .nil), ?_⟩
  rw [show toZ x * toZ y = _ from rfl, toZ, toZ, ← mul_eq]; rfl
theorem t_of (n : Int) (hlo : -9223372036854775808 ≤ n) (hhi : n ≤ 9223372036854775807) : Takes Tryz.prog 104 [(.val (.int .i64 (n)))] (encI (ofZ n)) := by
  refine fn_intro Tryz.func104 rfl cb104 rfl ?_
  show PWp _ _ _ _ ⟨[(0, (vi n))], []⟩
  refine pwp_seq <| kx [(2, (.ref 0 0))] [(0, some (bx (encI (RInt.mk false []))))] (zN (oAl 0 ze49 zo49) <| zZ) ?_
  refine pwp_seq <| kx [(3, (vqn ((n % 18446744073709551616).toNat)))] [] (zM <| zE (oCv un3 in180 ((n % 18446744073709551616).toNat) (hr := by exact (conv_u64 _))) <| zM <| zZ) ?_
  refine pwp_seq <| pwp_seq <| kx [(7, (vb (decide (n < 0))))] [] (zM <| zE oLt <| zZ) ?_
  refine pwp_cond (b := decide (n < 0)) rfl (fun h1 => ?_) (fun h1 => ?_)
  · replace h1 := of_decide_eq_true h1
    refine kx [(3, (vqn ((-n).toNat)))] [] (zM <| zE (oNg (((-n).toNat : Nat) : Int) (hr := by exact (neg_u64 (by assumption) hlo))) <| zM <| zZ) ?_
    refine pwp_seq <| kx [] [(0, some (bx (encI (mkI (decide (n < 0)) (val (ofNat ((-n).toNat)))))))] (zM <| zE oLt <| zM <| zE (oCl (t_split ((-n).toNat) (by omega))) <| zE (oCl (t_made (decide (n < 0)) (ofNat ((-n).toNat)) (ofNat_dig _) (Nat.le_trans (ofNat_len3 (by omega)) (by decide)))) <| zT (oSt sh49) <| zZ) ?_
    refine pwp_ret ⟨_, (res_a (cs := (bx (encI (mkI (decide (n < 0)) (val (ofNat ((-n).toNat))))))) (d := (encI (mkI (decide (n < 0)) (val (ofNat ((-n).toNat)))))) rfl rfl sh49 rfl rfl .nil), ?_⟩
    rw [of_neg h1]; rfl
  · replace h1 := of_decide_eq_false h1
    refine pwp_skip <| pwp_seq <| kx [] [(0, some (bx (encI (mkI (decide (n < 0)) (val (ofNat ((n % 18446744073709551616).toNat)))))))] (zM <| zE oLt <| zM <| zE (oCl (t_split ((n % 18446744073709551616).toNat) (by omega))) <| zE (oCl (t_made (decide (n < 0)) (ofNat ((n % 18446744073709551616).toNat)) (ofNat_dig _) (Nat.le_trans (ofNat_len3 (by omega)) (by decide)))) <| zT (oSt sh49) <| zZ) ?_
    refine pwp_ret ⟨_, (res_a (cs := (bx (encI (mkI (decide (n < 0)) (val (ofNat ((n % 18446744073709551616).toNat))))))) (d := (encI (mkI (decide (n < 0)) (val (ofNat ((n % 18446744073709551616).toNat)))))) rfl rfl sh49 rfl rfl .nil), ?_⟩
    rw [of_pos h1 hhi]; rfl
theorem t_compareI (x : RInt) (y : RInt) (hx : x.gs.length ≤ 1099511627776) (hy : y.gs.length ≤ 1099511627776) : Takes Tryz.prog 140 [(encI x), (encI y)] (.val (.int .i64 ((cmpI (toZ x) (toZ y))))) := by
  refine fn_intro Tryz.func140 rfl cb140 rfl ?_
  show PWp _ _ _ _ ⟨[(0, (.d (encI x))), (1, (.d (encI y)))], []⟩
  refine pwp_seq <| kx [(2, (.ref 0 0)), (3, (.ref 1 0))] [(0, some (bx (encI x))), (1, some (bx (encI y)))] (zN (oBx 0) <| zN (oBx 1) <| zM <| zZ) ?_
  refine pwp_seq <| pwp_seq <| kd [(5, (vi (signI (toZ x)))), (6, (vi (signI (toZ y))))] [] mo (wR (oLa sh49) <| wE (oCl (t_sign x (by omega))) <| wR (oLa sh49) <| wE (oCl (t_sign y (by omega))) <| wM <| wM <| wZ) ?_
  refine pwp_seq <| kx [(14, (vb ((signI (toZ x)) != (signI (toZ y)))))] [] (zM <| zM <| zE oNe <| zZ) ?_
  refine pwp_cond (b := ((signI (toZ x)) != (signI (toZ y)))) rfl (fun h1 => ?_) (fun h1 => ?_)
  · replace h1 := bne_iff_ne.1 h1
    refine pwp_seq <| kx [(4, (vi (cmpI (signI (toZ x)) (signI (toZ y)))))] [] (zM <| zM <| zE (oCl (t_cmp_int (signI (toZ x)) (signI (toZ y)))) <| zM <| zZ) ?_
    refine pwp_ret ⟨_, (.tmp (d := (.val (.int .i64 ((cmpI (signI (toZ x)) (signI (toZ y))))))) rfl .nil), ?_⟩
    rw [← cmp_sign h1]; rfl
  · replace h1 := bne_eq_false_iff_eq.1 h1
    refine pwp_skip <| pwp_seq <| kd [(7, (vi (cmpI ((val (grpI x) : Nat) : Int) ((val (grpI y) : Nat) : Int))))] [] mo (wR (oLa sh49) <| wE (oCl (t_groups x (by omega))) <| wR (oLa sh49) <| wE (oCl (t_groups y (by omega))) <| wE (oCl (t_compare (grpI x) (grpI y) (grpI_can _) (grpI_can _) (Nat.le_trans (grpI_len _) (by omega)))) <| wM <| wZ) ?_
    refine pwp_seq <| pwp_seq <| kx [(24, (vb x.neg))] [] (zE (oFr fo49_0) <| zR (oL1 sh4) <| zZ) ?_
    refine pwp_cond (b := x.neg) rfl (fun h2 => ?_) (fun h2 => ?_)
    · refine pwp_seq <| kx [(4, (vi (-(cmpI ((val (grpI x) : Nat) : Int) ((val (grpI y) : Nat) : Int)))))] [] (zM <| zE (oNg (-(cmpI ((val (grpI x) : Nat) : Int) ((val (grpI y) : Nat) : Int))) (hr := by exact (wi64 (by omega) (by have := cmpI_range ((val (grpI x) : Nat) : Int) ((val (grpI y) : Nat) : Int); omega) (by have := cmpI_range ((val (grpI x) : Nat) : Int) ((val (grpI y) : Nat) : Int); omega)))) <| zM <| zZ) ?_
      refine pwp_ret ⟨_, (.tmp (d := (.val (.int .i64 (-(cmpI ((val (grpI x) : Nat) : Int) ((val (grpI y) : Nat) : Int)))))) rfl .nil), ?_⟩
      rw [← cmp_neg h1 h2]; rfl
    · refine pwp_skip <| pwp_seq <| kx [(4, (vi (cmpI ((val (grpI x) : Nat) : Int) ((val (grpI y) : Nat) : Int))))] [] (zM <| zM <| zZ) ?_
      refine pwp_ret ⟨_, (.tmp (d := (.val (.int .i64 ((cmpI ((val (grpI x) : Nat) : Int) ((val (grpI y) : Nat) : Int)))))) rfl .nil), ?_⟩
      rw [← cmp_pos h1 h2]; rfl
end Go.Proofs.YtihgdjljnaekmaaGreat
namespace Go.Proofs.YtihgdjljnaekmaaGreat
open Go.RowKit Go.Shelf
attribute [local go_sem] Oper.semAt_some
set_option maxRecDepth 100000 in
set_option maxHeartbeats 2000000 in
theorem trimV (b cap : Nat) (l : List Nat) (hd : Go.Fid.Dig l) (h0 : Go.Fid.val l ≠ 0) (w : World) (hc : ∀ i, i < l.length → w.cell? ⟨b, i, none⟩ = some (.int .u32 ((l.getD i 0 : Nat) : Int))) (h1 : l.length ≤ cap) (h2 : cap ≤ maxLen) :
    CallsIn Fence.wide 1 Tryz.prog 179 #[.slice (some ⟨b, 0, none⟩) l.length cap] w fun e w' => e = .returned (.slice (some ⟨b, 0, none⟩) (Go.Fid.ofNat (Go.Fid.val l)).length cap) ∧ w' = w := by
  refine callsIn_of_wp Tryz.func179 rfl trivial ?_ rfl
  simp only [Tryz.ntmps179, List.size_toArray, List.length_cons, List.length_nil, Nat.reduceAdd, Nat.reduceSub, Array.replicate_succ, Array.replicate_zero, List.push_toArray, List.append_toArray, List.nil_append, List.cons_append]
  gi_wp2
  gi_loopw [0] (fun i wr => ∃ j : Nat, j ≤ l.length ∧ 0 < j ∧ i = .slice (some ⟨b, 0, none⟩) j cap ∧ Go.Fid.val (l.take j) = Go.Fid.val l ∧ wr = w)
    (fun i _ => match i with | .slice _ n _ => n | _ => 0)
  case atStart =>
    have hl : 0 < l.length := by
      rcases l with _ | ⟨d, l⟩
      · exact absurd rfl h0
      · simp
    exact ⟨l.length, Nat.le_refl _, hl, rfl, by rw [List.take_length], rfl⟩
  case round =>
    obtain ⟨j, hj, hj0, rfl, hv, rfl⟩ := hrel
    have hcj := hc (j - 1) (by omega)
    have hj63 : (j : Int) ≤ 9223372036854775807 := by unfold maxLen at h2; omega
    have hv2 := Go.Fid.val_take_succ l (j - 1)
    rw [show j - 1 + 1 = j by omega] at hv2
    by_cases hz : l.getD (j - 1) 0 = 0
    · rw [hz] at hcj hv2
      have h1j : 0 < j - 1 := by
        rcases Nat.eq_zero_or_pos (j - 1) with e | e
        · rw [e, List.take_zero, Go.Fid.val_nil, Nat.mul_zero] at hv2
          omega
        · exact e
      gi_wp2
      go_roundw
      case rel => exact ⟨j - 1, by omega, h1j, by simp, by rw [← hv, hv2]; simp, trivial⟩
      case measure => simp; omega
    · gi_wp2
      · rename_i hq
        exfalso
        simp [List.getD] at hz hq
        omega
      · refine ⟨rfl, .slice (some ⟨b, 0, none⟩) j cap, by simp [results, Tryz.results179, go_sem], ?_⟩
        have e : Go.Fid.ofNat (Go.Fid.val l) = l.take j := by
          rw [← hv]
          refine (Go.Fid.can_eq ⟨hd.take j, ?_⟩).symm
          unfold Go.Fid.Top
          have h5 : (l.take j).length - 1 = j - 1 := by rw [List.length_take]; omega
          rw [h5]
          have h6 : j - 1 < l.length := by omega
          simp [List.getD, List.getElem?_eq_getElem h6, List.getElem?_take_of_lt (show j - 1 < j by omega)] at hz ⊢
          exact hz
        rw [e, List.length_take, Nat.min_eq_left hj]
        exact ⟨rfl, rfl⟩
theorem trim_cb : Go.Fid.callB Tryz.prog 179 = true := by kernel_rfl
open Go.Fid in
theorem e_trimO {o : Oper} {S : Nat → SV} {x : Operand} {ats : Array TypeId} {k T m : Nat} (l : List Nat) (ho : o.op = .call { callee := .value (.func 179), args := #[x], argTypes := ats }) (hx : ev S x = .own k T 1 m) (hl : l.length = m) (hd : Dig l) (h0 : val l ≠ 0) :
    EOk Tryz.prog o S [(k, l.map (fun g => SV.d (enc_u32 g)))] (.own k T 1 (ofNat (val l)).length) :=
  fun a w D β Q hop hrd hD => by
    have hxv := hop x (by simp [ho, Op.operands, Call.operands])
    rw [hx] at hxv
    have hm : 0 < m := by
      rcases Nat.eq_zero_or_pos m with e | e
      · rw [e] at hl
        have := List.eq_nil_of_length_eq_zero hl
        subst this
        exact absurd rfl h0
      · exact e
    have hle : (ofNat (val l)).length ≤ l.length := ofNat_length_le (val_lt hd)
    rcases hxv with ⟨_, e, _⟩ | ⟨b, cap, vs, h1, h2, h3, h4, h5, h6⟩
    · omega
    · have hblk := hrd (k, l.map (fun g => SV.d (enc_u32 g))) (by simp)
      rcases hblk with ⟨g1, _⟩ | ⟨b', vs', T', g1, g2, g3, g4, g5⟩
      · rw [h1] at g1; cases g1
      · obtain rfl : b = b' := by rw [h1] at g1; injection g1
        rw [h3] at g2
        injection g2 with g2
        injection g2 with g2 gT
        subst g2; subst gT
        have hcell : ∀ i, w.cell? ⟨b, i, none⟩ = vs[i]? := fun i => cell_of_row w b i vs T (0, 0) h3
        have hrun : (execOp a.eval o).run Tryz.prog w = .ok (.enter 179 #[.slice (some ⟨b, 0, none⟩) l.length cap]) w := by
          simp only [execOp, ho, resolve, Deferred.ofValue, Act.eval, Sem.run_bind, Sem.run_pure, Result.andThen_ok, invoke, Array.empty_append, Array.append_empty]
          rw [run_callFunc trim_cb]
          simp [h2, hl]
        refine wp_enter hrun (((callsIn_wide (n := 1)).1 (trimV b cap l hd h0 w (fun i hi => ?_) (by omega) h6)).mono fun e w' h => ?_)
        · rw [hcell]
          obtain ⟨u, e1, _, e3⟩ := g4 i (.d (enc_u32 (l.getD i 0))) (by rw [List.getElem?_map, List.getElem?_eq_getElem hi]; simp [List.getD, List.getElem?_eq_getElem hi])
          rw [e1, rep_val e3]
        · obtain ⟨he, rfl⟩ := h
          exact ⟨_, he, _, D, rfl, Below.refl _ _, ⟨fun _ _ _ h => h, fun _ _ _ h => .inl h⟩, .inr ⟨b, cap, vs, h1, rfl, h3, h4, by omega, h6⟩⟩
open Go.Fid in
theorem trim_take {l : List Nat} (hd : Dig l) : ofNat (val l) = l.take (ofNat (val l)).length := by
  have h1 : ∀ (n : Nat) (l : List Nat), l.length = n → Dig l → ofNat (val l) = l.take (ofNat (val l)).length := by
    intro n
    induction n with
    | zero => intro l hl _; rw [List.eq_nil_of_length_eq_zero hl]; rw [val_nil, ofNat_zero]; rfl
    | succ n ih =>
      intro l hl hd
      have h2 := val_take_succ l n
      rw [← hl, List.take_length] at h2
      by_cases hz : l.getD n 0 = 0
      · rw [hz, Nat.mul_zero, Nat.add_zero] at h2
        have h3 := ih (l.take n) (by rw [List.length_take]; omega) (hd.take n)
        rw [← h2, List.take_take] at h3
        have h4 : (ofNat (val l)).length ≤ n := by
          rw [h2]; exact ofNat_length_le (by have := val_lt (hd.take n); rwa [List.length_take, Nat.min_eq_left (by omega)] at this)
        rw [Nat.min_eq_left h4] at h3
        exact h3
      · have h3 : Cano l := ⟨hd, by
          unfold Top
          rw [show l.length - 1 = n by omega]
          have h6 : n < l.length := by omega
          simp [List.getD, List.getElem?_eq_getElem h6] at hz ⊢
          exact hz⟩
        rw [← can_eq h3, List.take_length]
  exact h1 _ l rfl hd
end Go.Proofs.YtihgdjljnaekmaaGreat
namespace Go.Proofs.YtihgdjljnaekmaaGreat
open Go.Fid
set_option maxRecDepth 4000
set_option linter.unusedVariables false
set_option linter.unusedSimpArgs false
theorem cb196 : callB Tryz.prog 196 = true := by kernel_rfl
theorem ze47 : zeroB Tryz.prog 47 = some [.slice none 0 0] := by kernel_rfl
theorem zo47 : ZOk [.slice none 0 0] [.sl 135 1 []] := by simp [ZOk, Value.oneCell']
theorem t_short (a : List Nat) (d : Nat) (hda : Dig a) (hd0 : 0 < d) (hd1 : d ≤ 1000000000) (hla : a.length ≤ 17592186044416) : Takes Tryz.prog 196 [(.sl 135 1 (List.map enc_u32 a)), (.val (.int .u32 (((d : Nat) : Int))))] (.tup [(.sl 135 1 (List.map enc_u32 (ofNat (val a / d)))), (.val (.int .u32 ((((val a % d) : Nat) : Int))))]) := by
  refine fn_intro Tryz.func196 rfl cb196 rfl ?_
  show PWp _ _ _ _ ⟨[(0, (vl 135 1 enc_u32 a)), (1, (vwn d))], []⟩
  refine pwp_seq <| kx [(3, (.ref 0 0)), (4, (.ref 1 0)), (5, (vwn 0))] [(0, some (bx (.val (.int .u32 (((d : Nat) : Int)))))), (1, some (bx (.sl 135 1 (List.map enc_u32 []))))] (zN (oBx 0) <| zN (oAl 1 ze47 zo47) <| zM <| zZ) ?_
  refine pwp_seq <| kx [] [(1, some [(.own 2 135 1 a.length)]), (2, some (bm enc_u32 (List.replicate a.length 0)))] (zM <| zE (oLm el47) <| zN (oMk 2 enc_u32 (0 : Nat) a.length a.length el47 ze135 zo135 by135) <| zT (oSo sh47) <| zZ) ?_
  refine pwp_seq <| kx [(6, (.ref 3 0))] [(3, some (bx (.val (.int .u64 (0)))))] (zH (oAl 3 ze180 zo180) <| zT (oSt sh180) <| zZ) ?_
  refine pwp_seq <| pwp_backL backs cb158 rfl 7 enc_u32 a 0 (fun (q, rest) => ⟨[(3, (.ref 0 0)), (4, (.ref 1 0)), (5, (vwn 0)), (6, (.ref 3 0))], [(0, some (bx (.val (.int .u32 (((d : Nat) : Int)))))), (1, some [(.own 2 135 1 a.length)]), (2, some (bm enc_u32 q)), (3, some (bx (.val (.int .u64 (((rest : Nat) : Int))))))]⟩) (fun (j : Nat) (q, rest) => q.length = a.length ∧ Dig q ∧ rest < d ∧ val (a.drop (a.length - j)) = val (q.drop (a.length - j)) * d + rest) (List.replicate a.length 0, 0) rfl rfl rfl rfl rfl rfl rfl rfl rfl rfl rfl rfl (fun _ => rfl) (fun _ => rfl) wk ⟨by simp, dig_replicate _, hd0, by simp [val, val_replicate]⟩ (by omega) ?_ ?_
  · rintro rl j ⟨q, rest⟩ hj ⟨hlen, hdq, hr, hv⟩
    have hg := hda.getD (a.length - 1 - j)
    obtain ⟨hb1, hb2⟩ := short_bound hr hd1 hg
    refine pwp_seq <| kx [(7, (vin (a.length - 1 - j)))] [] (zM <| zZ) ?_
    refine kx [(8, (vwn (a.getD (a.length - 1 - j) 0)))] [] (zM <| zZ) ?_
    refine pwp_block <| pwp_seq <| kx [(9, (vqn ((rest * 1000000000) + (a.getD (a.length - 1 - j) 0))))] [] (zR (oL1 sh180) <| zE (oMl (rest * 1000000000)) <| zM <| zE (oCv un135 in180 (a.getD (a.length - 1 - j) 0)) <| zE (oAd ((rest * 1000000000) + (a.getD (a.length - 1 - j) 0))) <| zM <| zZ) ?_
    refine kd [] [(2, some (bm enc_u32 (q.set (a.length - 1 - j) (((rest * 1000000000) + (a.getD (a.length - 1 - j) 0)) / d)))), (3, some (bx (.val (.int .u64 ((((((rest * 1000000000) + (a.getD (a.length - 1 - j) 0)) % d) : Nat) : Int))))))] mo (wR (oL1 sh47) <| wM <| wM <| wR (oL1 sh135) <| wE (oCv un135 in180 d) <| wE (oQu (((rest * 1000000000) + (a.getD (a.length - 1 - j) 0)) / d)) <| wE (oCv un180 in135 (((rest * 1000000000) + (a.getD (a.length - 1 - j) 0)) / d)) <| wM <| wR (oL1 sh135) <| wE (oCv un135 in180 d) <| wE (oRe (((rest * 1000000000) + (a.getD (a.length - 1 - j) 0)) % d)) <| wE (oXo el47 (a.length - 1 - j)) <| wT (oSp sh135 (a.length - 1 - j) (((rest * 1000000000) + (a.getD (a.length - 1 - j) 0)) / d)) <| wT (oSt sh180) <| wZ) ?_
    exact ⟨(q.set (a.length - 1 - j) ((rest * 1000000000 + a.getD (a.length - 1 - j) 0) / d), (rest * 1000000000 + a.getD (a.length - 1 - j) 0) % d), wk, ⟨by simpa using hlen, hdq.set _ hb2, Nat.mod_lt _ hd0, short_step hj hlen hv rfl⟩⟩
  · rintro ⟨q, rest⟩ ⟨hlen, hdq, hr, hv⟩
    obtain ⟨e1, e2⟩ := short_end hv hr
    refine pwp_seq <| pwp_sim (publishB (j := 1) (k := 2) (es := List.map enc_u32 q) rfl rfl rfl (pub_cells _ _ (fun _ => rfl)) (map_len _ _ hlen) (pub_take _ _ (fun _ => rfl) hlen)) ?_
    refine kd [(5, (vwn rest))] [(1, some (bx (.sl 135 1 (List.map enc_u32 (ofNat (val q))))))] mo (wR (oL1 sh47) <| wE (oCl (t_trim q (by assumption) (by omega))) <| wR (oL1 sh180) <| wE (oCv un180 in135 rest) <| wT (oSt sh47) <| wM <| wZ) ?_
    refine pwp_ret ⟨_, (res_1 (cs := (bx (.sl 135 1 (List.map enc_u32 (ofNat (val q)))))) (d := (.sl 135 1 (List.map enc_u32 (ofNat (val q))))) rfl rfl sh47 rfl rfl (.tmp (d := (.val (.int .u32 (((rest : Nat) : Int))))) rfl .nil)), ?_⟩
    rw [← e1, ← e2]; rfl
theorem o_times (a b : List Nat) (hda : Dig a) (hdb : Dig b) (hla : a.length ≤ 4398046511104) (hlb : b.length ≤ 4398046511104) (h0 : 0 < val a * val b) : TakesO Tryz.prog 150 [(.sl 135 1 (List.map enc_u32 a)), (.sl 135 1 (List.map enc_u32 b))] 135 1 (ofNat (val a * val b)).length (List.map enc_u32 (ofNat (val a * val b))) := by
  refine fn_introO Tryz.func150 rfl cb150 rfl (ofNat_len_pos h0) ?_
  show PWp _ _ _ _ ⟨[(0, (vl 135 1 enc_u32 a)), (1, (vl 135 1 enc_u32 b))], []⟩
  refine pwp_seq <| kx [] [] (zE (oNl 135 1) <| zZ) ?_
  refine pwp_seq <| kx [(5, (.own 0 135 1 (a.length + b.length)))] [(0, some (bm enc_u32 (List.replicate (a.length + b.length) 0)))] (zM <| zE (oLm el47) <| zM <| zE (oLm el47) <| zE (oAd (a.length + b.length)) <| zN (oMk 0 enc_u32 (0 : Nat) (a.length + b.length) (a.length + b.length) el47 ze135 zo135 by135) <| zM <| zZ) ?_
  refine pwp_seq <| pwp_seq <| kx [(18, (vl 135 1 enc_u32 a)), (19, (vin a.length)), (20, (vin 0))] [] (zM <| zE (oLm el47) <| zM <| zZ) ?_
  refine pwp_block <| pwp_loop (α := Nat × List Nat) (fun (i, out) => ⟨[(1, (vl 135 1 enc_u32 b)), (5, (.own 0 135 1 (a.length + b.length))), (18, (vl 135 1 enc_u32 a)), (19, (vin a.length)), (20, (vin i))], [(0, some (bm enc_u32 out))]⟩) (fun (i, out) => out.length = a.length + b.length ∧ Dig out ∧ i ≤ a.length ∧ (∀ k, i + b.length ≤ k → out.getD k 0 = 0) ∧ val out = val (a.take i) * val b) (fun (i, out) => a.length - i) (0, List.replicate (a.length + b.length) 0) wk ⟨by simp, dig_replicate _, Nat.zero_le _, fun k _ => getD_replicate _ k, by simp [val, val_replicate]⟩ ?_
  rintro ⟨i, out⟩ ⟨hlen, hdo, hi, hz, hv⟩
  have hai := hda.getD i
  refine pwp_seq <| kx [(21, (vb (decide (((i : Nat) : Int) < ((a.length : Nat) : Int)))))] [] (zE oLt <| zZ) ?_
  refine pwp_seq <| pwp_cond rfl (fun h1 => ?_) (fun h1 => ?_)
  · replace h1 := of_decide_eq_true h1
    refine pwp_skip <| pwp_seq <| pwp_block <| pwp_seq <| kx [(6, (vin i)), (7, (vwn (a.getD i 0)))] [] (zM <| zE (oXl el47 i (0 : Nat)) <| zE (oC1 sh135) <| zM <| zM <| zZ) ?_
    refine pwp_seq <| kx [(8, (vqn 0))] [] (zM <| zZ) ?_
    refine pwp_seq <| pwp_seq <| kx [(25, (vl 135 1 enc_u32 b)), (26, (vin b.length)), (27, (vin 0))] [] (zM <| zE (oLm el47) <| zM <| zZ) ?_
    refine pwp_block <| pwp_loop (α := Nat × List Nat × Nat) (fun (j, o2, c) => ⟨[(1, (vl 135 1 enc_u32 b)), (5, (.own 0 135 1 (a.length + b.length))), (6, (vin i)), (7, (vwn (a.getD i 0))), (8, (vqn c)), (18, (vl 135 1 enc_u32 a)), (19, (vin a.length)), (20, (vin i)), (25, (vl 135 1 enc_u32 b)), (26, (vin b.length)), (27, (vin j))], [(0, some (bm enc_u32 o2))]⟩) (fun (j, o2, c) => o2.length = a.length + b.length ∧ Dig o2 ∧ j ≤ b.length ∧ c < 1000000000 ∧ (∀ k, i + b.length ≤ k → o2.getD k 0 = 0) ∧ val o2 + pw (i + j) * c = val (a.take i) * val b + pw i * (a.getD i 0 * val (b.take j))) (fun (j, o2, c) => b.length - j) (0, out, 0) wk ⟨hlen, hdo, Nat.zero_le _, by decide, hz, by simp [val, hv]⟩ ?_
    rintro ⟨j, o2, c⟩ ⟨hlen2, hdo2, hj, hc, hz2, hv2⟩
    have hbj := hdb.getD j
    have hoj := hdo2.getD (i + j)
    have hpq : a.getD i 0 * b.getD j 0 ≤ 999999999 * 999999999 := Nat.mul_le_mul (by omega) (by omega)
    refine pwp_seq <| kx [(28, (vb (decide (((j : Nat) : Int) < ((b.length : Nat) : Int)))))] [] (zE oLt <| zZ) ?_
    refine pwp_seq <| pwp_cond rfl (fun h2 => ?_) (fun h2 => ?_)
    · replace h2 := of_decide_eq_true h2
      refine pwp_skip <| pwp_seq <| pwp_block <| pwp_seq <| kx [(9, (vin j)), (10, (vwn (b.getD j 0)))] [] (zM <| zE (oXl el47 j (0 : Nat)) <| zE (oC1 sh135) <| zM <| zM <| zZ) ?_
      refine pwp_seq <| kx [(11, (vqn (((o2.getD (i + j) 0) + ((a.getD i 0) * (b.getD j 0))) + c)))] [] (zM <| zM <| zM <| zE (oAd (i + j)) <| zE (oXo el47 (i + j)) <| zR (oLp sh135 (i + j) (0 : Nat)) <| zE (oCv un135 in180 (o2.getD (i + j) 0)) <| zM <| zE (oCv un135 in180 (a.getD i 0)) <| zM <| zE (oCv un135 in180 (b.getD j 0)) <| zE (oMl ((a.getD i 0) * (b.getD j 0))) <| zE (oAd ((o2.getD (i + j) 0) + ((a.getD i 0) * (b.getD j 0)))) <| zM <| zE (oAd (((o2.getD (i + j) 0) + ((a.getD i 0) * (b.getD j 0))) + c)) <| zM <| zZ) ?_
      refine kx [(8, (vqn ((((o2.getD (i + j) 0) + ((a.getD i 0) * (b.getD j 0))) + c) / 1000000000)))] [(0, some (bm enc_u32 (o2.set (i + j) ((((o2.getD (i + j) 0) + ((a.getD i 0) * (b.getD j 0))) + c) % 1000000000))))] (zM <| zM <| zM <| zE (oAd (i + j)) <| zM <| zE (oRe ((((o2.getD (i + j) 0) + ((a.getD i 0) * (b.getD j 0))) + c) % 1000000000)) <| zE (oCv un180 in135 ((((o2.getD (i + j) 0) + ((a.getD i 0) * (b.getD j 0))) + c) % 1000000000)) <| zM <| zE (oQu ((((o2.getD (i + j) 0) + ((a.getD i 0) * (b.getD j 0))) + c) / 1000000000)) <| zE (oXo el47 (i + j)) <| zT (oSp sh135 (i + j) ((((o2.getD (i + j) 0) + ((a.getD i 0) * (b.getD j 0))) + c) % 1000000000)) <| zM <| zZ) ?_
      refine kx [(27, (vin (j + 1)))] [] (zE (oAd (j + 1)) <| zM <| zZ) ?_
      exact ⟨(j + 1, o2.set (i + j) ((o2.getD (i + j) 0 + a.getD i 0 * b.getD j 0 + c) % 1000000000), (o2.getD (i + j) 0 + a.getD i 0 * b.getD j 0 + c) / 1000000000), wk, (by obtain ⟨q1, q2⟩ := times_step (by omega) hdo2 hv2 rfl (val_take_succ b j); exact ⟨by simpa using hlen2, q1, by omega, by omega, zero_set (by omega) hz2, q2⟩), (by first | omega | (dsimp only; omega))⟩
    · replace h2 := of_decide_eq_false h2
      have hje : j = b.length := by omega
      rw [hje] at hv2
      refine pwp_exit <| kx [] [(0, some (bm enc_u32 (o2.set (i + b.length) c)))] (zM <| zM <| zM <| zE (oLm el47) <| zE (oAd (i + b.length)) <| zM <| zE (oCv un180 in135 c) <| zE (oXo el47 (i + b.length)) <| zT (oSp sh135 (i + b.length) c) <| zZ) ?_
      refine kx [(20, (vin (i + 1)))] [] (zE (oAd (i + 1)) <| zM <| zZ) ?_
      exact ⟨(i + 1, o2.set (i + b.length) c), wk, (by obtain ⟨q1, q2, q3, q4⟩ := times_row hdo2 (by omega) hlen2 hz2 hc hv2; exact ⟨q1, q2, by omega, q3, q4⟩), (by first | omega | (dsimp only; omega))⟩
  · replace h1 := of_decide_eq_false h1
    have hie : i = a.length := by omega
    rw [hie, List.take_length] at hv
    refine pwp_exit <| pwp_seq <| kx [(4, (.own 0 135 1 ((ofNat (val out)).length)))] [] (zM <| zR ⟨_, e_trimO out (by exact rfl) (by exact rfl) hlen hdo (by omega), by kernel_rfl⟩ <| zM <| zZ) ?_
    rw [← hv]
    refine pwp_ret ⟨4, 0, rfl, rfl, (bm enc_u32 out), rfl, ?_⟩
    exact own_prefix _ (trim_take hdo)
end Go.Proofs.YtihgdjljnaekmaaGreat
