/-
  Functions walked: each takes its data to what is said. Printed by a program of ours.
-/
import Derived.Test.YtadkkhdnccljcaaGreatLeafB
import Derived.Test.YtadkkhdnccljcaaGreatFid14
namespace Go.Proofs.YtadkkhdnccljcaaGreat
open Go.Fid
set_option maxRecDepth 4000
set_option linter.unusedVariables false
set_option linter.unusedSimpArgs false
theorem cb128 : callB Tryz.prog 128 = true := by kernel_rfl
theorem cb135 : callB Tryz.prog 135 = true := by kernel_rfl
theorem cb138 : callB Tryz.prog 138 = true := by kernel_rfl
theorem cb158 : callB Tryz.prog 158 = true := by kernel_rfl
theorem cb159 : callB Tryz.prog 159 = true := by kernel_rfl
theorem cb168 : callB Tryz.prog 168 = true := by kernel_rfl
theorem fo30_0 : fieldB Tryz.prog 30 0 = some 0 := by kernel_rfl
theorem fo30_1 : fieldB Tryz.prog 30 1 = some 1 := by kernel_rfl
theorem sh4 : shapeB Tryz.prog 4 = some (false, 1) := by kernel_rfl
theorem t_big (a : Nat) : Takes Tryz.prog 159 [(.val (.int .u32 (((a : Nat) : Int))))] (.val (.bool ((decide (1000000000 ≤ ((a : Nat) : Int)))))) := by
  refine fn_intro Tryz.func159 rfl cb159 rfl ?_
  show PWp _ _ _ _ ⟨[(0, (vwn a))], []⟩
  refine pwp_seq <| kx [] [] (zM <| zZ) ?_
  refine pwp_seq <| kx [(2, (vb (decide (1000000000 ≤ ((a : Nat) : Int)))))] [] (zM <| zE oGe <| zM <| zZ) ?_
  refine pwp_ret ⟨_, (.tmp (d := (.val (.bool (decide (1000000000 ≤ ((a : Nat) : Int)))))) rfl .nil), ?_⟩
  rfl
theorem t_index (l : List Nat) (hb : l.length ≤ 17592186044416) : Takes Tryz.prog 168 [(.sl 138 1 (List.map enc_u32 l)), (.val (.func (.func 159) #[] #[]))] (.val (.int .i64 ((firstBig l)))) := by
  refine fn_intro Tryz.func168 rfl cb168 rfl ?_
  show PWp _ _ _ _ ⟨[(0, (vl 138 1 enc_u32 l)), (1, (.d (.val (.func (.func 159) #[] #[]))))], []⟩
  refine pwp_seq <| kx [] [] (zM <| zZ) ?_
  refine pwp_seq <| pwp_seq <| kx [(7, (vin l.length)), (8, (vin 0))] [] (zM <| zE (oLm el28) <| zM <| zZ) ?_
  refine pwp_block <| pwp_loop (α := Nat) (fun i => ⟨[(0, (vl 138 1 enc_u32 l)), (1, (.d (.val (.func (.func 159) #[] #[])))), (7, (vin l.length)), (8, (vin i))], []⟩) (fun i => i ≤ l.length ∧ Dig (l.take i)) (fun i => l.length - i) 0 wk ⟨Nat.zero_le _, dig_nil⟩ ?_
  rintro i ⟨hi, hd⟩
  refine pwp_seq <| kx [(9, (vb (decide (((i : Nat) : Int) < ((l.length : Nat) : Int)))))] [] (zE oLt <| zZ) ?_
  refine pwp_seq <| pwp_cond rfl (fun h1 => ?_) (fun h1 => ?_)
  · replace h1 := of_decide_eq_true h1
    refine pwp_skip <| pwp_seq <| pwp_block <| pwp_seq <| kx [(5, (vin i))] [] (zM <| zM <| zZ) ?_
    refine pwp_seq <| kx [(16, (vb (decide (1000000000 ≤ (((l.getD i 0) : Nat) : Int)))))] [] (zM <| zM <| zM <| zE (oXl el28 i (0 : Nat)) <| zE (oC1 sh138) <| zE (oCl (t_big (l.getD i 0))) <| zZ) ?_
    refine pwp_cond rfl (fun h2 => ?_) (fun h2 => ?_)
    · replace h2 := of_decide_eq_true h2
      refine pwp_seq <| kx [(4, (vin i))] [] (zM <| zM <| zZ) ?_
      refine pwp_ret ⟨_, (.tmp (d := (.val (.int .i64 (((i : Nat) : Int))))) rfl .nil), ?_⟩
      rw [firstBig_at (by omega) hd (by omega)]; rfl
    · replace h2 := of_decide_eq_false h2
      refine pwp_skip <| kx [(8, (vin (i + 1)))] [] (zE (oAd (i + 1)) <| zM <| zZ) ?_
      exact ⟨(i + 1), wk, ⟨by omega, dig_take_succ (by omega) hd (by omega)⟩, (by omega)⟩
  · replace h1 := of_decide_eq_false h1
    refine pwp_exit <| pwp_seq <| kx [(4, (vi (-1)))] [] (zM <| zZ) ?_
    refine pwp_ret ⟨_, (.tmp (d := (.val (.int .i64 (-1)))) rfl .nil), ?_⟩
    rw [firstBig_neg (by rw [List.take_of_length_le (by omega)] at hd; exact hd)]; rfl
theorem t_contains (l : List Nat) (hb : l.length ≤ 17592186044416) : Takes Tryz.prog 158 [(.sl 138 1 (List.map enc_u32 l)), (.val (.func (.func 159) #[] #[]))] (.val (.bool ((decide (0 ≤ firstBig l))))) := by
  refine fn_intro Tryz.func158 rfl cb158 rfl ?_
  show PWp _ _ _ _ ⟨[(0, (vl 138 1 enc_u32 l)), (1, (.d (.val (.func (.func 159) #[] #[]))))], []⟩
  refine pwp_seq <| kx [] [] (zM <| zZ) ?_
  refine pwp_seq <| kx [(4, (vb (decide (0 ≤ (firstBig l)))))] [] (zM <| zM <| zE (oCl (t_index l (by omega))) <| zE oGe <| zM <| zZ) ?_
  refine pwp_ret ⟨_, (.tmp (d := (.val (.bool (decide (0 ≤ (firstBig l)))))) rfl .nil), ?_⟩
  rfl
theorem t_valid (x : RInt) (hb : x.gs.length ≤ 17592186044416) : Takes Tryz.prog 135 [(encI x)] (.val (.bool ((validI x)))) := by
  refine fn_intro Tryz.func135 rfl cb135 rfl ?_
  show PWp _ _ _ _ ⟨[(0, (.d (encI x)))], []⟩
  refine pwp_seq <| kx [(1, (.ref 0 0))] [(0, some (bx (encI x)))] (zN (oBx 0) <| zM <| zZ) ?_
  refine pwp_seq <| kx [(3, (vin x.gs.length))] [] (zE (oFr fo30_1) <| zR (oL1 sh28) <| zE (oLm el28) <| zM <| zZ) ?_
  refine pwp_seq <| pwp_seq <| kx [(8, (vb (((x.gs.length : Nat) : Int) == 0)))] [] (zM <| zE oEq <| zZ) ?_
  refine pwp_cond (b := (((x.gs.length : Nat) : Int) == 0)) rfl (fun h1 => ?_) (fun h1 => ?_)
  · replace h1 := eq_of_beq h1
    refine pwp_seq <| kx [(2, (vb (!x.neg)))] [] (zE (oFr fo30_0) <| zR (oL1 sh4) <| zE oNt <| zM <| zZ) ?_
    refine pwp_ret ⟨_, (.tmp (d := (.val (.bool (!x.neg)))) rfl .nil), ?_⟩
    rw [show validI x = !x.neg from if_pos h1]; rfl
  · replace h1 := ne_of_beq_false h1
    refine pwp_skip <| pwp_seq <| kx [(2, (vb (((((x.gs.getD (x.gs.length - 1) 0) : Nat) : Int) != 0) && !(decide (0 ≤ firstBig x.gs)))))] [] ?_ ?_
    · refine zE (oFr fo30_1) <| zR (oL1 sh28) <| zM <| zE (oSb (x.gs.length - 1)) <| zE (oXl el28 (x.gs.length - 1) (0 : Nat)) <| zE (oC1 sh138) <| zE oNe <| zE (oV (vb ((((x.gs.getD (x.gs.length - 1) 0) : Nat) : Int) != 0)) (mv_ok (by kernel_rfl))) <| ?_
      rcases hb2 : ((((x.gs.getD (x.gs.length - 1) 0) : Nat) : Int) != 0) with _ | _
      · replace hb2 := bne_eq_false_iff_eq.1 hb2
        exact zK <| zK <| zK <| zK <| zE oPf <| zM <| zZ
      · replace hb2 := bne_iff_ne.1 hb2
        exact zE (oFr fo30_1) <| zR (oL1 sh28) <| zE (oCl (t_contains x.gs (by omega))) <| zE oNt <| zE oPa <| zM <| zZ
    refine pwp_ret ⟨_, (.tmp (d := (.val (.bool ((((((x.gs.getD (x.gs.length - 1) 0) : Nat) : Int) != 0) && !(decide (0 ≤ firstBig x.gs))))))) rfl .nil), ?_⟩
    rw [show validI x = _ from if_neg h1]; rfl
theorem t_groups (x : RInt) (hb : x.gs.length ≤ 17592186044416) : Takes Tryz.prog 128 [(encI x)] (.sl 138 1 (List.map enc_u32 (grpI x))) := by
  refine fn_intro Tryz.func128 rfl cb128 rfl ?_
  show PWp _ _ _ _ ⟨[(0, (.d (encI x)))], []⟩
  refine pwp_seq <| kx [(1, (.ref 0 0))] [(0, some (bx (encI x)))] (zN (oBx 0) <| zE (oNl 138 1) <| zZ) ?_
  refine pwp_seq <| pwp_seq <| kx [(5, (vb (!(validI x))))] [] (zR (oLa sh30) <| zE (oCl (t_valid x (by omega))) <| zE oNt <| zZ) ?_
  refine pwp_cond (b := !(validI x)) rfl (fun h1 => ?_) (fun h1 => ?_)
  · refine pwp_seq <| kx [(2, (vl 138 1 enc_u32 []))] [] (zE (oNl 138 1) <| zZ) ?_
    refine pwp_ret ⟨_, (.tmp (d := (.sl 138 1 (List.map enc_u32 []))) rfl .nil), ?_⟩
    rw [show grpI x = [] from if_neg (by simpa using h1)]; rfl
  · refine pwp_skip <| pwp_seq <| kx [(2, (vl 138 1 enc_u32 x.gs))] [] (zE (oFr fo30_1) <| zR (oL1 sh28) <| zM <| zZ) ?_
    refine pwp_ret ⟨_, (.tmp (d := (.sl 138 1 (List.map enc_u32 x.gs))) rfl .nil), ?_⟩
    rw [show grpI x = x.gs from if_pos (by simpa using h1)]; rfl
theorem t_clone (l : List Nat) (hb : l.length ≤ 17592186044416) : Takes Tryz.prog 138 [(.sl 138 1 (List.map enc_u32 l))] (.sl 138 1 (List.map enc_u32 l)) := by
  refine fn_intro Tryz.func138 rfl cb138 rfl ?_
  show PWp _ _ _ _ ⟨[(0, (vl 138 1 enc_u32 l))], []⟩
  refine pwp_seq <| kx [] [] (zE (oNl 138 1) <| zZ) ?_
  refine pwp_seq <| pwp_seq <| pwp_nilq rfl rfl rfl rfl rfl rfl el28 rfl rfl rfl (fun nb hnb => ?_)
  refine pwp_cond (b := nb) rfl (fun h1 => ?_) (fun h1 => ?_)
  · refine pwp_seq <| kx [(2, (vl 138 1 enc_u32 []))] [] (zE (oNl 138 1) <| zZ) ?_
    refine pwp_ret ⟨_, (.tmp (d := (.sl 138 1 (List.map enc_u32 []))) rfl .nil), ?_⟩
    rw [List.map_eq_nil_iff.1 (hnb h1)]; rfl
  · refine pwp_skip <| pwp_seq <| kf [(2, (.own 0 138 1 (([] ++ l).length)))] [(0, some (bm enc_u32 ([] ++ l)))] (zN (oBo 0 el28 ze138 zo138) <| zM <| zA enc_u32 [] l rfl el28 ze138 by138 <| zM <| zF) ?_
    refine pwp_sim (publish (t := 2) (k := 0) (es := List.map enc_u32 ([] ++ l)) rfl rfl (pub_cells _ _ (fun _ => rfl)) (map_len _ _ rfl) (pub_take _ _ (fun _ => rfl) rfl)) ?_
    refine pwp_ret ⟨_, (.tmp (d := (.sl 138 1 (List.map enc_u32 ([] ++ l)))) rfl .nil), ?_⟩
    rfl
end Go.Proofs.YtadkkhdnccljcaaGreat
