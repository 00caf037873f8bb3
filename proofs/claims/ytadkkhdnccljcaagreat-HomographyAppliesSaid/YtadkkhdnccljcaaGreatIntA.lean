/-
  Functions walked: each takes its data to what is said. Printed by a program of ours.
-/
import Derived.Test.YtadkkhdnccljcaaGreatLeafB
import Derived.Test.YtadkkhdnccljcaaGreatFid14
namespace Go.Proofs.YtadkkhdnccljcaaGreat
open Go.Fid
set_option maxRecDepth 4000
set_option linter.unusedVariables false
set_option linter.unusedSimpArgs false
theorem cb128 : callB Tryz.prog 128 = true := by kernel_rfl
theorem cb135 : callB Tryz.prog 135 = true := by kernel_rfl
theorem cb138 : callB Tryz.prog 138 = true := by kernel_rfl
theorem cb158 : callB Tryz.prog 158 = true := by kernel_rfl
theorem cb159 : callB Tryz.prog 159 = true := by kernel_rfl
theorem cb168 : callB Tryz.prog 168 = true := by kernel_rfl
theorem fo30_0 : fieldB Tryz.prog 30 0 = some 0 := by kernel_rfl
theorem fo30_1 : fieldB Tryz.prog 30 1 = some 1 := by kernel_rfl
theorem sh4 : shapeB Tryz.prog 4 = some (false, 1) := by kernel_rfl
theorem t_big (a : Nat) : Takes Tryz.prog 159 [(.val (.int .u32 (((a : Nat) : Int))))] (.val (.bool ((decide (1000000000 ≤ ((a : Nat) : Int)))))) := by
  refine fn_intro Tryz.func159 rfl cb159 rfl ?_
  show PWp _ _ _ _ ⟨[(0, (vwn a))], []⟩
  refine pwp_seq <| pwp_S (S' := [(0, (vwn a))]) (B' := []) ?_ ?_
  · exact sM (vb false) rfl rfl <| sNil rfl rfl
  refine pwp_seq <| pwp_S (S' := [(2, (vb (decide (1000000000 ≤ ((a : Nat) : Int)))))]) (B' := []) ?_ ?_
  · exact sM (vwn a) rfl rfl <| sE' (e_geq rfl rfl rfl) rfl <| sM (vb (decide (1000000000 ≤ ((a : Nat) : Int)))) rfl rfl <| sNil rfl rfl
  refine pwp_ret ⟨_, (.tmp (d := (.val (.bool (decide (1000000000 ≤ ((a : Nat) : Int)))))) rfl .nil), ?_⟩
  rfl
theorem t_index (l : List Nat) (hb : l.length ≤ 17592186044416) : Takes Tryz.prog 168 [(.sl 138 1 (List.map enc_u32 l)), (.val (.func (.func 159) #[] #[]))] (.val (.int .i64 ((firstBig l)))) := by
  refine fn_intro Tryz.func168 rfl cb168 rfl ?_
  show PWp _ _ _ _ ⟨[(0, (vl 138 1 enc_u32 l)), (1, (.d (.val (.func (.func 159) #[] #[]))))], []⟩
  refine pwp_seq <| pwp_S (S' := [(0, (vl 138 1 enc_u32 l)), (1, (.d (.val (.func (.func 159) #[] #[]))))]) (B' := []) ?_ ?_
  · exact sM (vin 0) rfl rfl <| sNil rfl rfl
  refine pwp_seq <| pwp_seq <| pwp_S (S' := [(0, (vl 138 1 enc_u32 l)), (1, (.d (.val (.func (.func 159) #[] #[])))), (7, (vin l.length)), (8, (vin 0))]) (B' := []) ?_ ?_
  · exact sM (vl 138 1 enc_u32 l) rfl rfl <| sE' (e_ln (r := ((l.length : Nat) : Int)) rfl el28 rfl (by simp)) rfl <| sM (vin 0) rfl rfl <| sNil rfl rfl
  refine pwp_block <| pwp_loop (α := Nat) (fun i => ⟨[(0, (vl 138 1 enc_u32 l)), (1, (.d (.val (.func (.func 159) #[] #[])))), (7, (vin l.length)), (8, (vin i))], []⟩) (fun i => i ≤ l.length ∧ Dig (l.take i)) (fun i => l.length - i) 0 (weak rfl rfl) ⟨Nat.zero_le _, dig_nil⟩ ?_
  rintro i ⟨hi, hd⟩
  refine pwp_seq <| pwp_S (S' := [(0, (vl 138 1 enc_u32 l)), (1, (.d (.val (.func (.func 159) #[] #[])))), (7, (vin l.length)), (8, (vin i)), (9, (vb (decide (((i : Nat) : Int) < ((l.length : Nat) : Int)))))]) (B' := []) ?_ ?_
  · exact sE' (e_lss rfl rfl rfl) rfl <| sNil rfl rfl
  refine pwp_seq <| pwp_cond (b := decide (((i : Nat) : Int) < ((l.length : Nat) : Int))) rfl (fun h1 => ?_) (fun h1 => ?_)
  · replace h1 := of_decide_eq_true h1
    refine pwp_skip <| pwp_seq <| pwp_block <| pwp_seq <| pwp_S (S' := [(0, (vl 138 1 enc_u32 l)), (1, (.d (.val (.func (.func 159) #[] #[])))), (5, (vin i)), (7, (vin l.length)), (8, (vin i))]) (B' := []) ?_ ?_
    · exact sM (vin i) rfl rfl <| sM (vin i) rfl rfl <| sNil rfl rfl
    refine pwp_seq <| pwp_S (S' := [(0, (vl 138 1 enc_u32 l)), (1, (.d (.val (.func (.func 159) #[] #[])))), (5, (vin i)), (7, (vin l.length)), (8, (vin i)), (16, (vb (decide (1000000000 ≤ (((l.getD i 0) : Nat) : Int)))))]) (B' := []) ?_ ?_
    · exact sM (.d (.val (.func (.func 159) #[] #[]))) rfl rfl <| sM (vl 138 1 enc_u32 l) rfl rfl <| sM (vin i) rfl rfl <| sE' (e_ixs (j := i) (cs := (Dat.cells (.val (.int .u32 ((((l.getD i 0) : Nat) : Int)))))) rfl el28 rfl rfl (by omega) (ixm _ _ _ _ (by omega))) rfl <| sE' (e_lc1 (cs := (Dat.cells (.val (.int .u32 ((((l.getD i 0) : Nat) : Int)))))) (y := (.val (.int .u32 ((((l.getD i 0) : Nat) : Int))))) rfl rfl sh138 rfl) rfl <| sE' (e_cl (t_big (l.getD i 0)) rfl rfl rfl) rfl <| sNil rfl rfl
    refine pwp_cond (b := decide (1000000000 ≤ (((l.getD i 0) : Nat) : Int))) rfl (fun h2 => ?_) (fun h2 => ?_)
    · replace h2 := of_decide_eq_true h2
      refine pwp_seq <| pwp_S (S' := [(4, (vin i))]) (B' := []) ?_ ?_
      · exact sM (vin i) rfl rfl <| sM (vin i) rfl rfl <| sNil rfl rfl
      refine pwp_ret ⟨_, (.tmp (d := (.val (.int .i64 (((i : Nat) : Int))))) rfl .nil), ?_⟩
      rw [firstBig_at (by omega) hd (by omega)]; rfl
    · replace h2 := of_decide_eq_false h2
      refine pwp_skip <| pwp_S (S' := [(0, (vl 138 1 enc_u32 l)), (1, (.d (.val (.func (.func 159) #[] #[])))), (7, (vin l.length)), (8, (vin (i + 1)))]) (B' := []) ?_ ?_
      · exact sE' (e_add (r := (((i + 1) : Nat) : Int)) rfl rfl rfl (wi64 (by omega) (by omega) (by omega))) rfl <| sM (vin (i + 1)) rfl rfl <| sNil rfl rfl
      exact ⟨(i + 1), (weak rfl rfl), ⟨by omega, dig_take_succ (by omega) hd (by omega)⟩, (by omega)⟩
  · replace h1 := of_decide_eq_false h1
    refine pwp_exit <| pwp_seq <| pwp_S (S' := [(4, (vi (-1)))]) (B' := []) ?_ ?_
    · exact sM (vi (-1)) rfl rfl <| sNil rfl rfl
    refine pwp_ret ⟨_, (.tmp (d := (.val (.int .i64 (-1)))) rfl .nil), ?_⟩
    rw [firstBig_neg (by rw [List.take_of_length_le (by omega)] at hd; exact hd)]; rfl
theorem t_contains (l : List Nat) (hb : l.length ≤ 17592186044416) : Takes Tryz.prog 158 [(.sl 138 1 (List.map enc_u32 l)), (.val (.func (.func 159) #[] #[]))] (.val (.bool ((decide (0 ≤ firstBig l))))) := by
  refine fn_intro Tryz.func158 rfl cb158 rfl ?_
  show PWp _ _ _ _ ⟨[(0, (vl 138 1 enc_u32 l)), (1, (.d (.val (.func (.func 159) #[] #[]))))], []⟩
  refine pwp_seq <| pwp_S (S' := [(0, (vl 138 1 enc_u32 l)), (1, (.d (.val (.func (.func 159) #[] #[]))))]) (B' := []) ?_ ?_
  · exact sM (vb false) rfl rfl <| sNil rfl rfl
  refine pwp_seq <| pwp_S (S' := [(4, (vb (decide (0 ≤ (firstBig l)))))]) (B' := []) ?_ ?_
  · exact sM (vl 138 1 enc_u32 l) rfl rfl <| sM (.d (.val (.func (.func 159) #[] #[]))) rfl rfl <| sE' (e_cl (t_index l (by omega)) rfl rfl rfl) rfl <| sE' (e_geq rfl rfl rfl) rfl <| sM (vb (decide (0 ≤ (firstBig l)))) rfl rfl <| sNil rfl rfl
  refine pwp_ret ⟨_, (.tmp (d := (.val (.bool (decide (0 ≤ (firstBig l)))))) rfl .nil), ?_⟩
  rfl
theorem t_valid (x : RInt) (hb : x.gs.length ≤ 17592186044416) : Takes Tryz.prog 135 [(encI x)] (.val (.bool ((validI x)))) := by
  refine fn_intro Tryz.func135 rfl cb135 rfl ?_
  show PWp _ _ _ _ ⟨[(0, (.d (encI x)))], []⟩
  refine pwp_seq <| pwp_S (S' := [(1, (.ref 0 0))]) (B' := [(0, some (bx (encI x)))]) ?_ ?_
  · exact sN (n_bx (d := (encI x)) (cs := (bx (encI x))) 0 rfl rfl rfl rfl) rfl rfl rfl rfl <| sM (vb false) rfl rfl <| sNil rfl rfl
  refine pwp_seq <| pwp_S (S' := [(1, (.ref 0 0)), (3, (vin x.gs.length))]) (B' := [(0, some (bx (encI x)))]) ?_ ?_
  · exact sE' (e_fldr (q := 1) rfl rfl fo30_1 rfl) rfl <| sR (e_ld1 (cs := (bx (encI x))) (y := (vl 138 1 enc_u32 x.gs)) rfl rfl sh28 rfl) rfl rfl rfl rfl <| sE' (e_ln (r := ((x.gs.length : Nat) : Int)) rfl el28 rfl (by simp)) rfl <| sM (vin x.gs.length) rfl rfl <| sNil rfl rfl
  refine pwp_seq <| pwp_seq <| pwp_S (S' := [(1, (.ref 0 0)), (3, (vin x.gs.length)), (8, (vb (((x.gs.length : Nat) : Int) == 0)))]) (B' := [(0, some (bx (encI x)))]) ?_ ?_
  · exact sM (vin x.gs.length) rfl rfl <| sE' (e_eql rfl rfl rfl) rfl <| sNil rfl rfl
  refine pwp_cond (b := (((x.gs.length : Nat) : Int) == 0)) rfl (fun h1 => ?_) (fun h1 => ?_)
  · replace h1 := eq_of_beq h1
    refine pwp_seq <| pwp_S (S' := [(2, (vb (!x.neg)))]) (B' := []) ?_ ?_
    · exact sE' (e_fldr (q := 0) rfl rfl fo30_0 rfl) rfl <| sR (e_ld1 (cs := (bx (encI x))) (y := (vb x.neg)) rfl rfl sh4 rfl) rfl rfl rfl rfl <| sE' (e_not rfl rfl) rfl <| sM (vb (!x.neg)) rfl rfl <| sNil rfl rfl
    refine pwp_ret ⟨_, (.tmp (d := (.val (.bool (!x.neg)))) rfl .nil), ?_⟩
    rw [show validI x = !x.neg from if_pos h1]; rfl
  · replace h1 := ne_of_beq_false h1
    refine pwp_skip <| pwp_seq <| pwp_S (S' := [(2, (vb (((((x.gs.getD (x.gs.length - 1) 0) : Nat) : Int) != 0) && !(decide (0 ≤ firstBig x.gs)))))]) (B' := []) ?_ ?_
    · refine sE' (e_fldr (q := 1) rfl rfl fo30_1 rfl) rfl <| sR (e_ld1 (cs := (bx (encI x))) (y := (vl 138 1 enc_u32 x.gs)) rfl rfl sh28 rfl) rfl rfl rfl rfl <| sM (vin x.gs.length) rfl rfl <| sE' (e_sub (r := (((x.gs.length - 1) : Nat) : Int)) rfl rfl rfl (wi64 (by omega) (by omega) (by omega))) rfl <| sE' (e_ixs (j := (x.gs.length - 1)) (cs := (Dat.cells (.val (.int .u32 ((((x.gs.getD (x.gs.length - 1) 0) : Nat) : Int)))))) rfl el28 rfl rfl (by omega) (ixm _ _ _ _ (by omega))) rfl <| sE' (e_lc1 (cs := (Dat.cells (.val (.int .u32 ((((x.gs.getD (x.gs.length - 1) 0) : Nat) : Int)))))) (y := (.val (.int .u32 ((((x.gs.getD (x.gs.length - 1) 0) : Nat) : Int))))) rfl rfl sh138 rfl) rfl <| sE' (e_neq rfl rfl rfl) rfl <| sM (vb ((((x.gs.getD (x.gs.length - 1) 0) : Nat) : Int) != 0)) rfl rfl <| ?_
      rcases hb2 : ((((x.gs.getD (x.gs.length - 1) 0) : Nat) : Int) != 0) with _ | _
      · replace hb2 := bne_eq_false_iff_eq.1 hb2
        exact sK rfl rfl rfl <| sK rfl rfl rfl <| sK rfl rfl rfl <| sK rfl rfl rfl <| sE' (e_pkf (z := (vb false)) rfl rfl rfl) rfl <| sM (vb false) rfl rfl <| sNil rfl rfl
      · replace hb2 := bne_iff_ne.1 hb2
        exact sE' (e_fldr (q := 1) rfl rfl fo30_1 rfl) rfl <| sR (e_ld1 (cs := (bx (encI x))) (y := (vl 138 1 enc_u32 x.gs)) rfl rfl sh28 rfl) rfl rfl rfl rfl <| sE' (e_cl (t_contains x.gs (by omega)) rfl rfl rfl) rfl <| sE' (e_not rfl rfl) rfl <| sE' (e_pkta rfl rfl rfl) rfl <| sM (vb (true && !(decide (0 ≤ firstBig x.gs)))) rfl rfl <| sNil rfl rfl
    refine pwp_ret ⟨_, (.tmp (d := (.val (.bool ((((((x.gs.getD (x.gs.length - 1) 0) : Nat) : Int) != 0) && !(decide (0 ≤ firstBig x.gs))))))) rfl .nil), ?_⟩
    rw [show validI x = _ from if_neg h1]; rfl
theorem t_groups (x : RInt) (hb : x.gs.length ≤ 17592186044416) : Takes Tryz.prog 128 [(encI x)] (.sl 138 1 (List.map enc_u32 (grpI x))) := by
  refine fn_intro Tryz.func128 rfl cb128 rfl ?_
  show PWp _ _ _ _ ⟨[(0, (.d (encI x)))], []⟩
  refine pwp_seq <| pwp_S (S' := [(1, (.ref 0 0))]) (B' := [(0, some (bx (encI x)))]) ?_ ?_
  · exact sN (n_bx (d := (encI x)) (cs := (bx (encI x))) 0 rfl rfl rfl rfl) rfl rfl rfl rfl <| sE' (e_asgnil 138 1 rfl) rfl <| sNil rfl rfl
  refine pwp_seq <| pwp_seq <| pwp_S (S' := [(1, (.ref 0 0)), (5, (vb (!(validI x))))]) (B' := [(0, some (bx (encI x)))]) ?_ ?_
  · exact sR (e_lda (cs := (bx (encI x))) (y := (.d (encI x))) rfl rfl sh30 rfl rfl) rfl rfl rfl rfl <| sE' (e_cl (t_valid x (by omega)) rfl rfl rfl) rfl <| sE' (e_not rfl rfl) rfl <| sNil rfl rfl
  refine pwp_cond (b := !(validI x)) rfl (fun h1 => ?_) (fun h1 => ?_)
  · refine pwp_seq <| pwp_S (S' := [(2, (vl 138 1 enc_u32 []))]) (B' := []) ?_ ?_
    · exact sE' (e_asgnil 138 1 rfl) rfl <| sNil rfl rfl
    refine pwp_ret ⟨_, (.tmp (d := (.sl 138 1 (List.map enc_u32 []))) rfl .nil), ?_⟩
    rw [show grpI x = [] from if_neg (by simpa using h1)]; rfl
  · refine pwp_skip <| pwp_seq <| pwp_S (S' := [(2, (vl 138 1 enc_u32 x.gs))]) (B' := []) ?_ ?_
    · exact sE' (e_fldr (q := 1) rfl rfl fo30_1 rfl) rfl <| sR (e_ld1 (cs := (bx (encI x))) (y := (vl 138 1 enc_u32 x.gs)) rfl rfl sh28 rfl) rfl rfl rfl rfl <| sM (vl 138 1 enc_u32 x.gs) rfl rfl <| sNil rfl rfl
    refine pwp_ret ⟨_, (.tmp (d := (.sl 138 1 (List.map enc_u32 x.gs))) rfl .nil), ?_⟩
    rw [show grpI x = x.gs from if_pos (by simpa using h1)]; rfl
theorem t_clone (l : List Nat) (hb : l.length ≤ 17592186044416) : Takes Tryz.prog 138 [(.sl 138 1 (List.map enc_u32 l))] (.sl 138 1 (List.map enc_u32 l)) := by
  refine fn_intro Tryz.func138 rfl cb138 rfl ?_
  show PWp _ _ _ _ ⟨[(0, (vl 138 1 enc_u32 l))], []⟩
  refine pwp_seq <| pwp_S (S' := [(0, (vl 138 1 enc_u32 l))]) (B' := []) ?_ ?_
  · exact sE' (e_asgnil 138 1 rfl) rfl <| sNil rfl rfl
  refine pwp_seq <| pwp_seq <| pwp_nilq rfl rfl rfl rfl rfl rfl el28 rfl rfl rfl (fun nb hnb => ?_)
  refine pwp_cond (b := nb) rfl (fun h1 => ?_) (fun h1 => ?_)
  · refine pwp_seq <| pwp_S (S' := [(2, (vl 138 1 enc_u32 []))]) (B' := []) ?_ ?_
    · exact sE' (e_asgnil 138 1 rfl) rfl <| sNil rfl rfl
    refine pwp_ret ⟨_, (.tmp (d := (.sl 138 1 (List.map enc_u32 []))) rfl .nil), ?_⟩
    rw [List.map_eq_nil_iff.1 (hnb h1)]; rfl
  · refine pwp_skip <| pwp_seq <| pwp_S (S' := [(2, (.own 0 138 1 (([] ++ l).length)))]) (B' := [(0, some (bm enc_u32 ([] ++ l)))]) ?_ ?_
    · exact sN (n_bso (pd := []) (es := List.map enc_u32 []) (cs := (bm enc_u32 [])) 0 rfl el28 ze138 zo138 rfl rfl rfl rfl rfl rfl rfl rfl rfl) rfl rfl rfl rfl <| sM (vl 138 1 enc_u32 l) rfl rfl <| sApp1 (m2 := ([] ++ l).length) enc_u32 [] l (fun _ => rfl) rfl rfl rfl rfl el28 ze138 rfl by138 rfl rfl rfl rfl (by simp only [List.length_cons, List.length_nil, maxLen]; omega) (by first | omega | (simp only [List.length_cons, List.length_nil]; omega)) (by repeat first | exact clr_nil _ | refine clr_self ?_ | refine clr_map ?_ | refine clr_bx ?_ | refine clr_d ?_) (by simp; try omega) <| sM (.own 0 138 1 (([] ++ l).length)) rfl rfl <| sNil rfl rfl
    refine pwp_sim (publish (t := 2) (k := 0) (es := List.map enc_u32 ([] ++ l)) rfl rfl (pub_cells _ _ (fun _ => rfl)) (map_len _ _ rfl) (pub_take _ _ (fun _ => rfl) rfl)) ?_
    refine pwp_sim (weak (l := [(2, (vl 138 1 enc_u32 ([] ++ l)))]) (b := []) rfl rfl) ?_
    refine pwp_ret ⟨_, (.tmp (d := (.sl 138 1 (List.map enc_u32 ([] ++ l)))) rfl .nil), ?_⟩
    rfl
end Go.Proofs.YtadkkhdnccljcaaGreat
