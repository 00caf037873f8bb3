/-
  Functions walked: each takes its data to what is said. Printed by a program of ours.
-/
import Derived.Test.YtcdgmcfkhkikbaaLeafB
import Derived.Test.YtcdgmcfkhkikbaaFid14
namespace Go.Proofs.Ytcdgmcfkhkikbaa
open Go.Fid
set_option maxRecDepth 4000
theorem cb55 : callB Try.prog 55 = true := by kernel_rfl
theorem cb63 : callB Try.prog 63 = true := by kernel_rfl
theorem cb71 : callB Try.prog 71 = true := by kernel_rfl
theorem cb72 : callB Try.prog 72 = true := by kernel_rfl
theorem cb77 : callB Try.prog 77 = true := by kernel_rfl
theorem cb88 : callB Try.prog 88 = true := by kernel_rfl
theorem fo24_0 : fieldB Try.prog 24 0 = some 0 := by kernel_rfl
theorem fo24_1 : fieldB Try.prog 24 1 = some 1 := by kernel_rfl
theorem sh4 : shapeB Try.prog 4 = some (false, 1) := by kernel_rfl
theorem t_big (a : Nat) : Takes Try.prog 72 [(.val (.int .u32 (((a : Nat) : Int))))] (.val (.bool ((decide (1000000000 ≤ ((a : Nat) : Int)))))) := by
  refine fn_intro Try.func72 rfl cb72 rfl ?_
  show PWp _ _ _ _ ⟨[(0, (.d (.val (.int .u32 (((a : Nat) : Int))))))], []⟩
  refine pwp_seq ?_
  refine pwp_S (S' := [(0, (.d (.val (.int .u32 (((a : Nat) : Int)))))), (2, (.d (.val (.bool (false)))))]) (B' := []) ?_ ?_
  · skip
    exact sE (e_asg (y := (.d (.val (.bool (false))))) rfl rfl) rfl rfl rfl <| sNil rfl rfl
  refine pwp_seq ?_
  refine pwp_S (S' := [(0, (.d (.val (.int .u32 (((a : Nat) : Int)))))), (2, (.d (.val (.bool (decide (1000000000 ≤ ((a : Nat) : Int)))))))]) (B' := []) ?_ ?_
  · skip
    exact sE (e_mov (y := (.d (.val (.int .u32 (((a : Nat) : Int)))))) rfl rfl) rfl rfl rfl <| sE (e_geq rfl rfl rfl) rfl rfl rfl <| sE (e_asg (y := (.d (.val (.bool (decide (1000000000 ≤ ((a : Nat) : Int))))))) rfl rfl) rfl rfl rfl <| sNil rfl rfl
  refine pwp_ret ⟨_, (.tmp (d := (.val (.bool (decide (1000000000 ≤ ((a : Nat) : Int)))))) rfl .nil), ?_⟩
  rfl

theorem t_index (l : List Nat) (hb : l.length ≤ 17592186044416) : Takes Try.prog 88 [(.sl 61 1 (List.map enc_u32 l)), (.val (.func (.func 72) #[] #[]))] (.val (.int .i64 ((firstBig l)))) := by
  refine fn_intro Try.func88 rfl cb88 rfl ?_
  show PWp _ _ _ _ ⟨[(0, (.d (.sl 61 1 (List.map enc_u32 l)))), (1, (.d (.val (.func (.func 72) #[] #[]))))], []⟩
  refine pwp_seq ?_
  refine pwp_S (S' := [(0, (.d (.sl 61 1 (List.map enc_u32 l)))), (1, (.d (.val (.func (.func 72) #[] #[])))), (4, (.d (.val (.int .i64 (0)))))]) (B' := []) ?_ ?_
  · skip
    exact sE (e_asg (y := (.d (.val (.int .i64 (0))))) rfl rfl) rfl rfl rfl <| sNil rfl rfl
  refine pwp_seq ?_
  refine pwp_seq ?_
  refine pwp_S (S' := [(0, (.d (.sl 61 1 (List.map enc_u32 l)))), (1, (.d (.val (.func (.func 72) #[] #[])))), (4, (.d (.val (.int .i64 (0))))), (7, (.d (.val (.int .i64 (((l.length : Nat) : Int)))))), (8, (.d (.val (.int .i64 (0)))))]) (B' := []) ?_ ?_
  · skip
    exact sE (e_mov (y := (.d (.sl 61 1 (List.map enc_u32 l)))) rfl rfl) rfl rfl rfl <| sE (e_ln (r := ((l.length : Nat) : Int)) rfl el22 rfl (by simp)) rfl rfl rfl <| sE (e_mov (y := (.d (.val (.int .i64 (0))))) rfl rfl) rfl rfl rfl <| sNil rfl rfl
  refine pwp_block ?_
  refine pwp_loop (α := Nat) (fun i => ⟨[(0, (.d (.sl 61 1 (List.map enc_u32 l)))), (1, (.d (.val (.func (.func 72) #[] #[])))), (4, (.d (.val (.int .i64 (0))))), (7, (.d (.val (.int .i64 (((l.length : Nat) : Int)))))), (8, (.d (.val (.int .i64 (((i : Nat) : Int))))))], []⟩) (fun i => i ≤ l.length ∧ Dig (l.take i)) (fun i => l.length - i) 0 (weak rfl rfl) ⟨Nat.zero_le _, dig_nil⟩ ?_
  rintro i ⟨hi, hd⟩
  refine pwp_seq ?_
  refine pwp_S (S' := [(0, (.d (.sl 61 1 (List.map enc_u32 l)))), (1, (.d (.val (.func (.func 72) #[] #[])))), (4, (.d (.val (.int .i64 (0))))), (7, (.d (.val (.int .i64 (((l.length : Nat) : Int)))))), (8, (.d (.val (.int .i64 (((i : Nat) : Int)))))), (9, (.d (.val (.bool (decide (((i : Nat) : Int) < ((l.length : Nat) : Int)))))))]) (B' := []) ?_ ?_
  · skip
    exact sE (e_lss rfl rfl rfl) rfl rfl rfl <| sNil rfl rfl
  refine pwp_seq ?_
  refine pwp_cond (b := decide (((i : Nat) : Int) < ((l.length : Nat) : Int))) rfl (fun h1 => ?_) (fun h1 => ?_)
  · skip
    replace h1 := of_decide_eq_true h1
    refine pwp_skip ?_
    refine pwp_seq ?_
    refine pwp_block ?_
    refine pwp_seq ?_
    refine pwp_S (S' := [(0, (.d (.sl 61 1 (List.map enc_u32 l)))), (1, (.d (.val (.func (.func 72) #[] #[])))), (4, (.d (.val (.int .i64 (0))))), (5, (.d (.val (.int .i64 (((i : Nat) : Int)))))), (7, (.d (.val (.int .i64 (((l.length : Nat) : Int)))))), (8, (.d (.val (.int .i64 (((i : Nat) : Int)))))), (9, (.d (.val (.bool (decide (((i : Nat) : Int) < ((l.length : Nat) : Int)))))))]) (B' := []) ?_ ?_
    · skip
      exact sE (e_mov (y := (.d (.val (.int .i64 (((i : Nat) : Int)))))) rfl rfl) rfl rfl rfl <| sE (e_asg (y := (.d (.val (.int .i64 (((i : Nat) : Int)))))) rfl rfl) rfl rfl rfl <| sNil rfl rfl
    refine pwp_seq ?_
    refine pwp_S (S' := [(0, (.d (.sl 61 1 (List.map enc_u32 l)))), (1, (.d (.val (.func (.func 72) #[] #[])))), (4, (.d (.val (.int .i64 (0))))), (5, (.d (.val (.int .i64 (((i : Nat) : Int)))))), (7, (.d (.val (.int .i64 (((l.length : Nat) : Int)))))), (8, (.d (.val (.int .i64 (((i : Nat) : Int)))))), (9, (.d (.val (.bool (decide (((i : Nat) : Int) < ((l.length : Nat) : Int))))))), (16, (.d (.val (.bool (decide (1000000000 ≤ (((l.getD i 0) : Nat) : Int)))))))]) (B' := []) ?_ ?_
    · skip
      exact sE (e_mov (y := (.d (.val (.func (.func 72) #[] #[])))) rfl rfl) rfl rfl rfl <| sE (e_mov (y := (.d (.sl 61 1 (List.map enc_u32 l)))) rfl rfl) rfl rfl rfl <| sE (e_mov (y := (.d (.val (.int .i64 (((i : Nat) : Int)))))) rfl rfl) rfl rfl rfl <| sE (e_ixs (j := i) (cs := (Dat.cells (.val (.int .u32 ((((l.getD i 0) : Nat) : Int)))))) rfl el22 rfl rfl (by omega) (ixm _ _ _ _ (by omega))) rfl rfl rfl <| sE (e_lc1 (cs := (Dat.cells (.val (.int .u32 ((((l.getD i 0) : Nat) : Int)))))) (y := (.val (.int .u32 ((((l.getD i 0) : Nat) : Int))))) rfl rfl sh61 rfl) rfl rfl rfl <| sE (e_cl (t_big (l.getD i 0)) rfl rfl rfl) rfl rfl rfl <| sNil rfl rfl
    refine pwp_cond (b := decide (1000000000 ≤ (((l.getD i 0) : Nat) : Int))) rfl (fun h2 => ?_) (fun h2 => ?_)
    · skip
      replace h2 := of_decide_eq_true h2
      refine pwp_seq ?_
      refine pwp_S (S' := [(0, (.d (.sl 61 1 (List.map enc_u32 l)))), (1, (.d (.val (.func (.func 72) #[] #[])))), (4, (.d (.val (.int .i64 (((i : Nat) : Int)))))), (5, (.d (.val (.int .i64 (((i : Nat) : Int)))))), (7, (.d (.val (.int .i64 (((l.length : Nat) : Int)))))), (8, (.d (.val (.int .i64 (((i : Nat) : Int)))))), (9, (.d (.val (.bool (decide (((i : Nat) : Int) < ((l.length : Nat) : Int))))))), (16, (.d (.val (.bool (decide (1000000000 ≤ (((l.getD i 0) : Nat) : Int)))))))]) (B' := []) ?_ ?_
      · skip
        exact sE (e_mov (y := (.d (.val (.int .i64 (((i : Nat) : Int)))))) rfl rfl) rfl rfl rfl <| sE (e_asg (y := (.d (.val (.int .i64 (((i : Nat) : Int)))))) rfl rfl) rfl rfl rfl <| sNil rfl rfl
      refine pwp_ret ⟨_, (.tmp (d := (.val (.int .i64 (((i : Nat) : Int))))) rfl .nil), ?_⟩
      rw [firstBig_at (by omega) hd (by omega)]; rfl
    · skip
      replace h2 := of_decide_eq_false h2
      refine pwp_skip ?_
      refine pwp_S (S' := [(0, (.d (.sl 61 1 (List.map enc_u32 l)))), (1, (.d (.val (.func (.func 72) #[] #[])))), (4, (.d (.val (.int .i64 (0))))), (5, (.d (.val (.int .i64 (((i : Nat) : Int)))))), (7, (.d (.val (.int .i64 (((l.length : Nat) : Int)))))), (8, (.d (.val (.int .i64 ((((i + 1) : Nat) : Int)))))), (9, (.d (.val (.bool (decide (((i : Nat) : Int) < ((l.length : Nat) : Int))))))), (16, (.d (.val (.bool (decide (1000000000 ≤ (((l.getD i 0) : Nat) : Int)))))))]) (B' := []) ?_ ?_
      · skip
        exact sE (e_add (r := (((i + 1) : Nat) : Int)) rfl rfl rfl (wi64 (by omega) (by omega) (by omega))) rfl rfl rfl <| sE (e_mov (y := (.d (.val (.int .i64 ((((i + 1) : Nat) : Int)))))) rfl rfl) rfl rfl rfl <| sNil rfl rfl
      exact ⟨(i + 1), (weak rfl rfl), ⟨by omega, dig_take_succ (by omega) hd (by omega)⟩, (by omega)⟩
  · skip
    replace h1 := of_decide_eq_false h1
    refine pwp_exit ?_
    refine pwp_seq ?_
    refine pwp_S (S' := [(0, (.d (.sl 61 1 (List.map enc_u32 l)))), (1, (.d (.val (.func (.func 72) #[] #[])))), (4, (.d (.val (.int .i64 (-1))))), (7, (.d (.val (.int .i64 (((l.length : Nat) : Int)))))), (8, (.d (.val (.int .i64 (((i : Nat) : Int)))))), (9, (.d (.val (.bool (decide (((i : Nat) : Int) < ((l.length : Nat) : Int)))))))]) (B' := []) ?_ ?_
    · skip
      exact sE (e_asg (y := (.d (.val (.int .i64 (-1))))) rfl rfl) rfl rfl rfl <| sNil rfl rfl
    refine pwp_ret ⟨_, (.tmp (d := (.val (.int .i64 (-1)))) rfl .nil), ?_⟩
    rw [firstBig_neg (by rw [List.take_of_length_le (by omega)] at hd; exact hd)]; rfl

theorem t_contains (l : List Nat) (hb : l.length ≤ 17592186044416) : Takes Try.prog 71 [(.sl 61 1 (List.map enc_u32 l)), (.val (.func (.func 72) #[] #[]))] (.val (.bool ((decide (0 ≤ firstBig l))))) := by
  refine fn_intro Try.func71 rfl cb71 rfl ?_
  show PWp _ _ _ _ ⟨[(0, (.d (.sl 61 1 (List.map enc_u32 l)))), (1, (.d (.val (.func (.func 72) #[] #[]))))], []⟩
  refine pwp_seq ?_
  refine pwp_S (S' := [(0, (.d (.sl 61 1 (List.map enc_u32 l)))), (1, (.d (.val (.func (.func 72) #[] #[])))), (4, (.d (.val (.bool (false)))))]) (B' := []) ?_ ?_
  · skip
    exact sE (e_asg (y := (.d (.val (.bool (false))))) rfl rfl) rfl rfl rfl <| sNil rfl rfl
  refine pwp_seq ?_
  refine pwp_S (S' := [(0, (.d (.sl 61 1 (List.map enc_u32 l)))), (1, (.d (.val (.func (.func 72) #[] #[])))), (4, (.d (.val (.bool (decide (0 ≤ (firstBig l)))))))]) (B' := []) ?_ ?_
  · skip
    exact sE (e_mov (y := (.d (.sl 61 1 (List.map enc_u32 l)))) rfl rfl) rfl rfl rfl <| sE (e_mov (y := (.d (.val (.func (.func 72) #[] #[])))) rfl rfl) rfl rfl rfl <| sE (e_cl (t_index l (by omega)) rfl rfl rfl) rfl rfl rfl <| sE (e_geq rfl rfl rfl) rfl rfl rfl <| sE (e_asg (y := (.d (.val (.bool (decide (0 ≤ (firstBig l))))))) rfl rfl) rfl rfl rfl <| sNil rfl rfl
  refine pwp_ret ⟨_, (.tmp (d := (.val (.bool (decide (0 ≤ (firstBig l)))))) rfl .nil), ?_⟩
  rfl

theorem t_valid (x : RInt) (hb : x.gs.length ≤ 17592186044416) : Takes Try.prog 55 [(encI x)] (.val (.bool ((validI x)))) := by
  refine fn_intro Try.func55 rfl cb55 rfl ?_
  show PWp _ _ _ _ ⟨[(0, (.d (encI x)))], []⟩
  refine pwp_seq ?_
  refine pwp_S (S' := [(0, (.d (encI x))), (1, (.ref 0 0)), (2, (.d (.val (.bool (false)))))]) (B' := [(0, some (bx (encI x)))]) ?_ ?_
  · skip
    exact sN (n_bx (d := (encI x)) (cs := (bx (encI x))) 0 rfl rfl rfl rfl) rfl rfl rfl rfl <| sE (e_asg (y := (.d (.val (.bool (false))))) rfl rfl) rfl rfl rfl <| sNil rfl rfl
  refine pwp_seq ?_
  refine pwp_S (S' := [(0, (.d (encI x))), (1, (.ref 0 0)), (2, (.d (.val (.bool (false))))), (3, (.d (.val (.int .i64 (((x.gs.length : Nat) : Int))))))]) (B' := [(0, some (bx (encI x)))]) ?_ ?_
  · skip
    exact sE (e_fldr (q := 1) rfl rfl fo24_1 rfl) rfl rfl rfl <| sR (e_ld1 (cs := (bx (encI x))) (y := (.d (.sl 61 1 (List.map enc_u32 x.gs)))) rfl rfl sh22 rfl) rfl rfl rfl rfl <| sE (e_ln (r := ((x.gs.length : Nat) : Int)) rfl el22 rfl (by simp)) rfl rfl rfl <| sE (e_asg (y := (.d (.val (.int .i64 (((x.gs.length : Nat) : Int)))))) rfl rfl) rfl rfl rfl <| sNil rfl rfl
  refine pwp_seq ?_
  refine pwp_seq ?_
  refine pwp_S (S' := [(0, (.d (encI x))), (1, (.ref 0 0)), (2, (.d (.val (.bool (false))))), (3, (.d (.val (.int .i64 (((x.gs.length : Nat) : Int)))))), (8, (.d (.val (.bool ((((x.gs.length : Nat) : Int) == 0))))))]) (B' := [(0, some (bx (encI x)))]) ?_ ?_
  · skip
    exact sE (e_mov (y := (.d (.val (.int .i64 (((x.gs.length : Nat) : Int)))))) rfl rfl) rfl rfl rfl <| sE (e_eql rfl rfl rfl) rfl rfl rfl <| sNil rfl rfl
  refine pwp_cond (b := (((x.gs.length : Nat) : Int) == 0)) rfl (fun h1 => ?_) (fun h1 => ?_)
  · skip
    replace h1 := eq_of_beq h1
    refine pwp_seq ?_
    refine pwp_S (S' := [(0, (.d (encI x))), (1, (.ref 0 0)), (2, (.d (.val (.bool (!x.neg))))), (3, (.d (.val (.int .i64 (((x.gs.length : Nat) : Int)))))), (8, (.d (.val (.bool ((((x.gs.length : Nat) : Int) == 0))))))]) (B' := [(0, some (bx (encI x)))]) ?_ ?_
    · skip
      exact sE (e_fldr (q := 0) rfl rfl fo24_0 rfl) rfl rfl rfl <| sR (e_ld1 (cs := (bx (encI x))) (y := (.d (.val (.bool (x.neg))))) rfl rfl sh4 rfl) rfl rfl rfl rfl <| sE (e_not rfl rfl) rfl rfl rfl <| sE (e_asg (y := (.d (.val (.bool (!x.neg))))) rfl rfl) rfl rfl rfl <| sNil rfl rfl
    refine pwp_ret ⟨_, (.tmp (d := (.val (.bool (!x.neg)))) rfl .nil), ?_⟩
    rw [show validI x = !x.neg from if_pos h1]; rfl
  · skip
    replace h1 := ne_of_beq_false h1
    refine pwp_skip ?_
    refine pwp_seq ?_
    refine pwp_S (S' := [(0, (.d (encI x))), (1, (.ref 0 0)), (2, (.d (.val (.bool ((((((x.gs.getD (x.gs.length - 1) 0) : Nat) : Int) != 0) && !(decide (0 ≤ firstBig x.gs)))))))), (3, (.d (.val (.int .i64 (((x.gs.length : Nat) : Int)))))), (8, (.d (.val (.bool ((((x.gs.length : Nat) : Int) == 0))))))]) (B' := [(0, some (bx (encI x)))]) ?_ ?_
    · skip
      refine sE (e_fldr (q := 1) rfl rfl fo24_1 rfl) rfl rfl rfl <| sR (e_ld1 (cs := (bx (encI x))) (y := (.d (.sl 61 1 (List.map enc_u32 x.gs)))) rfl rfl sh22 rfl) rfl rfl rfl rfl <| sE (e_mov (y := (.d (.val (.int .i64 (((x.gs.length : Nat) : Int)))))) rfl rfl) rfl rfl rfl <| sE (e_sub (r := (((x.gs.length - 1) : Nat) : Int)) rfl rfl rfl (wi64 (by omega) (by omega) (by omega))) rfl rfl rfl <| sE (e_ixs (j := (x.gs.length - 1)) (cs := (Dat.cells (.val (.int .u32 ((((x.gs.getD (x.gs.length - 1) 0) : Nat) : Int)))))) rfl el22 rfl rfl (by omega) (ixm _ _ _ _ (by omega))) rfl rfl rfl <| sE (e_lc1 (cs := (Dat.cells (.val (.int .u32 ((((x.gs.getD (x.gs.length - 1) 0) : Nat) : Int)))))) (y := (.val (.int .u32 ((((x.gs.getD (x.gs.length - 1) 0) : Nat) : Int))))) rfl rfl sh61 rfl) rfl rfl rfl <| sE (e_neq rfl rfl rfl) rfl rfl rfl <| sE (e_mov (y := (.d (.val (.bool (((((x.gs.getD (x.gs.length - 1) 0) : Nat) : Int) != 0)))))) rfl rfl) rfl rfl rfl <| ?_
      rcases hb2 : ((((x.gs.getD (x.gs.length - 1) 0) : Nat) : Int) != 0) with _ | _
      · skip
        replace hb2 := bne_eq_false_iff_eq.1 hb2
        exact sK rfl rfl rfl <| sK rfl rfl rfl <| sK rfl rfl rfl <| sK rfl rfl rfl <| sE (e_pkf (z := (.d (.val (.bool (false))))) rfl rfl rfl) rfl rfl rfl <| sE (e_asg (y := (.d (.val (.bool (false))))) rfl rfl) rfl rfl rfl <| sNil rfl rfl
      · skip
        replace hb2 := bne_iff_ne.1 hb2
        exact sE (e_fldr (q := 1) rfl rfl fo24_1 rfl) rfl rfl rfl <| sR (e_ld1 (cs := (bx (encI x))) (y := (.d (.sl 61 1 (List.map enc_u32 x.gs)))) rfl rfl sh22 rfl) rfl rfl rfl rfl <| sE (e_cl (t_contains x.gs (by omega)) rfl rfl rfl) rfl rfl rfl <| sE (e_not rfl rfl) rfl rfl rfl <| sE (e_pkta rfl rfl rfl) rfl rfl rfl <| sE (e_asg (y := (.d (.val (.bool ((true && !(decide (0 ≤ firstBig x.gs)))))))) rfl rfl) rfl rfl rfl <| sNil rfl rfl
    refine pwp_ret ⟨_, (.tmp (d := (.val (.bool ((((((x.gs.getD (x.gs.length - 1) 0) : Nat) : Int) != 0) && !(decide (0 ≤ firstBig x.gs))))))) rfl .nil), ?_⟩
    rw [show validI x = _ from if_neg h1]; rfl

theorem t_groups (x : RInt) (hb : x.gs.length ≤ 17592186044416) : Takes Try.prog 63 [(encI x)] (.sl 61 1 (List.map enc_u32 (grpI x))) := by
  refine fn_intro Try.func63 rfl cb63 rfl ?_
  show PWp _ _ _ _ ⟨[(0, (.d (encI x)))], []⟩
  refine pwp_seq ?_
  refine pwp_S (S' := [(0, (.d (encI x))), (1, (.ref 0 0)), (2, (.d (.sl 61 1 (List.map enc_u32 []))))]) (B' := [(0, some (bx (encI x)))]) ?_ ?_
  · skip
    exact sN (n_bx (d := (encI x)) (cs := (bx (encI x))) 0 rfl rfl rfl rfl) rfl rfl rfl rfl <| sE (e_asgnil 61 1 rfl) rfl rfl rfl <| sNil rfl rfl
  refine pwp_seq ?_
  refine pwp_seq ?_
  refine pwp_S (S' := [(0, (.d (encI x))), (1, (.ref 0 0)), (2, (.d (.sl 61 1 (List.map enc_u32 [])))), (5, (.d (.val (.bool (!(validI x))))))]) (B' := [(0, some (bx (encI x)))]) ?_ ?_
  · skip
    exact sR (e_lda (cs := (bx (encI x))) (y := (.d (encI x))) rfl rfl sh24 rfl rfl) rfl rfl rfl rfl <| sE (e_cl (t_valid x (by omega)) rfl rfl rfl) rfl rfl rfl <| sE (e_not rfl rfl) rfl rfl rfl <| sNil rfl rfl
  refine pwp_cond (b := !(validI x)) rfl (fun h1 => ?_) (fun h1 => ?_)
  · skip
    refine pwp_seq ?_
    refine pwp_S (S' := [(0, (.d (encI x))), (1, (.ref 0 0)), (2, (.d (.sl 61 1 (List.map enc_u32 [])))), (5, (.d (.val (.bool (!(validI x))))))]) (B' := [(0, some (bx (encI x)))]) ?_ ?_
    · skip
      exact sE (e_asgnil 61 1 rfl) rfl rfl rfl <| sNil rfl rfl
    refine pwp_ret ⟨_, (.tmp (d := (.sl 61 1 (List.map enc_u32 []))) rfl .nil), ?_⟩
    rw [show grpI x = [] from if_neg (by simpa using h1)]; rfl
  · skip
    refine pwp_skip ?_
    refine pwp_seq ?_
    refine pwp_S (S' := [(0, (.d (encI x))), (1, (.ref 0 0)), (2, (.d (.sl 61 1 (List.map enc_u32 x.gs)))), (5, (.d (.val (.bool (!(validI x))))))]) (B' := [(0, some (bx (encI x)))]) ?_ ?_
    · skip
      exact sE (e_fldr (q := 1) rfl rfl fo24_1 rfl) rfl rfl rfl <| sR (e_ld1 (cs := (bx (encI x))) (y := (.d (.sl 61 1 (List.map enc_u32 x.gs)))) rfl rfl sh22 rfl) rfl rfl rfl rfl <| sE (e_asg (y := (.d (.sl 61 1 (List.map enc_u32 x.gs)))) rfl rfl) rfl rfl rfl <| sNil rfl rfl
    refine pwp_ret ⟨_, (.tmp (d := (.sl 61 1 (List.map enc_u32 x.gs))) rfl .nil), ?_⟩
    rw [show grpI x = x.gs from if_pos (by simpa using h1)]; rfl

theorem t_clone (l : List Nat) (hb : l.length ≤ 17592186044416) : Takes Try.prog 77 [(.sl 61 1 (List.map enc_u32 l))] (.sl 61 1 (List.map enc_u32 l)) := by
  refine fn_intro Try.func77 rfl cb77 rfl ?_
  show PWp _ _ _ _ ⟨[(0, (.d (.sl 61 1 (List.map enc_u32 l))))], []⟩
  refine pwp_seq ?_
  refine pwp_S (S' := [(0, (.d (.sl 61 1 (List.map enc_u32 l)))), (2, (.d (.sl 61 1 (List.map enc_u32 []))))]) (B' := []) ?_ ?_
  · skip
    exact sE (e_asgnil 61 1 rfl) rfl rfl rfl <| sNil rfl rfl
  refine pwp_seq ?_
  refine pwp_seq ?_
  refine pwp_nilq rfl rfl rfl rfl rfl rfl el22 rfl rfl rfl (fun nb hnb => ?_)
  refine pwp_cond (b := nb) rfl (fun h1 => ?_) (fun h1 => ?_)
  · skip
    refine pwp_seq ?_
    refine pwp_S (S' := [(0, (.d (.sl 61 1 (List.map enc_u32 l)))), (2, (.d (.sl 61 1 (List.map enc_u32 [])))), (4, (.d (.val (.bool (nb)))))]) (B' := []) ?_ ?_
    · skip
      exact sE (e_asgnil 61 1 rfl) rfl rfl rfl <| sNil rfl rfl
    refine pwp_ret ⟨_, (.tmp (d := (.sl 61 1 (List.map enc_u32 []))) rfl .nil), ?_⟩
    rw [List.map_eq_nil_iff.1 (hnb h1)]; rfl
  · skip
    refine pwp_skip ?_
    refine pwp_seq ?_
    refine pwp_S (S' := [(0, (.d (.sl 61 1 (List.map enc_u32 l)))), (2, (.own 0 61 1 (([] ++ l).length))), (4, (.d (.val (.bool (nb)))))]) (B' := [(0, some (List.map (fun g => SV.d (enc_u32 g)) ([] ++ l)))]) ?_ ?_
    · skip
      exact sN (n_bso (pd := []) (es := List.map enc_u32 []) (cs := (List.map (fun g => SV.d (enc_u32 g)) [])) 0 rfl el22 ze61 zo61 rfl rfl rfl rfl rfl rfl rfl rfl rfl) rfl rfl rfl rfl <| sE (e_mov (y := (.d (.sl 61 1 (List.map enc_u32 l)))) rfl rfl) rfl rfl rfl <| sApp1 (m2 := ([] ++ l).length) enc_u32 [] l (fun _ => rfl) rfl rfl rfl rfl el22 ze61 rfl by61 rfl rfl rfl rfl (by simp only [List.length_cons, List.length_nil, maxLen]; omega) (by first | omega | (simp only [List.length_cons, List.length_nil]; omega)) (by repeat first | exact clr_nil _ | refine clr_self ?_ | refine clr_map ?_ | refine clr_bx ?_ | refine clr_d ?_) (by simp; try omega) <| sE (e_asg (y := (.own 0 61 1 (([] ++ l).length))) rfl rfl) rfl rfl rfl <| sNil rfl rfl
    refine pwp_sim (publish (t := 2) (k := 0) (es := List.map enc_u32 ([] ++ l)) rfl rfl (pub_cells _ _ (fun _ => rfl)) (map_len _ _ rfl) (pub_take _ _ (fun _ => rfl) rfl)) ?_
    refine pwp_sim (weak (l := [(0, (.d (.sl 61 1 (List.map enc_u32 l)))), (2, (.d (.sl 61 1 (List.map enc_u32 ([] ++ l))))), (4, (.d (.val (.bool (nb)))))]) (b := []) rfl rfl) ?_
    refine pwp_ret ⟨_, (.tmp (d := (.sl 61 1 (List.map enc_u32 ([] ++ l)))) rfl .nil), ?_⟩
    rfl

end Go.Proofs.Ytcdgmcfkhkikbaa
