/-
  Functions walked: each takes its data to what is said. Printed by a program of ours.
-/
import Derived.Test.YtadkkhdnccljcaaGreatIntE
namespace Go.Proofs.YtadkkhdnccljcaaGreat
open Go.Fid
set_option maxRecDepth 4000
set_option linter.unusedVariables false
set_option linter.unusedSimpArgs false
theorem cb73 : callB Tryz.prog 73 = true := by kernel_rfl
theorem cb101 : callB Tryz.prog 101 = true := by kernel_rfl
theorem cb103 : callB Tryz.prog 103 = true := by kernel_rfl
theorem cb105 : callB Tryz.prog 105 = true := by kernel_rfl
theorem cb142 : callB Tryz.prog 142 = true := by kernel_rfl
theorem cb143 : callB Tryz.prog 143 = true := by kernel_rfl
theorem cb144 : callB Tryz.prog 144 = true := by kernel_rfl
theorem cb145 : callB Tryz.prog 145 = true := by kernel_rfl
theorem cb146 : callB Tryz.prog 146 = true := by kernel_rfl
theorem cb152 : callB Tryz.prog 152 = true := by kernel_rfl
theorem ft30_1 : fieldT Tryz.prog 30 1 = some (1, 28) := by kernel_rfl
theorem r_group (l : List Nat) (i : Nat) (hd : Dig l) : Takes Tryz.prog 145 [(.sl 138 1 (List.map enc_u32 l)), (.val (.int .i64 (((i : Nat) : Int))))] (.val (.int .u64 ((((l.getD i 0) : Nat) : Int)))) := by
  have hg := hd.getD i
  refine fn_intro Tryz.func145 rfl cb145 rfl ?_
  show PWp _ _ _ _ ⟨[(0, (vl 138 1 enc_u32 l)), (1, (vin i))], []⟩
  refine pwp_seq <| pwp_S (S' := [(0, (vl 138 1 enc_u32 l)), (1, (vin i))]) (B' := []) ?_ ?_
  · exact sM (vqn 0) rfl rfl <| sNil rfl rfl
  refine pwp_seq <| pwp_seq <| pwp_S (S' := [(0, (vl 138 1 enc_u32 l)), (1, (vin i)), (8, (vb (decide (((i : Nat) : Int) < ((l.length : Nat) : Int)))))]) (B' := []) ?_ ?_
  · exact sM (vin i) rfl rfl <| sM (vl 138 1 enc_u32 l) rfl rfl <| sE' (e_ln (r := ((l.length : Nat) : Int)) rfl el28 rfl (by simp)) rfl <| sE' (e_lss rfl rfl rfl) rfl <| sNil rfl rfl
  refine pwp_cond (b := decide (((i : Nat) : Int) < ((l.length : Nat) : Int))) rfl (fun h1 => ?_) (fun h1 => ?_)
  · replace h1 := of_decide_eq_true h1
    refine pwp_seq <| pwp_S (S' := [(4, (vqn (l.getD i 0)))]) (B' := []) ?_ ?_
    · exact sM (vl 138 1 enc_u32 l) rfl rfl <| sM (vin i) rfl rfl <| sE' (e_ixs (j := i) (cs := (Dat.cells (.val (.int .u32 ((((l.getD i 0) : Nat) : Int)))))) rfl el28 rfl rfl (by omega) (ixm _ _ _ _ (by omega))) rfl <| sE' (e_lc1 (cs := (Dat.cells (.val (.int .u32 ((((l.getD i 0) : Nat) : Int)))))) (y := (.val (.int .u32 ((((l.getD i 0) : Nat) : Int))))) rfl rfl sh138 rfl) rfl <| sE' (e_conv (r := (((l.getD i 0) : Nat) : Int)) rfl un138 in140 rfl (cu64 (by omega))) rfl <| sM (vqn (l.getD i 0)) rfl rfl <| sNil rfl rfl
    refine pwp_ret ⟨_, (.tmp (d := (.val (.int .u64 ((((l.getD i 0) : Nat) : Int))))) rfl .nil), ?_⟩
    rfl
  · replace h1 := of_decide_eq_false h1
    refine pwp_skip <| pwp_seq <| pwp_S (S' := [(4, (vqn 0))]) (B' := []) ?_ ?_
    · exact sM (vqn 0) rfl rfl <| sNil rfl rfl
    refine pwp_ret ⟨_, (.tmp (d := (.val (.int .u64 (0)))) rfl .nil), ?_⟩
    rw [show l.getD i 0 = 0 from getD_out (by omega)]; rfl
theorem r_made (neg : Bool) (l : List Nat) (hd : Dig l) (hb : l.length ≤ 17592186044416) : Takes Tryz.prog 105 [(.val (.bool (neg))), (.sl 138 1 (List.map enc_u32 l))] (encI (mkI neg (val l))) := by
  refine fn_intro Tryz.func105 rfl cb105 rfl ?_
  show PWp _ _ _ _ ⟨[(0, (vb neg)), (1, (vl 138 1 enc_u32 l))], []⟩
  refine pwp_seq <| pwp_S (S' := [(0, (vb neg)), (1, (vl 138 1 enc_u32 l)), (4, (.ref 0 0))]) (B' := [(0, some (bx (encI (RInt.mk false []))))]) ?_ ?_
  · exact sN (n_al (cs := (bx (encI (RInt.mk false [])))) 0 rfl ze30 zo30 rfl) rfl rfl rfl rfl <| sNil rfl rfl
  refine pwp_seq <| pwp_S (S' := [(0, (vb neg)), (1, (vl 138 1 enc_u32 l)), (4, (.ref 0 0)), (5, (vin l.length))]) (B' := [(0, some (bx (encI (RInt.mk false []))))]) ?_ ?_
  · exact sM (vl 138 1 enc_u32 l) rfl rfl <| sE' (e_ln (r := ((l.length : Nat) : Int)) rfl el28 rfl (by simp)) rfl <| sM (vin l.length) rfl rfl <| sNil rfl rfl
  refine pwp_seq <| pwp_block <| pwp_loop (α := Nat) (fun k => ⟨[(0, (vb neg)), (1, (vl 138 1 enc_u32 l)), (4, (.ref 0 0)), (5, (vin k))], [(0, some (bx (encI (RInt.mk false []))))]⟩) (fun k => k ≤ l.length ∧ val (l.take k) = val l) (fun k => k) l.length (weak rfl rfl) ⟨Nat.le_refl _, by rw [List.take_length]⟩ ?_
  rintro k ⟨hk, hv⟩
  refine pwp_seq <| pwp_seq <| pwp_S (S' := [(0, (vb neg)), (1, (vl 138 1 enc_u32 l)), (4, (.ref 0 0)), (5, (vin k)), (17, (vb (decide (0 < ((k : Nat) : Int)) && ((((l.getD (k - 1) 0) : Nat) : Int) == 0))))]) (B' := [(0, some (bx (encI (RInt.mk false []))))]) ?_ ?_
  · refine sM (vin k) rfl rfl <| sE' (e_gtr rfl rfl rfl) rfl <| sM (vb (decide (0 < ((k : Nat) : Int)))) rfl rfl <| ?_
    rcases hb1 : (decide (0 < ((k : Nat) : Int))) with _ | _
    · replace hb1 := of_decide_eq_false hb1
      exact sK rfl rfl rfl <| sK rfl rfl rfl <| sK rfl rfl rfl <| sK rfl rfl rfl <| sK rfl rfl rfl <| sK rfl rfl rfl <| sE' (e_pkf (z := (vb false)) rfl rfl rfl) rfl <| sNil rfl rfl
    · replace hb1 := of_decide_eq_true hb1
      exact sM (vl 138 1 enc_u32 l) rfl rfl <| sM (vin k) rfl rfl <| sE' (e_sub (r := (((k - 1) : Nat) : Int)) rfl rfl rfl (wi64 (by omega) (by omega) (by omega))) rfl <| sE' (e_ixs (j := (k - 1)) (cs := (Dat.cells (.val (.int .u32 ((((l.getD (k - 1) 0) : Nat) : Int)))))) rfl el28 rfl rfl (by omega) (ixm _ _ _ _ (by omega))) rfl <| sE' (e_lc1 (cs := (Dat.cells (.val (.int .u32 ((((l.getD (k - 1) 0) : Nat) : Int)))))) (y := (.val (.int .u32 ((((l.getD (k - 1) 0) : Nat) : Int))))) rfl rfl sh138 rfl) rfl <| sE' (e_eql rfl rfl rfl) rfl <| sE' (e_pkta rfl rfl rfl) rfl <| sNil rfl rfl
  refine pwp_cond (b := (decide (0 < ((k : Nat) : Int)) && ((((l.getD (k - 1) 0) : Nat) : Int) == 0))) rfl (fun h2 => ?_) (fun h2 => ?_)
  · have hm := r_made_step hk hv h2
    have hm0 := hm.1
    refine pwp_skip <| pwp_block <| pwp_S (S' := [(0, (vb neg)), (1, (vl 138 1 enc_u32 l)), (4, (.ref 0 0)), (5, (vin (k - 1)))]) (B' := [(0, some (bx (encI (RInt.mk false []))))]) ?_ ?_
    · exact sM (vin k) rfl rfl <| sE' (e_sub (r := (((k - 1) : Nat) : Int)) rfl rfl rfl (wi64 (by omega) (by omega) (by omega))) rfl <| sM (vin (k - 1)) rfl rfl <| sNil rfl rfl
    exact ⟨(k - 1), (weak rfl rfl), ⟨by omega, hm.2⟩, (by first | omega | (dsimp only; omega))⟩
  · refine pwp_exit <| pwp_seq <| pwp_S (S' := [(4, (.ref 0 0))]) (B' := [(0, some (bx (encI (RInt.mk (neg && decide (0 < ((k : Nat) : Int))) (List.take k l)))))]) ?_ ?_
    · refine sM (vb neg) rfl rfl <| sM (vb neg) rfl rfl <| ?_
      rcases hb3 : neg with _ | _
      · exact sK rfl rfl rfl <| sK rfl rfl rfl <| sE' (e_pkf (z := (vb false)) rfl rfl rfl) rfl <| sE' (e_bse rfl el28) rfl <| sM (vl 138 1 enc_u32 l) rfl rfl <| sM (vin k) rfl rfl <| sE' (e_slc (l := 0) (h := k) (kl := .i64) (kh := .i64) (es' := List.map enc_u32 (List.take k l)) rfl el28 rfl rfl rfl (Nat.zero_le _) (by simp only [List.length_map]; omega) (by rw [List.drop_zero, List.map_take])) rfl <| sE' (e_appe rfl el28 ze138 rfl by138 rfl rfl (by simp only [List.length_map, List.length_take, List.length_drop, List.length_append, List.length_cons, List.length_nil, maxLen]; omega) (by simp only [List.length_map, List.length_take, List.length_drop, List.length_append, List.length_cons, List.length_nil]; omega)) rfl <| sE' (e_bld (pd := [(0, (.val (.bool (false)))), (1, (.sl 138 1 (List.map enc_u32 (List.take k l))))]) (y := (encI (RInt.mk false (List.take k l)))) rfl pl30 ze30 zo30 rfl rfl rfl rfl) rfl <| sT (t_std (d := (encI (RInt.mk false (List.take k l)))) (cs := (bx (encI (RInt.mk false (List.take k l))))) rfl rfl rfl sh30 rfl rfl rfl rfl) rfl rfl rfl <| sNil rfl rfl
      · exact sM (vin k) rfl rfl <| sE' (e_gtr rfl rfl rfl) rfl <| sE' (e_pkta rfl rfl rfl) rfl <| sE' (e_bse rfl el28) rfl <| sM (vl 138 1 enc_u32 l) rfl rfl <| sM (vin k) rfl rfl <| sE' (e_slc (l := 0) (h := k) (kl := .i64) (kh := .i64) (es' := List.map enc_u32 (List.take k l)) rfl el28 rfl rfl rfl (Nat.zero_le _) (by simp only [List.length_map]; omega) (by rw [List.drop_zero, List.map_take])) rfl <| sE' (e_appe rfl el28 ze138 rfl by138 rfl rfl (by simp only [List.length_map, List.length_take, List.length_drop, List.length_append, List.length_cons, List.length_nil, maxLen]; omega) (by simp only [List.length_map, List.length_take, List.length_drop, List.length_append, List.length_cons, List.length_nil]; omega)) rfl <| sE' (e_bld (pd := [(0, (.val (.bool ((true && decide (0 < ((k : Nat) : Int))))))), (1, (.sl 138 1 (List.map enc_u32 (List.take k l))))]) (y := (encI (RInt.mk (true && decide (0 < ((k : Nat) : Int))) (List.take k l)))) rfl pl30 ze30 zo30 rfl rfl rfl rfl) rfl <| sT (t_std (d := (encI (RInt.mk (true && decide (0 < ((k : Nat) : Int))) (List.take k l)))) (cs := (bx (encI (RInt.mk (true && decide (0 < ((k : Nat) : Int))) (List.take k l))))) rfl rfl rfl sh30 rfl rfl rfl rfl) rfl rfl rfl <| sNil rfl rfl
    refine pwp_ret ⟨_, (res_a (cs := (bx (encI (RInt.mk (neg && decide (0 < ((k : Nat) : Int))) (List.take k l))))) (d := (encI (RInt.mk (neg && decide (0 < ((k : Nat) : Int))) (List.take k l)))) rfl rfl sh30 rfl rfl .nil), ?_⟩
    rw [r_made_end hd hk hv h2]; rfl
theorem r_valid (x : RInt) (hb : x.gs.length ≤ 17592186044416) : Takes Tryz.prog 73 [(encI x)] (.val (.bool ((validI x)))) := by
  refine fn_intro Tryz.func73 rfl cb73 rfl ?_
  show PWp _ _ _ _ ⟨[(0, (.d (encI x)))], []⟩
  refine pwp_seq <| pwp_S (S' := [(1, (.ref 0 0))]) (B' := [(0, some (bx (encI x)))]) ?_ ?_
  · exact sN (n_bx (d := (encI x)) (cs := (bx (encI x))) 0 rfl rfl rfl rfl) rfl rfl rfl rfl <| sM (vb false) rfl rfl <| sNil rfl rfl
  refine pwp_seq <| pwp_S (S' := [(1, (.ref 0 0)), (3, (vin x.gs.length))]) (B' := [(0, some (bx (encI x)))]) ?_ ?_
  · exact sE' (e_fldr (q := 1) rfl rfl fo30_1 rfl) rfl <| sR (e_ld1 (cs := (bx (encI x))) (y := (vl 138 1 enc_u32 x.gs)) rfl rfl sh28 rfl) rfl rfl rfl rfl <| sE' (e_ln (r := ((x.gs.length : Nat) : Int)) rfl el28 rfl (by simp)) rfl <| sM (vin x.gs.length) rfl rfl <| sNil rfl rfl
  refine pwp_seq <| pwp_seq <| pwp_S (S' := [(1, (.ref 0 0)), (3, (vin x.gs.length)), (4, (vin 0))]) (B' := [(0, some (bx (encI x)))]) ?_ ?_
  · exact sM (vin 0) rfl rfl <| sNil rfl rfl
  refine pwp_block <| pwp_loop (α := Nat) (fun i => ⟨[(1, (.ref 0 0)), (3, (vin x.gs.length)), (4, (vin i))], [(0, some (bx (encI x)))]⟩) (fun i => i ≤ x.gs.length ∧ Dig (x.gs.take i)) (fun i => x.gs.length - i) 0 (weak rfl rfl) ⟨Nat.zero_le _, by rw [List.take_zero]; exact dig_nil⟩ ?_
  rintro i ⟨hi, hd⟩
  refine pwp_seq <| pwp_seq <| pwp_S (S' := [(1, (.ref 0 0)), (3, (vin x.gs.length)), (4, (vin i)), (10, (vb (decide (((i : Nat) : Int) < ((x.gs.length : Nat) : Int)))))]) (B' := [(0, some (bx (encI x)))]) ?_ ?_
  · exact sM (vin i) rfl rfl <| sM (vin x.gs.length) rfl rfl <| sE' (e_lss rfl rfl rfl) rfl <| sNil rfl rfl
  refine pwp_cond (b := decide (((i : Nat) : Int) < ((x.gs.length : Nat) : Int))) rfl (fun h1 => ?_) (fun h1 => ?_)
  · replace h1 := of_decide_eq_true h1
    refine pwp_skip <| pwp_seq <| pwp_block <| pwp_seq <| pwp_S (S' := [(1, (.ref 0 0)), (3, (vin x.gs.length)), (4, (vin i)), (18, (vb (decide (1000000000 ≤ (((x.gs.getD i 0) : Nat) : Int)))))]) (B' := [(0, some (bx (encI x)))]) ?_ ?_
    · exact sE' (e_fldr (q := 1) rfl rfl fo30_1 rfl) rfl <| sR (e_ld1 (cs := (bx (encI x))) (y := (vl 138 1 enc_u32 x.gs)) rfl rfl sh28 rfl) rfl rfl rfl rfl <| sM (vin i) rfl rfl <| sE' (e_ixs (j := i) (cs := (Dat.cells (.val (.int .u32 ((((x.gs.getD i 0) : Nat) : Int)))))) rfl el28 rfl rfl (by omega) (ixm _ _ _ _ (by omega))) rfl <| sE' (e_lc1 (cs := (Dat.cells (.val (.int .u32 ((((x.gs.getD i 0) : Nat) : Int)))))) (y := (.val (.int .u32 ((((x.gs.getD i 0) : Nat) : Int))))) rfl rfl sh138 rfl) rfl <| sE' (e_geq rfl rfl rfl) rfl <| sNil rfl rfl
    refine pwp_cond (b := decide (1000000000 ≤ (((x.gs.getD i 0) : Nat) : Int))) rfl (fun h2 => ?_) (fun h2 => ?_)
    · replace h2 := of_decide_eq_true h2
      refine pwp_seq <| pwp_S (S' := [(2, (vb false))]) (B' := []) ?_ ?_
      · exact sM (vb false) rfl rfl <| sNil rfl rfl
      refine pwp_ret ⟨_, (.tmp (d := (.val (.bool (false)))) rfl .nil), ?_⟩
      rw [validI_big (i := i) (by omega) (by omega)]; rfl
    · replace h2 := of_decide_eq_false h2
      refine pwp_skip <| pwp_S (S' := [(1, (.ref 0 0)), (3, (vin x.gs.length)), (4, (vin (i + 1)))]) (B' := [(0, some (bx (encI x)))]) ?_ ?_
      · exact sM (vin i) rfl rfl <| sE' (e_add (r := (((i + 1) : Nat) : Int)) rfl rfl rfl (wi64 (by omega) (by omega) (by omega))) rfl <| sM (vin (i + 1)) rfl rfl <| sNil rfl rfl
      exact ⟨(i + 1), (weak rfl rfl), ⟨by omega, dig_take_succ (by omega) hd (by omega)⟩, (by first | omega | (dsimp only; omega))⟩
  · replace h1 := of_decide_eq_false h1
    have hie : i = x.gs.length := by omega
    rw [hie, List.take_length] at hd
    refine pwp_exit <| pwp_seq <| pwp_seq <| pwp_S (S' := [(1, (.ref 0 0)), (3, (vin x.gs.length)), (20, (vb (((x.gs.length : Nat) : Int) == 0)))]) (B' := [(0, some (bx (encI x)))]) ?_ ?_
    · exact sM (vin x.gs.length) rfl rfl <| sE' (e_eql rfl rfl rfl) rfl <| sNil rfl rfl
    refine pwp_cond (b := (((x.gs.length : Nat) : Int) == 0)) rfl (fun h3 => ?_) (fun h3 => ?_)
    · replace h3 := eq_of_beq h3
      refine pwp_seq <| pwp_S (S' := [(2, (vb (!x.neg)))]) (B' := []) ?_ ?_
      · exact sE' (e_fldr (q := 0) rfl rfl fo30_0 rfl) rfl <| sR (e_ld1 (cs := (bx (encI x))) (y := (vb x.neg)) rfl rfl sh4 rfl) rfl rfl rfl rfl <| sE' (e_not rfl rfl) rfl <| sM (vb (!x.neg)) rfl rfl <| sNil rfl rfl
      refine pwp_ret ⟨_, (.tmp (d := (.val (.bool (!x.neg)))) rfl .nil), ?_⟩
      rw [validI_nil (by omega)]; rfl
    · replace h3 := ne_of_beq_false h3
      refine pwp_skip <| pwp_seq <| pwp_S (S' := [(2, (vb ((((x.gs.getD (x.gs.length - 1) 0) : Nat) : Int) != 0)))]) (B' := []) ?_ ?_
      · exact sE' (e_fldr (q := 1) rfl rfl fo30_1 rfl) rfl <| sR (e_ld1 (cs := (bx (encI x))) (y := (vl 138 1 enc_u32 x.gs)) rfl rfl sh28 rfl) rfl rfl rfl rfl <| sM (vin x.gs.length) rfl rfl <| sE' (e_sub (r := (((x.gs.length - 1) : Nat) : Int)) rfl rfl rfl (wi64 (by omega) (by omega) (by omega))) rfl <| sE' (e_ixs (j := (x.gs.length - 1)) (cs := (Dat.cells (.val (.int .u32 ((((x.gs.getD (x.gs.length - 1) 0) : Nat) : Int)))))) rfl el28 rfl rfl (by omega) (ixm _ _ _ _ (by omega))) rfl <| sE' (e_lc1 (cs := (Dat.cells (.val (.int .u32 ((((x.gs.getD (x.gs.length - 1) 0) : Nat) : Int)))))) (y := (.val (.int .u32 ((((x.gs.getD (x.gs.length - 1) 0) : Nat) : Int))))) rfl rfl sh138 rfl) rfl <| sE' (e_neq rfl rfl rfl) rfl <| sM (vb ((((x.gs.getD (x.gs.length - 1) 0) : Nat) : Int) != 0)) rfl rfl <| sNil rfl rfl
      refine pwp_ret ⟨_, (.tmp (d := (.val (.bool (((((x.gs.getD (x.gs.length - 1) 0) : Nat) : Int) != 0))))) rfl .nil), ?_⟩
      rw [validI_dig hd (by omega)]; rfl
theorem r_value (x : RInt) (hb : x.gs.length ≤ 17592186044416) : Takes Tryz.prog 103 [(encI x)] (encI (ofZ (toZ x))) := by
  refine fn_intro Tryz.func103 rfl cb103 rfl ?_
  show PWp _ _ _ _ ⟨[(0, (.d (encI x)))], []⟩
  refine pwp_seq <| pwp_S (S' := [(1, (.ref 0 0)), (2, (.ref 1 0))]) (B' := [(0, some (bx (encI x))), (1, some (bx (encI (RInt.mk false []))))]) ?_ ?_
  · exact sN (n_bx (d := (encI x)) (cs := (bx (encI x))) 0 rfl rfl rfl rfl) rfl rfl rfl rfl <| sN (n_al (cs := (bx (encI (RInt.mk false [])))) 1 rfl ze30 zo30 rfl) rfl rfl rfl rfl <| sNil rfl rfl
  refine pwp_seq <| pwp_seq <| pwp_S (S' := [(1, (.ref 0 0)), (2, (.ref 1 0)), (5, (vb (!(validI x))))]) (B' := [(0, some (bx (encI x))), (1, some (bx (encI (RInt.mk false []))))]) ?_ ?_
  · exact sR (e_lda (cs := (bx (encI x))) (y := (.d (encI x))) rfl rfl sh30 rfl rfl) rfl rfl rfl rfl <| sE' (e_cl (r_valid x (by omega)) rfl rfl rfl) rfl <| sE' (e_not rfl rfl) rfl <| sNil rfl rfl
  refine pwp_cond (b := !(validI x)) rfl (fun h1 => ?_) (fun h1 => ?_)
  · refine pwp_seq <| pwp_S (S' := [(2, (.ref 1 0))]) (B' := [(1, some (bx (encI (RInt.mk false []))))]) ?_ ?_
    · exact sE' (e_bld (pd := []) (y := (encI (RInt.mk false []))) rfl pl30 ze30 zo30 rfl rfl rfl rfl) rfl <| sT (t_std (d := (encI (RInt.mk false []))) (cs := (bx (encI (RInt.mk false [])))) rfl rfl rfl sh30 rfl rfl rfl rfl) rfl rfl rfl <| sNil rfl rfl
    refine pwp_ret ⟨_, (res_a (cs := (bx (encI (RInt.mk false [])))) (d := (encI (RInt.mk false []))) rfl rfl sh30 rfl rfl .nil), ?_⟩
    rw [toZ_bad (by rw [Bool.not_eq_true'] at h1; exact h1), ofZ_zero]; rfl
  · refine pwp_skip <| pwp_seq <| pwp_D (S' := [(2, (.ref 1 0))]) (B' := [(1, some (bx (encI (RInt.mk x.neg x.gs))))]) mo (by kernel_rfl) ?_ ?_
    · exact dE' (e_fldr (q := 0) rfl rfl fo30_0 rfl) rfl rfl <| dR (e_ld1 (cs := (bx (encI x))) (y := (vb x.neg)) rfl rfl sh4 rfl) rfl rfl rfl rfl rfl <| dE' (e_bse rfl el28) rfl rfl <| dE' (e_fldr (q := 1) rfl rfl fo30_1 rfl) rfl rfl <| dR (e_ld1 (cs := (bx (encI x))) (y := (vl 138 1 enc_u32 x.gs)) rfl rfl sh28 rfl) rfl rfl rfl rfl rfl <| dE' (e_appe rfl el28 ze138 rfl by138 rfl rfl (by simp only [List.length_map, List.length_take, List.length_drop, List.length_append, List.length_cons, List.length_nil, maxLen]; omega) (by simp only [List.length_map, List.length_take, List.length_drop, List.length_append, List.length_cons, List.length_nil]; omega)) rfl rfl <| dE' (e_bld (pd := [(0, (.val (.bool (x.neg)))), (1, (.sl 138 1 (List.map enc_u32 x.gs)))]) (y := (encI (RInt.mk x.neg x.gs))) rfl pl30 ze30 zo30 rfl rfl rfl rfl) rfl rfl <| dT (t_std (d := (encI (RInt.mk x.neg x.gs))) (cs := (bx (encI (RInt.mk x.neg x.gs)))) rfl rfl rfl sh30 rfl rfl rfl rfl) rfl rfl rfl rfl <| dNil rfl rfl (by kernel_rfl)
    refine pwp_ret ⟨_, (res_a (cs := (bx (encI (RInt.mk x.neg x.gs)))) (d := (encI (RInt.mk x.neg x.gs))) rfl rfl sh30 rfl rfl .nil), ?_⟩
    rw [ofZ_toZ (by simpa using h1)]; rfl
theorem r_of (n : Int) (hlo : -9223372036854775808 ≤ n) (hhi : n ≤ 9223372036854775807) : Takes Tryz.prog 101 [(.val (.int .i64 (n)))] (encI (ofZ n)) := by
  refine fn_intro Tryz.func101 rfl cb101 rfl ?_
  show PWp _ _ _ _ ⟨[(0, (vi n))], []⟩
  refine pwp_seq <| pwp_S (S' := [(0, (vi n)), (2, (.ref 0 0))]) (B' := [(0, some (bx (encI (RInt.mk false []))))]) ?_ ?_
  · exact sN (n_al (cs := (bx (encI (RInt.mk false [])))) 0 rfl ze30 zo30 rfl) rfl rfl rfl rfl <| sNil rfl rfl
  refine pwp_seq <| pwp_S (S' := [(0, (vi n)), (2, (.ref 0 0)), (3, (vqn ((n % 18446744073709551616).toNat)))]) (B' := [(0, some (bx (encI (RInt.mk false []))))]) ?_ ?_
  · exact sM (vi n) rfl rfl <| sE' (e_conv (r := (((n % 18446744073709551616).toNat : Nat) : Int)) rfl un3 in140 rfl (conv_u64 _)) rfl <| sM (vqn ((n % 18446744073709551616).toNat)) rfl rfl <| sNil rfl rfl
  refine pwp_seq <| pwp_seq <| pwp_S (S' := [(0, (vi n)), (2, (.ref 0 0)), (3, (vqn ((n % 18446744073709551616).toNat))), (8, (vb (decide (n < 0))))]) (B' := [(0, some (bx (encI (RInt.mk false []))))]) ?_ ?_
  · exact sM (vi n) rfl rfl <| sE' (e_lss rfl rfl rfl) rfl <| sNil rfl rfl
  refine pwp_cond (b := decide (n < 0)) rfl (fun h1 => ?_) (fun h1 => ?_)
  · replace h1 := of_decide_eq_true h1
    refine pwp_S (S' := [(0, (vi n)), (2, (.ref 0 0)), (3, (vqn n.natAbs))]) (B' := [(0, some (bx (encI (RInt.mk false []))))]) ?_ ?_
    · exact sM (vi n) rfl rfl <| sE' (e_add (r := (n + 1)) rfl rfl rfl (wi64 (by omega) (by omega) (by omega))) rfl <| sE' (e_neg (r := -(n + 1)) rfl rfl (wi64 (by omega) (by omega) (by omega))) rfl <| sE' (e_conv (r := (((-n - 1).toNat : Nat) : Int)) rfl un3 in140 rfl (wu64 (by omega) (by omega) (by omega))) rfl <| sE' (e_add (r := ((n.natAbs : Nat) : Int)) rfl rfl rfl (wu64 (by omega) (by omega) (by omega))) rfl <| sM (vqn n.natAbs) rfl rfl <| sNil rfl rfl
    refine pwp_seq <| pwp_S (S' := [(0, (vi n)), (2, (.ref 0 0)), (3, (vqn n.natAbs)), (4, (.own 1 138 1 0))]) (B' := [(0, some (bx (encI (RInt.mk false [])))), (1, some (bm enc_u32 []))]) ?_ ?_
    · exact sN (n_bso (pd := []) (es := List.map enc_u32 []) (cs := (bm enc_u32 [])) 1 rfl el28 ze138 zo138 rfl rfl rfl rfl rfl rfl rfl rfl rfl) rfl rfl rfl rfl <| sM (.own 1 138 1 0) rfl rfl <| sNil rfl rfl
    refine pwp_seq <| pwp_block <| pwp_loop (α := List Nat × Nat) (fun (o, m) => ⟨[(0, (vi n)), (2, (.ref 0 0)), (3, (vqn m)), (4, (.own 1 138 1 o.length))], [(0, some (bx (encI (RInt.mk false [])))), (1, some (bm enc_u32 o))]⟩) (fun (o, m) => m ≤ 9223372036854775808 ∧ o ++ ofNat m = ofNat n.natAbs) (fun (o, m) => m) ([], n.natAbs) (weak rfl rfl) ⟨by omega, by rw [List.nil_append]⟩ ?_
    rintro ⟨o, m⟩ ⟨hm, hg⟩
    have hl := split_len hg (by omega)
    refine pwp_seq <| pwp_seq <| pwp_S (S' := [(0, (vi n)), (2, (.ref 0 0)), (3, (vqn m)), (4, (.own 1 138 1 o.length)), (16, (vb (decide (0 < ((m : Nat) : Int)))))]) (B' := [(0, some (bx (encI (RInt.mk false [])))), (1, some (bm enc_u32 o))]) ?_ ?_
    · exact sM (vqn m) rfl rfl <| sE' (e_gtr rfl rfl rfl) rfl <| sNil rfl rfl
    refine pwp_cond (b := decide (0 < ((m : Nat) : Int))) rfl (fun h2 => ?_) (fun h2 => ?_)
    · replace h2 := of_decide_eq_true h2
      refine pwp_skip <| pwp_block <| pwp_seq <| pwp_S (S' := [(0, (vi n)), (2, (.ref 0 0)), (3, (vqn m)), (4, (.own 1 138 1 ((o ++ [(m % 1000000000)]).length)))]) (B' := [(0, some (bx (encI (RInt.mk false [])))), (1, some (bm enc_u32 (o ++ [(m % 1000000000)])))]) ?_ ?_
      · exact sM (.own 1 138 1 o.length) rfl rfl <| sM (vqn m) rfl rfl <| sE' (e_rem (r := (((m % 1000000000) : Nat) : Int)) rfl rfl rfl (by decide) (tmod_nat _ _)) rfl <| sE' (e_conv (r := (((m % 1000000000) : Nat) : Int)) rfl un140 in138 rfl (cu32 (by omega))) rfl <| sE' (e_bsl (pd := [(0, (.val (.int .u32 ((((m % 1000000000) : Nat) : Int)))))]) (es := List.map enc_u32 [(m % 1000000000)]) rfl el28 ze138 zo138 rfl rfl rfl rfl rfl rfl rfl rfl) rfl <| sApp1 (m2 := (o ++ [(m % 1000000000)]).length) enc_u32 o [(m % 1000000000)] (fun _ => rfl) rfl rfl rfl rfl el28 ze138 rfl by138 rfl rfl rfl rfl (by simp only [List.length_cons, List.length_nil, maxLen]; omega) (by first | omega | (simp only [List.length_cons, List.length_nil]; omega)) (by repeat first | exact clr_nil _ | refine clr_self ?_ | refine clr_map ?_ | refine clr_bx ?_ | refine clr_d ?_) (by simp; try omega) <| sM (.own 1 138 1 ((o ++ [(m % 1000000000)]).length)) rfl rfl <| sNil rfl rfl
      refine pwp_S (S' := [(0, (vi n)), (2, (.ref 0 0)), (3, (vqn (m / 1000000000))), (4, (.own 1 138 1 ((o ++ [(m % 1000000000)]).length)))]) (B' := [(0, some (bx (encI (RInt.mk false [])))), (1, some (bm enc_u32 (o ++ [(m % 1000000000)])))]) ?_ ?_
      · exact sM (vqn m) rfl rfl <| sE' (e_quo (r := (((m / 1000000000) : Nat) : Int)) rfl rfl rfl (by decide) (quo_u64 _ _ (by omega))) rfl <| sM (vqn (m / 1000000000)) rfl rfl <| sNil rfl rfl
      exact ⟨(o ++ [m % 1000000000], m / 1000000000), (weak rfl rfl), ⟨by omega, split_step hg h2⟩, (by first | omega | (dsimp only; omega))⟩
    · replace h2 := of_decide_eq_false h2
      have hdo : Dig o := split_dig hg h2
      have hvo := split_val hg h2
      refine pwp_exit <| pwp_seq <| pwp_sim (publish (t := 4) (k := 1) (es := List.map enc_u32 o) rfl rfl (pub_cells _ _ (fun _ => rfl)) (map_len _ _ rfl) (pub_take _ _ (fun _ => rfl) rfl)) ?_
      refine pwp_sim (weak (l := [(0, (vi n)), (2, (.ref 0 0)), (3, (vqn m)), (4, (vl 138 1 enc_u32 o)), (16, (vb (decide (0 < ((m : Nat) : Int)))))]) (b := [(0, some (bx (encI (RInt.mk false []))))]) rfl rfl) ?_
      refine pwp_S (S' := [(2, (.ref 0 0))]) (B' := [(0, some (bx (encI (mkI (decide (n < 0)) (val o)))))]) ?_ ?_
      · exact sM (vi n) rfl rfl <| sE' (e_lss rfl rfl rfl) rfl <| sM (vl 138 1 enc_u32 o) rfl rfl <| sE' (e_cl (r_made (decide (n < 0)) o hdo (by omega)) rfl rfl rfl) rfl <| sT (t_std (d := (encI (mkI (decide (n < 0)) (val o)))) (cs := (bx (encI (mkI (decide (n < 0)) (val o))))) rfl rfl rfl sh30 rfl rfl rfl rfl) rfl rfl rfl <| sNil rfl rfl
      refine pwp_ret ⟨_, (res_a (cs := (bx (encI (mkI (decide (n < 0)) (val o))))) (d := (encI (mkI (decide (n < 0)) (val o)))) rfl rfl sh30 rfl rfl .nil), ?_⟩
      rw [hvo]; rfl
  · replace h1 := of_decide_eq_false h1
    rw [show (n % 18446744073709551616).toNat = n.natAbs from by omega]
    refine pwp_skip <| pwp_seq <| pwp_S (S' := [(0, (vi n)), (2, (.ref 0 0)), (3, (vqn n.natAbs)), (4, (.own 2 138 1 0))]) (B' := [(0, some (bx (encI (RInt.mk false [])))), (2, some (bm enc_u32 []))]) ?_ ?_
    · exact sN (n_bso (pd := []) (es := List.map enc_u32 []) (cs := (bm enc_u32 [])) 2 rfl el28 ze138 zo138 rfl rfl rfl rfl rfl rfl rfl rfl rfl) rfl rfl rfl rfl <| sM (.own 2 138 1 0) rfl rfl <| sNil rfl rfl
    refine pwp_seq <| pwp_block <| pwp_loop (α := List Nat × Nat) (fun (o, m) => ⟨[(0, (vi n)), (2, (.ref 0 0)), (3, (vqn m)), (4, (.own 2 138 1 o.length))], [(0, some (bx (encI (RInt.mk false [])))), (2, some (bm enc_u32 o))]⟩) (fun (o, m) => m ≤ 9223372036854775808 ∧ o ++ ofNat m = ofNat n.natAbs) (fun (o, m) => m) ([], n.natAbs) (weak rfl rfl) ⟨by omega, by rw [List.nil_append]⟩ ?_
    rintro ⟨o, m⟩ ⟨hm, hg⟩
    have hl := split_len hg (by omega)
    refine pwp_seq <| pwp_seq <| pwp_S (S' := [(0, (vi n)), (2, (.ref 0 0)), (3, (vqn m)), (4, (.own 2 138 1 o.length)), (16, (vb (decide (0 < ((m : Nat) : Int)))))]) (B' := [(0, some (bx (encI (RInt.mk false [])))), (2, some (bm enc_u32 o))]) ?_ ?_
    · exact sM (vqn m) rfl rfl <| sE' (e_gtr rfl rfl rfl) rfl <| sNil rfl rfl
    refine pwp_cond (b := decide (0 < ((m : Nat) : Int))) rfl (fun h3 => ?_) (fun h3 => ?_)
    · replace h3 := of_decide_eq_true h3
      refine pwp_skip <| pwp_block <| pwp_seq <| pwp_S (S' := [(0, (vi n)), (2, (.ref 0 0)), (3, (vqn m)), (4, (.own 2 138 1 ((o ++ [(m % 1000000000)]).length)))]) (B' := [(0, some (bx (encI (RInt.mk false [])))), (2, some (bm enc_u32 (o ++ [(m % 1000000000)])))]) ?_ ?_
      · exact sM (.own 2 138 1 o.length) rfl rfl <| sM (vqn m) rfl rfl <| sE' (e_rem (r := (((m % 1000000000) : Nat) : Int)) rfl rfl rfl (by decide) (tmod_nat _ _)) rfl <| sE' (e_conv (r := (((m % 1000000000) : Nat) : Int)) rfl un140 in138 rfl (cu32 (by omega))) rfl <| sE' (e_bsl (pd := [(0, (.val (.int .u32 ((((m % 1000000000) : Nat) : Int)))))]) (es := List.map enc_u32 [(m % 1000000000)]) rfl el28 ze138 zo138 rfl rfl rfl rfl rfl rfl rfl rfl) rfl <| sApp1 (m2 := (o ++ [(m % 1000000000)]).length) enc_u32 o [(m % 1000000000)] (fun _ => rfl) rfl rfl rfl rfl el28 ze138 rfl by138 rfl rfl rfl rfl (by simp only [List.length_cons, List.length_nil, maxLen]; omega) (by first | omega | (simp only [List.length_cons, List.length_nil]; omega)) (by repeat first | exact clr_nil _ | refine clr_self ?_ | refine clr_map ?_ | refine clr_bx ?_ | refine clr_d ?_) (by simp; try omega) <| sM (.own 2 138 1 ((o ++ [(m % 1000000000)]).length)) rfl rfl <| sNil rfl rfl
      refine pwp_S (S' := [(0, (vi n)), (2, (.ref 0 0)), (3, (vqn (m / 1000000000))), (4, (.own 2 138 1 ((o ++ [(m % 1000000000)]).length)))]) (B' := [(0, some (bx (encI (RInt.mk false [])))), (2, some (bm enc_u32 (o ++ [(m % 1000000000)])))]) ?_ ?_
      · exact sM (vqn m) rfl rfl <| sE' (e_quo (r := (((m / 1000000000) : Nat) : Int)) rfl rfl rfl (by decide) (quo_u64 _ _ (by omega))) rfl <| sM (vqn (m / 1000000000)) rfl rfl <| sNil rfl rfl
      exact ⟨(o ++ [m % 1000000000], m / 1000000000), (weak rfl rfl), ⟨by omega, split_step hg h3⟩, (by first | omega | (dsimp only; omega))⟩
    · replace h3 := of_decide_eq_false h3
      have hdo : Dig o := split_dig hg h3
      have hvo := split_val hg h3
      refine pwp_exit <| pwp_seq <| pwp_sim (publish (t := 4) (k := 2) (es := List.map enc_u32 o) rfl rfl (pub_cells _ _ (fun _ => rfl)) (map_len _ _ rfl) (pub_take _ _ (fun _ => rfl) rfl)) ?_
      refine pwp_sim (weak (l := [(0, (vi n)), (2, (.ref 0 0)), (3, (vqn m)), (4, (vl 138 1 enc_u32 o)), (16, (vb (decide (0 < ((m : Nat) : Int)))))]) (b := [(0, some (bx (encI (RInt.mk false []))))]) rfl rfl) ?_
      refine pwp_S (S' := [(2, (.ref 0 0))]) (B' := [(0, some (bx (encI (mkI (decide (n < 0)) (val o)))))]) ?_ ?_
      · exact sM (vi n) rfl rfl <| sE' (e_lss rfl rfl rfl) rfl <| sM (vl 138 1 enc_u32 o) rfl rfl <| sE' (e_cl (r_made (decide (n < 0)) o hdo (by omega)) rfl rfl rfl) rfl <| sT (t_std (d := (encI (mkI (decide (n < 0)) (val o)))) (cs := (bx (encI (mkI (decide (n < 0)) (val o))))) rfl rfl rfl sh30 rfl rfl rfl rfl) rfl rfl rfl <| sNil rfl rfl
      refine pwp_ret ⟨_, (res_a (cs := (bx (encI (mkI (decide (n < 0)) (val o))))) (d := (encI (mkI (decide (n < 0)) (val o)))) rfl rfl sh30 rfl rfl .nil), ?_⟩
      rw [hvo]; rfl
theorem r_size (a b : List Nat) (ha : Cano a) (hb : Cano b) (hla : a.length ≤ 17592186044416) (hlb : b.length ≤ 17592186044416) : Takes Tryz.prog 142 [(.sl 138 1 (List.map enc_u32 a)), (.sl 138 1 (List.map enc_u32 b))] (.val (.int .i64 ((cmpI ((val a : Nat) : Int) ((val b : Nat) : Int))))) := by
  refine fn_intro Tryz.func142 rfl cb142 rfl ?_
  show PWp _ _ _ _ ⟨[(0, (vl 138 1 enc_u32 a)), (1, (vl 138 1 enc_u32 b))], []⟩
  refine pwp_seq <| pwp_S (S' := [(0, (vl 138 1 enc_u32 a)), (1, (vl 138 1 enc_u32 b))]) (B' := []) ?_ ?_
  · exact sM (vin 0) rfl rfl <| sNil rfl rfl
  refine pwp_seq <| pwp_seq <| pwp_S (S' := [(0, (vl 138 1 enc_u32 a)), (1, (vl 138 1 enc_u32 b)), (10, (vb (((a.length : Nat) : Int) != ((b.length : Nat) : Int))))]) (B' := []) ?_ ?_
  · exact sM (vl 138 1 enc_u32 a) rfl rfl <| sE' (e_ln (r := ((a.length : Nat) : Int)) rfl el28 rfl (by simp)) rfl <| sM (vl 138 1 enc_u32 b) rfl rfl <| sE' (e_ln (r := ((b.length : Nat) : Int)) rfl el28 rfl (by simp)) rfl <| sE' (e_neq rfl rfl rfl) rfl <| sNil rfl rfl
  refine pwp_cond (b := (((a.length : Nat) : Int) != ((b.length : Nat) : Int))) rfl (fun h1 => ?_) (fun h1 => ?_)
  · replace h1 := bne_iff_ne.1 h1
    refine pwp_seq <| pwp_seq <| pwp_S (S' := [(15, (vb (decide (((a.length : Nat) : Int) < ((b.length : Nat) : Int)))))]) (B' := []) ?_ ?_
    · exact sM (vl 138 1 enc_u32 a) rfl rfl <| sE' (e_ln (r := ((a.length : Nat) : Int)) rfl el28 rfl (by simp)) rfl <| sM (vl 138 1 enc_u32 b) rfl rfl <| sE' (e_ln (r := ((b.length : Nat) : Int)) rfl el28 rfl (by simp)) rfl <| sE' (e_lss rfl rfl rfl) rfl <| sNil rfl rfl
    refine pwp_cond (b := decide (((a.length : Nat) : Int) < ((b.length : Nat) : Int))) rfl (fun h2 => ?_) (fun h2 => ?_)
    · replace h2 := of_decide_eq_true h2
      refine pwp_seq <| pwp_S (S' := [(4, (vi (-1)))]) (B' := []) ?_ ?_
      · exact sM (vi (-1)) rfl rfl <| sNil rfl rfl
      refine pwp_ret ⟨_, (.tmp (d := (.val (.int .i64 (-1)))) rfl .nil), ?_⟩
      rw [← cmpI_len ha hb h1]; unfold cmpI; rw [if_pos (by omega)]; rfl
    · replace h2 := of_decide_eq_false h2
      refine pwp_skip <| pwp_seq <| pwp_S (S' := [(4, (vin 1))]) (B' := []) ?_ ?_
      · exact sM (vin 1) rfl rfl <| sNil rfl rfl
      refine pwp_ret ⟨_, (.tmp (d := (.val (.int .i64 (1)))) rfl .nil), ?_⟩
      rw [← cmpI_len ha hb h1, cmpI_gt (by omega)]; rfl
  · replace h1 := bne_eq_false_iff_eq.1 h1
    have hl : a.length = b.length := by omega
    refine pwp_skip <| pwp_seq <| pwp_seq <| pwp_S (S' := [(0, (vl 138 1 enc_u32 a)), (1, (vl 138 1 enc_u32 b)), (5, (vi (((a.length : Nat) : Int) - 1)))]) (B' := []) ?_ ?_
    · exact sM (vl 138 1 enc_u32 a) rfl rfl <| sE' (e_ln (r := ((a.length : Nat) : Int)) rfl el28 rfl (by simp)) rfl <| sE' (e_sub (r := (((a.length : Nat) : Int) - 1)) rfl rfl rfl (wi64 (by omega) (by omega) (by omega))) rfl <| sM (vi (((a.length : Nat) : Int) - 1)) rfl rfl <| sNil rfl rfl
    refine pwp_block <| pwp_loop (α := Nat) (fun k => ⟨[(0, (vl 138 1 enc_u32 a)), (1, (vl 138 1 enc_u32 b)), (5, (vi (((k : Nat) : Int) - 1)))], []⟩) (fun k => k ≤ a.length ∧ val (a.drop k) = val (b.drop k)) (fun k => k) a.length (weak rfl rfl) ⟨Nat.le_refl _, by rw [List.drop_length, hl, List.drop_length]⟩ ?_
    rintro k ⟨hk, he⟩
    refine pwp_seq <| pwp_seq <| pwp_S (S' := [(0, (vl 138 1 enc_u32 a)), (1, (vl 138 1 enc_u32 b)), (5, (vi (((k : Nat) : Int) - 1))), (20, (vb (decide (0 ≤ (((k : Nat) : Int) - 1)))))]) (B' := []) ?_ ?_
    · exact sM (vi (((k : Nat) : Int) - 1)) rfl rfl <| sE' (e_geq rfl rfl rfl) rfl <| sNil rfl rfl
    refine pwp_cond (b := decide (0 ≤ (((k : Nat) : Int) - 1))) rfl (fun h3 => ?_) (fun h3 => ?_)
    · replace h3 := of_decide_eq_true h3
      obtain ⟨i, rfl⟩ : ∃ i, k = i + 1 := ⟨k - 1, by omega⟩
      rw [show (((i + 1 : Nat) : Int) - 1) = ((i : Nat) : Int) from by omega]
      have ht := cmpI_top ha.1 hb.1 hl (j := a.length - 1 - i) (by omega) (by rw [show a.length - (a.length - 1 - i) = i + 1 by omega]; exact he)
      rw [show a.length - 1 - (a.length - 1 - i) = i by omega] at ht
      refine pwp_skip <| pwp_seq <| pwp_block <| pwp_seq <| pwp_seq <| pwp_D (S' := [(0, (vl 138 1 enc_u32 a)), (1, (vl 138 1 enc_u32 b)), (5, (vin i)), (31, (vb (decide ((((a.getD i 0) : Nat) : Int) < (((b.getD i 0) : Nat) : Int)))))]) (B' := []) mo (by kernel_rfl) ?_ ?_
      · exact dM (vl 138 1 enc_u32 a) rfl rfl rfl <| dM (vin i) rfl rfl rfl <| dE' (e_ixs (j := i) (cs := (Dat.cells (.val (.int .u32 ((((a.getD i 0) : Nat) : Int)))))) rfl el28 rfl rfl (by omega) (ixm _ _ _ _ (by omega))) rfl rfl <| dE' (e_lc1 (cs := (Dat.cells (.val (.int .u32 ((((a.getD i 0) : Nat) : Int)))))) (y := (.val (.int .u32 ((((a.getD i 0) : Nat) : Int))))) rfl rfl sh138 rfl) rfl rfl <| dM (vl 138 1 enc_u32 b) rfl rfl rfl <| dM (vin i) rfl rfl rfl <| dE' (e_ixs (j := i) (cs := (Dat.cells (.val (.int .u32 ((((b.getD i 0) : Nat) : Int)))))) rfl el28 rfl rfl (by omega) (ixm _ _ _ _ (by omega))) rfl rfl <| dE' (e_lc1 (cs := (Dat.cells (.val (.int .u32 ((((b.getD i 0) : Nat) : Int)))))) (y := (.val (.int .u32 ((((b.getD i 0) : Nat) : Int))))) rfl rfl sh138 rfl) rfl rfl <| dE' (e_lss rfl rfl rfl) rfl rfl <| dNil rfl rfl (by kernel_rfl)
      refine pwp_cond (b := decide ((((a.getD i 0) : Nat) : Int) < (((b.getD i 0) : Nat) : Int))) rfl (fun h4 => ?_) (fun h4 => ?_)
      · replace h4 := of_decide_eq_true h4
        refine pwp_seq <| pwp_S (S' := [(4, (vi (-1)))]) (B' := []) ?_ ?_
        · exact sM (vi (-1)) rfl rfl <| sNil rfl rfl
        refine pwp_ret ⟨_, (.tmp (d := (.val (.int .i64 (-1)))) rfl .nil), ?_⟩
        rw [← ht (by omega)]; unfold cmpI; rw [if_pos (by omega)]; rfl
      · replace h4 := of_decide_eq_false h4
        refine pwp_skip <| pwp_seq <| pwp_D (S' := [(0, (vl 138 1 enc_u32 a)), (1, (vl 138 1 enc_u32 b)), (5, (vin i)), (40, (vb (decide ((((b.getD i 0) : Nat) : Int) < (((a.getD i 0) : Nat) : Int)))))]) (B' := []) mo (by kernel_rfl) ?_ ?_
        · exact dM (vl 138 1 enc_u32 a) rfl rfl rfl <| dM (vin i) rfl rfl rfl <| dE' (e_ixs (j := i) (cs := (Dat.cells (.val (.int .u32 ((((a.getD i 0) : Nat) : Int)))))) rfl el28 rfl rfl (by omega) (ixm _ _ _ _ (by omega))) rfl rfl <| dE' (e_lc1 (cs := (Dat.cells (.val (.int .u32 ((((a.getD i 0) : Nat) : Int)))))) (y := (.val (.int .u32 ((((a.getD i 0) : Nat) : Int))))) rfl rfl sh138 rfl) rfl rfl <| dM (vl 138 1 enc_u32 b) rfl rfl rfl <| dM (vin i) rfl rfl rfl <| dE' (e_ixs (j := i) (cs := (Dat.cells (.val (.int .u32 ((((b.getD i 0) : Nat) : Int)))))) rfl el28 rfl rfl (by omega) (ixm _ _ _ _ (by omega))) rfl rfl <| dE' (e_lc1 (cs := (Dat.cells (.val (.int .u32 ((((b.getD i 0) : Nat) : Int)))))) (y := (.val (.int .u32 ((((b.getD i 0) : Nat) : Int))))) rfl rfl sh138 rfl) rfl rfl <| dE' (e_gtr rfl rfl rfl) rfl rfl <| dNil rfl rfl (by kernel_rfl)
        refine pwp_cond (b := decide ((((b.getD i 0) : Nat) : Int) < (((a.getD i 0) : Nat) : Int))) rfl (fun h5 => ?_) (fun h5 => ?_)
        · replace h5 := of_decide_eq_true h5
          refine pwp_seq <| pwp_S (S' := [(4, (vin 1))]) (B' := []) ?_ ?_
          · exact sM (vin 1) rfl rfl <| sNil rfl rfl
          refine pwp_ret ⟨_, (.tmp (d := (.val (.int .i64 (1)))) rfl .nil), ?_⟩
          rw [← ht (by omega), cmpI_gt (by omega)]; rfl
        · replace h5 := of_decide_eq_false h5
          refine pwp_skip <| pwp_S (S' := [(0, (vl 138 1 enc_u32 a)), (1, (vl 138 1 enc_u32 b)), (5, (vi (((i : Nat) : Int) - 1)))]) (B' := []) ?_ ?_
          · exact sM (vin i) rfl rfl <| sE' (e_sub (r := (((i : Nat) : Int) - 1)) rfl rfl rfl (wi64 (by omega) (by omega) (by omega))) rfl <| sM (vi (((i : Nat) : Int) - 1)) rfl rfl <| sNil rfl rfl
          exact ⟨i, (weak rfl rfl), ⟨by omega, by rw [val_drop_one a i, val_drop_one b i, he]; omega⟩, (by first | omega | (dsimp only; omega))⟩
    · replace h3 := of_decide_eq_false h3
      obtain rfl : k = 0 := by omega
      rw [List.drop_zero, List.drop_zero] at he
      refine pwp_exit <| pwp_seq <| pwp_S (S' := [(4, (vin 0))]) (B' := []) ?_ ?_
      · exact sM (vin 0) rfl rfl <| sNil rfl rfl
      refine pwp_ret ⟨_, (.tmp (d := (.val (.int .i64 (0)))) rfl .nil), ?_⟩
      rw [cmpI_same he]; rfl
theorem r_plus (a b : List Nat) (hda : Dig a) (hdb : Dig b) (hla : a.length ≤ 8796093022208) (hlb : b.length ≤ 8796093022208) : Takes Tryz.prog 152 [(.sl 138 1 (List.map enc_u32 a)), (.sl 138 1 (List.map enc_u32 b))] (.sl 138 1 (List.map enc_u32 (ofNat (val a + val b)))) := by
  refine fn_intro Tryz.func152 rfl cb152 rfl ?_
  show PWp _ _ _ _ ⟨[(0, (vl 138 1 enc_u32 a)), (1, (vl 138 1 enc_u32 b))], []⟩
  refine pwp_seq <| pwp_S (S' := [(0, (vl 138 1 enc_u32 a)), (1, (vl 138 1 enc_u32 b))]) (B' := []) ?_ ?_
  · exact sE' (e_asgnil 138 1 rfl) rfl <| sNil rfl rfl
  refine pwp_seq <| pwp_S (S' := [(0, (vl 138 1 enc_u32 a)), (1, (vl 138 1 enc_u32 b)), (5, (.own 0 138 1 0))]) (B' := [(0, some (bm enc_u32 []))]) ?_ ?_
  · exact sN (n_bso (pd := []) (es := List.map enc_u32 []) (cs := (bm enc_u32 [])) 0 rfl el28 ze138 zo138 rfl rfl rfl rfl rfl rfl rfl rfl rfl) rfl rfl rfl rfl <| sM (.own 0 138 1 0) rfl rfl <| sNil rfl rfl
  refine pwp_seq <| pwp_S (S' := [(0, (vl 138 1 enc_u32 a)), (1, (vl 138 1 enc_u32 b)), (5, (.own 0 138 1 0)), (6, (vqn 0))]) (B' := [(0, some (bm enc_u32 []))]) ?_ ?_
  · exact sM (vqn 0) rfl rfl <| sNil rfl rfl
  refine pwp_seq <| pwp_seq <| pwp_S (S' := [(0, (vl 138 1 enc_u32 a)), (1, (vl 138 1 enc_u32 b)), (5, (.own 0 138 1 0)), (6, (vqn 0)), (7, (vin 0))]) (B' := [(0, some (bm enc_u32 []))]) ?_ ?_
  · exact sM (vin 0) rfl rfl <| sNil rfl rfl
  refine pwp_block <| pwp_loop (α := Nat × List Nat × Nat) (fun (i, o, c) => ⟨[(0, (vl 138 1 enc_u32 a)), (1, (vl 138 1 enc_u32 b)), (5, (.own 0 138 1 o.length)), (6, (vqn c)), (7, (vin i))], [(0, some (bm enc_u32 o))]⟩) (fun (i, o, c) => o.length = i ∧ Dig o ∧ i ≤ max a.length b.length ∧ c ≤ 1 ∧ val o + pw i * c = val (a.take i) + val (b.take i)) (fun (i, o, c) => max a.length b.length - i) (0, [], 0) (weak rfl rfl) ⟨rfl, dig_nil, Nat.zero_le _, Nat.zero_le _, by simp [val]⟩ ?_
  rintro ⟨i, o, c⟩ ⟨hl, hd, hi, hc, hv⟩
  have hai := hda.getD i
  have hbi := hdb.getD i
  refine pwp_seq <| pwp_seq <| pwp_S (S' := [(0, (vl 138 1 enc_u32 a)), (1, (vl 138 1 enc_u32 b)), (5, (.own 0 138 1 o.length)), (6, (vqn c)), (7, (vin i)), (19, (vb (decide (((i : Nat) : Int) < ((a.length : Nat) : Int)) || decide (((i : Nat) : Int) < ((b.length : Nat) : Int)))))]) (B' := [(0, some (bm enc_u32 o))]) ?_ ?_
  · refine sM (vin i) rfl rfl <| sM (vl 138 1 enc_u32 a) rfl rfl <| sE' (e_ln (r := ((a.length : Nat) : Int)) rfl el28 rfl (by simp)) rfl <| sE' (e_lss rfl rfl rfl) rfl <| sM (vb (decide (((i : Nat) : Int) < ((a.length : Nat) : Int)))) rfl rfl <| ?_
    rcases hb1 : (decide (((i : Nat) : Int) < ((a.length : Nat) : Int))) with _ | _
    · replace hb1 := of_decide_eq_false hb1
      exact sM (vin i) rfl rfl <| sM (vl 138 1 enc_u32 b) rfl rfl <| sE' (e_ln (r := ((b.length : Nat) : Int)) rfl el28 rfl (by simp)) rfl <| sE' (e_lss rfl rfl rfl) rfl <| sE' (e_pkfo rfl rfl rfl) rfl <| sNil rfl rfl
    · replace hb1 := of_decide_eq_true hb1
      exact sK rfl rfl rfl <| sK rfl rfl rfl <| sK rfl rfl rfl <| sK rfl rfl rfl <| sE' (e_pkt (z := (vb true)) rfl rfl rfl) rfl <| sNil rfl rfl
  refine pwp_cond (b := (decide (((i : Nat) : Int) < ((a.length : Nat) : Int)) || decide (((i : Nat) : Int) < ((b.length : Nat) : Int)))) rfl (fun h2 => ?_) (fun h2 => ?_)
  · rw [Bool.or_eq_true, decide_eq_true_eq, decide_eq_true_eq] at h2
    refine pwp_skip <| pwp_seq <| pwp_block <| pwp_seq <| pwp_S (S' := [(0, (vl 138 1 enc_u32 a)), (1, (vl 138 1 enc_u32 b)), (5, (.own 0 138 1 o.length)), (7, (vin i)), (8, (vqn (((a.getD i 0) + (b.getD i 0)) + c)))]) (B' := [(0, some (bm enc_u32 o))]) ?_ ?_
    · exact sM (vl 138 1 enc_u32 a) rfl rfl <| sM (vin i) rfl rfl <| sE' (e_cl (r_group a i (by first | assumption | exact ofNat_dig _ | exact (ofNat_can _).1 | exact (grpI_can _).1)) rfl rfl rfl) rfl <| sM (vl 138 1 enc_u32 b) rfl rfl <| sM (vin i) rfl rfl <| sE' (e_cl (r_group b i (by first | assumption | exact ofNat_dig _ | exact (ofNat_can _).1 | exact (grpI_can _).1)) rfl rfl rfl) rfl <| sE' (e_add (r := ((((a.getD i 0) + (b.getD i 0)) : Nat) : Int)) rfl rfl rfl (wu64 (by omega) (by omega) (by omega))) rfl <| sM (vqn c) rfl rfl <| sE' (e_add (r := (((((a.getD i 0) + (b.getD i 0)) + c) : Nat) : Int)) rfl rfl rfl (wu64 (by omega) (by omega) (by omega))) rfl <| sM (vqn (((a.getD i 0) + (b.getD i 0)) + c)) rfl rfl <| sNil rfl rfl
    refine pwp_seq <| pwp_S (S' := [(0, (vl 138 1 enc_u32 a)), (1, (vl 138 1 enc_u32 b)), (5, (.own 0 138 1 ((o ++ [((((a.getD i 0) + (b.getD i 0)) + c) % 1000000000)]).length))), (7, (vin i)), (8, (vqn (((a.getD i 0) + (b.getD i 0)) + c)))]) (B' := [(0, some (bm enc_u32 (o ++ [((((a.getD i 0) + (b.getD i 0)) + c) % 1000000000)])))]) ?_ ?_
    · exact sM (.own 0 138 1 o.length) rfl rfl <| sM (vqn (((a.getD i 0) + (b.getD i 0)) + c)) rfl rfl <| sE' (e_rem (r := ((((((a.getD i 0) + (b.getD i 0)) + c) % 1000000000) : Nat) : Int)) rfl rfl rfl (by decide) (tmod_nat _ _)) rfl <| sE' (e_conv (r := ((((((a.getD i 0) + (b.getD i 0)) + c) % 1000000000) : Nat) : Int)) rfl un140 in138 rfl (cu32 (by omega))) rfl <| sE' (e_bsl (pd := [(0, (.val (.int .u32 (((((((a.getD i 0) + (b.getD i 0)) + c) % 1000000000) : Nat) : Int)))))]) (es := List.map enc_u32 [((((a.getD i 0) + (b.getD i 0)) + c) % 1000000000)]) rfl el28 ze138 zo138 rfl rfl rfl rfl rfl rfl rfl rfl) rfl <| sApp1 (m2 := (o ++ [((((a.getD i 0) + (b.getD i 0)) + c) % 1000000000)]).length) enc_u32 o [((((a.getD i 0) + (b.getD i 0)) + c) % 1000000000)] (fun _ => rfl) rfl rfl rfl rfl el28 ze138 rfl by138 rfl rfl rfl rfl (by simp only [List.length_cons, List.length_nil, maxLen]; omega) (by first | omega | (simp only [List.length_cons, List.length_nil]; omega)) (by repeat first | exact clr_nil _ | refine clr_self ?_ | refine clr_map ?_ | refine clr_bx ?_ | refine clr_d ?_) (by simp; try omega) <| sM (.own 0 138 1 ((o ++ [((((a.getD i 0) + (b.getD i 0)) + c) % 1000000000)]).length)) rfl rfl <| sNil rfl rfl
    refine pwp_S (S' := [(0, (vl 138 1 enc_u32 a)), (1, (vl 138 1 enc_u32 b)), (5, (.own 0 138 1 ((o ++ [((((a.getD i 0) + (b.getD i 0)) + c) % 1000000000)]).length))), (6, (vqn ((((a.getD i 0) + (b.getD i 0)) + c) / 1000000000))), (7, (vin i))]) (B' := [(0, some (bm enc_u32 (o ++ [((((a.getD i 0) + (b.getD i 0)) + c) % 1000000000)])))]) ?_ ?_
    · exact sM (vqn (((a.getD i 0) + (b.getD i 0)) + c)) rfl rfl <| sE' (e_quo (r := ((((((a.getD i 0) + (b.getD i 0)) + c) / 1000000000) : Nat) : Int)) rfl rfl rfl (by decide) (quo_u64 _ _ (by omega))) rfl <| sM (vqn ((((a.getD i 0) + (b.getD i 0)) + c) / 1000000000)) rfl rfl <| sNil rfl rfl
    refine pwp_S (S' := [(0, (vl 138 1 enc_u32 a)), (1, (vl 138 1 enc_u32 b)), (5, (.own 0 138 1 ((o ++ [((((a.getD i 0) + (b.getD i 0)) + c) % 1000000000)]).length))), (6, (vqn ((((a.getD i 0) + (b.getD i 0)) + c) / 1000000000))), (7, (vin (i + 1)))]) (B' := [(0, some (bm enc_u32 (o ++ [((((a.getD i 0) + (b.getD i 0)) + c) % 1000000000)])))]) ?_ ?_
    · exact sM (vin i) rfl rfl <| sE' (e_add (r := (((i + 1) : Nat) : Int)) rfl rfl rfl (wi64 (by omega) (by omega) (by omega))) rfl <| sM (vin (i + 1)) rfl rfl <| sNil rfl rfl
    exact ⟨(i + 1, o ++ [(a.getD i 0 + b.getD i 0 + c) % 1000000000], (a.getD i 0 + b.getD i 0 + c) / 1000000000), (weak rfl rfl), ⟨by simp [hl], dig_push hd (Nat.mod_lt _ (by decide)), by omega, by omega, rplus_step hl hv rfl⟩, (by first | omega | (dsimp only; omega))⟩
  · rw [Bool.or_eq_false_iff, decide_eq_false_iff_not, decide_eq_false_iff_not] at h2
    rw [take_all (by omega), take_all (by omega)] at hv
    have hp := val_push (c := c) hl
    refine pwp_exit <| pwp_seq <| pwp_S (S' := [(4, (vl 138 1 enc_u32 (ofNat (val (o ++ [c])))))]) (B' := []) ?_ ?_
    · exact sM (.own 0 138 1 o.length) rfl rfl <| sM (vqn c) rfl rfl <| sE' (e_conv (r := ((c : Nat) : Int)) rfl un140 in138 rfl (cu32 (by omega))) rfl <| sE' (e_bsl (pd := [(0, (.val (.int .u32 (((c : Nat) : Int)))))]) (es := List.map enc_u32 [c]) rfl el28 ze138 zo138 rfl rfl rfl rfl rfl rfl rfl rfl) rfl <| sApp1P enc_u32 o [c] (fun _ => rfl) rfl rfl rfl rfl el28 ze138 rfl by138 rfl rfl rfl rfl (by simp only [List.length_cons, List.length_nil, maxLen]; omega) (by first | omega | (simp only [List.length_cons, List.length_nil]; omega)) (by repeat first | exact clr_nil _ | refine clr_self ?_ | refine clr_map ?_ | refine clr_bx ?_ | refine clr_d ?_) <| sE' (e_cl (r_made false (o ++ [c]) (dig_push hd (by omega)) (by simp only [List.length_append, List.length_cons, List.length_nil]; omega)) rfl rfl rfl) rfl <| sE' (e_fld1 (cs := (Dat.cells (encI (mkI false (val (o ++ [c])))))) (y := (vl 138 1 enc_u32 (ofNat (val (o ++ [c]))))) rfl rfl ft30_1 sh28 rfl rfl) rfl <| sM (vl 138 1 enc_u32 (ofNat (val (o ++ [c])))) rfl rfl <| sNil rfl rfl
    refine pwp_ret ⟨_, (.tmp (d := (.sl 138 1 (List.map enc_u32 (ofNat (val (o ++ [c])))))) rfl .nil), ?_⟩
    rw [hp, hv]; rfl
theorem r_minus (a b : List Nat) (hda : Dig a) (hdb : Dig b) (hba : val b ≤ val a) (hla : a.length ≤ 8796093022208) : Takes Tryz.prog 146 [(.sl 138 1 (List.map enc_u32 a)), (.sl 138 1 (List.map enc_u32 b))] (.sl 138 1 (List.map enc_u32 (ofNat (val a - val b)))) := by
  refine fn_intro Tryz.func146 rfl cb146 rfl ?_
  show PWp _ _ _ _ ⟨[(0, (vl 138 1 enc_u32 a)), (1, (vl 138 1 enc_u32 b))], []⟩
  refine pwp_seq <| pwp_S (S' := [(0, (vl 138 1 enc_u32 a)), (1, (vl 138 1 enc_u32 b))]) (B' := []) ?_ ?_
  · exact sE' (e_asgnil 138 1 rfl) rfl <| sNil rfl rfl
  refine pwp_seq <| pwp_S (S' := [(0, (vl 138 1 enc_u32 a)), (1, (vl 138 1 enc_u32 b)), (5, (.own 0 138 1 0))]) (B' := [(0, some (bm enc_u32 []))]) ?_ ?_
  · exact sN (n_bso (pd := []) (es := List.map enc_u32 []) (cs := (bm enc_u32 [])) 0 rfl el28 ze138 zo138 rfl rfl rfl rfl rfl rfl rfl rfl rfl) rfl rfl rfl rfl <| sM (.own 0 138 1 0) rfl rfl <| sNil rfl rfl
  refine pwp_seq <| pwp_S (S' := [(0, (vl 138 1 enc_u32 a)), (1, (vl 138 1 enc_u32 b)), (5, (.own 0 138 1 0)), (6, (vqn 0))]) (B' := [(0, some (bm enc_u32 []))]) ?_ ?_
  · exact sM (vqn 0) rfl rfl <| sNil rfl rfl
  refine pwp_seq <| pwp_seq <| pwp_S (S' := [(0, (vl 138 1 enc_u32 a)), (1, (vl 138 1 enc_u32 b)), (5, (.own 0 138 1 0)), (6, (vqn 0)), (7, (vin 0))]) (B' := [(0, some (bm enc_u32 []))]) ?_ ?_
  · exact sM (vin 0) rfl rfl <| sNil rfl rfl
  refine pwp_block <| pwp_loop (α := Nat × List Nat × Nat) (fun (i, o, c) => ⟨[(0, (vl 138 1 enc_u32 a)), (1, (vl 138 1 enc_u32 b)), (5, (.own 0 138 1 o.length)), (6, (vqn c)), (7, (vin i))], [(0, some (bm enc_u32 o))]⟩) (fun (i, o, c) => o.length = i ∧ Dig o ∧ i ≤ a.length ∧ c ≤ 1 ∧ val o + val (b.take i) = val (a.take i) + pw i * c) (fun (i, o, c) => a.length - i) (0, [], 0) (weak rfl rfl) ⟨rfl, dig_nil, Nat.zero_le _, Nat.zero_le _, by simp [val]⟩ ?_
  rintro ⟨i, o, c⟩ ⟨hl, hd, hi, hc, hv⟩
  have hai := hda.getD i
  have hbi := hdb.getD i
  refine pwp_seq <| pwp_seq <| pwp_S (S' := [(0, (vl 138 1 enc_u32 a)), (1, (vl 138 1 enc_u32 b)), (5, (.own 0 138 1 o.length)), (6, (vqn c)), (7, (vin i)), (13, (vb (decide (((i : Nat) : Int) < ((a.length : Nat) : Int)))))]) (B' := [(0, some (bm enc_u32 o))]) ?_ ?_
  · exact sM (vin i) rfl rfl <| sM (vl 138 1 enc_u32 a) rfl rfl <| sE' (e_ln (r := ((a.length : Nat) : Int)) rfl el28 rfl (by simp)) rfl <| sE' (e_lss rfl rfl rfl) rfl <| sNil rfl rfl
  refine pwp_cond (b := decide (((i : Nat) : Int) < ((a.length : Nat) : Int))) rfl (fun h1 => ?_) (fun h1 => ?_)
  · replace h1 := of_decide_eq_true h1
    refine pwp_skip <| pwp_seq <| pwp_block <| pwp_seq <| pwp_S (S' := [(0, (vl 138 1 enc_u32 a)), (1, (vl 138 1 enc_u32 b)), (5, (.own 0 138 1 o.length)), (7, (vin i)), (8, (vqn (((1000000000 + (a.getD i 0)) - (b.getD i 0)) - c)))]) (B' := [(0, some (bm enc_u32 o))]) ?_ ?_
    · exact sM (vl 138 1 enc_u32 a) rfl rfl <| sM (vin i) rfl rfl <| sE' (e_cl (r_group a i (by first | assumption | exact ofNat_dig _ | exact (ofNat_can _).1 | exact (grpI_can _).1)) rfl rfl rfl) rfl <| sE' (e_add (r := (((1000000000 + (a.getD i 0)) : Nat) : Int)) rfl rfl rfl (wu64 (by omega) (by omega) (by omega))) rfl <| sM (vl 138 1 enc_u32 b) rfl rfl <| sM (vin i) rfl rfl <| sE' (e_cl (r_group b i (by first | assumption | exact ofNat_dig _ | exact (ofNat_can _).1 | exact (grpI_can _).1)) rfl rfl rfl) rfl <| sE' (e_sub (r := ((((1000000000 + (a.getD i 0)) - (b.getD i 0)) : Nat) : Int)) rfl rfl rfl (wu64 (by omega) (by omega) (by omega))) rfl <| sM (vqn c) rfl rfl <| sE' (e_sub (r := (((((1000000000 + (a.getD i 0)) - (b.getD i 0)) - c) : Nat) : Int)) rfl rfl rfl (wu64 (by omega) (by omega) (by omega))) rfl <| sM (vqn (((1000000000 + (a.getD i 0)) - (b.getD i 0)) - c)) rfl rfl <| sNil rfl rfl
    refine pwp_seq <| pwp_S (S' := [(0, (vl 138 1 enc_u32 a)), (1, (vl 138 1 enc_u32 b)), (5, (.own 0 138 1 ((o ++ [((((1000000000 + (a.getD i 0)) - (b.getD i 0)) - c) % 1000000000)]).length))), (7, (vin i)), (8, (vqn (((1000000000 + (a.getD i 0)) - (b.getD i 0)) - c)))]) (B' := [(0, some (bm enc_u32 (o ++ [((((1000000000 + (a.getD i 0)) - (b.getD i 0)) - c) % 1000000000)])))]) ?_ ?_
    · exact sM (.own 0 138 1 o.length) rfl rfl <| sM (vqn (((1000000000 + (a.getD i 0)) - (b.getD i 0)) - c)) rfl rfl <| sE' (e_rem (r := ((((((1000000000 + (a.getD i 0)) - (b.getD i 0)) - c) % 1000000000) : Nat) : Int)) rfl rfl rfl (by decide) (tmod_nat _ _)) rfl <| sE' (e_conv (r := ((((((1000000000 + (a.getD i 0)) - (b.getD i 0)) - c) % 1000000000) : Nat) : Int)) rfl un140 in138 rfl (cu32 (by omega))) rfl <| sE' (e_bsl (pd := [(0, (.val (.int .u32 (((((((1000000000 + (a.getD i 0)) - (b.getD i 0)) - c) % 1000000000) : Nat) : Int)))))]) (es := List.map enc_u32 [((((1000000000 + (a.getD i 0)) - (b.getD i 0)) - c) % 1000000000)]) rfl el28 ze138 zo138 rfl rfl rfl rfl rfl rfl rfl rfl) rfl <| sApp1 (m2 := (o ++ [((((1000000000 + (a.getD i 0)) - (b.getD i 0)) - c) % 1000000000)]).length) enc_u32 o [((((1000000000 + (a.getD i 0)) - (b.getD i 0)) - c) % 1000000000)] (fun _ => rfl) rfl rfl rfl rfl el28 ze138 rfl by138 rfl rfl rfl rfl (by simp only [List.length_cons, List.length_nil, maxLen]; omega) (by first | omega | (simp only [List.length_cons, List.length_nil]; omega)) (by repeat first | exact clr_nil _ | refine clr_self ?_ | refine clr_map ?_ | refine clr_bx ?_ | refine clr_d ?_) (by simp; try omega) <| sM (.own 0 138 1 ((o ++ [((((1000000000 + (a.getD i 0)) - (b.getD i 0)) - c) % 1000000000)]).length)) rfl rfl <| sNil rfl rfl
    refine pwp_S (S' := [(0, (vl 138 1 enc_u32 a)), (1, (vl 138 1 enc_u32 b)), (5, (.own 0 138 1 ((o ++ [((((1000000000 + (a.getD i 0)) - (b.getD i 0)) - c) % 1000000000)]).length))), (6, (vqn (1 - ((((1000000000 + (a.getD i 0)) - (b.getD i 0)) - c) / 1000000000)))), (7, (vin i))]) (B' := [(0, some (bm enc_u32 (o ++ [((((1000000000 + (a.getD i 0)) - (b.getD i 0)) - c) % 1000000000)])))]) ?_ ?_
    · exact sM (vqn (((1000000000 + (a.getD i 0)) - (b.getD i 0)) - c)) rfl rfl <| sE' (e_quo (r := ((((((1000000000 + (a.getD i 0)) - (b.getD i 0)) - c) / 1000000000) : Nat) : Int)) rfl rfl rfl (by decide) (quo_u64 _ _ (by omega))) rfl <| sE' (e_sub (r := (((1 - ((((1000000000 + (a.getD i 0)) - (b.getD i 0)) - c) / 1000000000)) : Nat) : Int)) rfl rfl rfl (wu64 (by omega) (by omega) (by omega))) rfl <| sM (vqn (1 - ((((1000000000 + (a.getD i 0)) - (b.getD i 0)) - c) / 1000000000))) rfl rfl <| sNil rfl rfl
    refine pwp_S (S' := [(0, (vl 138 1 enc_u32 a)), (1, (vl 138 1 enc_u32 b)), (5, (.own 0 138 1 ((o ++ [((((1000000000 + (a.getD i 0)) - (b.getD i 0)) - c) % 1000000000)]).length))), (6, (vqn (1 - ((((1000000000 + (a.getD i 0)) - (b.getD i 0)) - c) / 1000000000)))), (7, (vin (i + 1)))]) (B' := [(0, some (bm enc_u32 (o ++ [((((1000000000 + (a.getD i 0)) - (b.getD i 0)) - c) % 1000000000)])))]) ?_ ?_
    · exact sM (vin i) rfl rfl <| sE' (e_add (r := (((i + 1) : Nat) : Int)) rfl rfl rfl (wi64 (by omega) (by omega) (by omega))) rfl <| sM (vin (i + 1)) rfl rfl <| sNil rfl rfl
    exact ⟨(i + 1, o ++ [(1000000000 + a.getD i 0 - b.getD i 0 - c) % 1000000000], 1 - (1000000000 + a.getD i 0 - b.getD i 0 - c) / 1000000000), (weak rfl rfl), ⟨by simp [hl], dig_push hd (Nat.mod_lt _ (by decide)), by omega, by omega, rminus_step hl hv (by omega) (by omega)⟩, (by first | omega | (dsimp only; omega))⟩
  · replace h1 := of_decide_eq_false h1
    have hie : i = a.length := by omega
    refine pwp_exit <| pwp_seq <| pwp_sim (publish (t := 5) (k := 0) (es := List.map enc_u32 o) rfl rfl (pub_cells _ _ (fun _ => rfl)) (map_len _ _ rfl) (pub_take _ _ (fun _ => rfl) rfl)) ?_
    refine pwp_sim (weak (l := [(0, (vl 138 1 enc_u32 a)), (1, (vl 138 1 enc_u32 b)), (5, (vl 138 1 enc_u32 o)), (6, (vqn c)), (7, (vin i)), (13, (vb (decide (((i : Nat) : Int) < ((a.length : Nat) : Int)))))]) (b := []) rfl rfl) ?_
    refine pwp_S (S' := [(4, (vl 138 1 enc_u32 (ofNat (val o))))]) (B' := []) ?_ ?_
    · exact sM (vl 138 1 enc_u32 o) rfl rfl <| sE' (e_cl (r_made false o hd (by omega)) rfl rfl rfl) rfl <| sE' (e_fld1 (cs := (Dat.cells (encI (mkI false (val o))))) (y := (vl 138 1 enc_u32 (ofNat (val o)))) rfl rfl ft30_1 sh28 rfl rfl) rfl <| sM (vl 138 1 enc_u32 (ofNat (val o))) rfl rfl <| sNil rfl rfl
    refine pwp_ret ⟨_, (.tmp (d := (.sl 138 1 (List.map enc_u32 (ofNat (val o))))) rfl .nil), ?_⟩
    rw [rminus_end hda hdb hd hie hl hba hv]; rfl
theorem r_scaled (a : List Nat) (d : Nat) (hda : Dig a) (hd1 : d ≤ 1000000000) (hla : a.length ≤ 8796093022208) : Takes Tryz.prog 143 [(.sl 138 1 (List.map enc_u32 a)), (.val (.int .u64 (((d : Nat) : Int))))] (.sl 138 1 (List.map enc_u32 (ofNat (val a * d)))) := by
  refine fn_intro Tryz.func143 rfl cb143 rfl ?_
  show PWp _ _ _ _ ⟨[(0, (vl 138 1 enc_u32 a)), (1, (vqn d))], []⟩
  refine pwp_seq <| pwp_S (S' := [(0, (vl 138 1 enc_u32 a)), (1, (vqn d))]) (B' := []) ?_ ?_
  · exact sE' (e_asgnil 138 1 rfl) rfl <| sNil rfl rfl
  refine pwp_seq <| pwp_S (S' := [(0, (vl 138 1 enc_u32 a)), (1, (vqn d)), (5, (.own 0 138 1 0))]) (B' := [(0, some (bm enc_u32 []))]) ?_ ?_
  · exact sN (n_bso (pd := []) (es := List.map enc_u32 []) (cs := (bm enc_u32 [])) 0 rfl el28 ze138 zo138 rfl rfl rfl rfl rfl rfl rfl rfl rfl) rfl rfl rfl rfl <| sM (.own 0 138 1 0) rfl rfl <| sNil rfl rfl
  refine pwp_seq <| pwp_S (S' := [(0, (vl 138 1 enc_u32 a)), (1, (vqn d)), (5, (.own 0 138 1 0)), (6, (vqn 0))]) (B' := [(0, some (bm enc_u32 []))]) ?_ ?_
  · exact sM (vqn 0) rfl rfl <| sNil rfl rfl
  refine pwp_seq <| pwp_seq <| pwp_S (S' := [(0, (vl 138 1 enc_u32 a)), (1, (vqn d)), (5, (.own 0 138 1 0)), (6, (vqn 0)), (7, (vin 0))]) (B' := [(0, some (bm enc_u32 []))]) ?_ ?_
  · exact sM (vin 0) rfl rfl <| sNil rfl rfl
  refine pwp_block <| pwp_loop (α := Nat × List Nat × Nat) (fun (i, o, c) => ⟨[(0, (vl 138 1 enc_u32 a)), (1, (vqn d)), (5, (.own 0 138 1 o.length)), (6, (vqn c)), (7, (vin i))], [(0, some (bm enc_u32 o))]⟩) (fun (i, o, c) => o.length = i ∧ Dig o ∧ i ≤ a.length ∧ c ≤ 999999999 ∧ val o + pw i * c = val (a.take i) * d) (fun (i, o, c) => a.length - i) (0, [], 0) (weak rfl rfl) ⟨rfl, dig_nil, Nat.zero_le _, Nat.zero_le _, by simp [val]⟩ ?_
  rintro ⟨i, o, c⟩ ⟨hl, hd, hi, hc, hv⟩
  have hai := hda.getD i
  have hpq : a.getD i 0 * d ≤ 999999999 * 1000000000 := Nat.mul_le_mul (by omega) hd1
  refine pwp_seq <| pwp_seq <| pwp_S (S' := [(0, (vl 138 1 enc_u32 a)), (1, (vqn d)), (5, (.own 0 138 1 o.length)), (6, (vqn c)), (7, (vin i)), (13, (vb (decide (((i : Nat) : Int) < ((a.length : Nat) : Int)))))]) (B' := [(0, some (bm enc_u32 o))]) ?_ ?_
  · exact sM (vin i) rfl rfl <| sM (vl 138 1 enc_u32 a) rfl rfl <| sE' (e_ln (r := ((a.length : Nat) : Int)) rfl el28 rfl (by simp)) rfl <| sE' (e_lss rfl rfl rfl) rfl <| sNil rfl rfl
  refine pwp_cond (b := decide (((i : Nat) : Int) < ((a.length : Nat) : Int))) rfl (fun h1 => ?_) (fun h1 => ?_)
  · replace h1 := of_decide_eq_true h1
    refine pwp_skip <| pwp_seq <| pwp_block <| pwp_seq <| pwp_S (S' := [(0, (vl 138 1 enc_u32 a)), (1, (vqn d)), (5, (.own 0 138 1 o.length)), (7, (vin i)), (8, (vqn (((a.getD i 0) * d) + c)))]) (B' := [(0, some (bm enc_u32 o))]) ?_ ?_
    · exact sM (vl 138 1 enc_u32 a) rfl rfl <| sM (vin i) rfl rfl <| sE' (e_ixs (j := i) (cs := (Dat.cells (.val (.int .u32 ((((a.getD i 0) : Nat) : Int)))))) rfl el28 rfl rfl (by omega) (ixm _ _ _ _ (by omega))) rfl <| sE' (e_lc1 (cs := (Dat.cells (.val (.int .u32 ((((a.getD i 0) : Nat) : Int)))))) (y := (.val (.int .u32 ((((a.getD i 0) : Nat) : Int))))) rfl rfl sh138 rfl) rfl <| sE' (e_conv (r := (((a.getD i 0) : Nat) : Int)) rfl un138 in140 rfl (cu64 (by omega))) rfl <| sM (vqn d) rfl rfl <| sE' (e_mul (r := ((((a.getD i 0) * d) : Nat) : Int)) rfl rfl rfl (wu64 (by omega) (by omega) (by omega))) rfl <| sM (vqn c) rfl rfl <| sE' (e_add (r := (((((a.getD i 0) * d) + c) : Nat) : Int)) rfl rfl rfl (wu64 (by omega) (by omega) (by omega))) rfl <| sM (vqn (((a.getD i 0) * d) + c)) rfl rfl <| sNil rfl rfl
    refine pwp_seq <| pwp_S (S' := [(0, (vl 138 1 enc_u32 a)), (1, (vqn d)), (5, (.own 0 138 1 ((o ++ [((((a.getD i 0) * d) + c) % 1000000000)]).length))), (7, (vin i)), (8, (vqn (((a.getD i 0) * d) + c)))]) (B' := [(0, some (bm enc_u32 (o ++ [((((a.getD i 0) * d) + c) % 1000000000)])))]) ?_ ?_
    · exact sM (.own 0 138 1 o.length) rfl rfl <| sM (vqn (((a.getD i 0) * d) + c)) rfl rfl <| sE' (e_rem (r := ((((((a.getD i 0) * d) + c) % 1000000000) : Nat) : Int)) rfl rfl rfl (by decide) (tmod_nat _ _)) rfl <| sE' (e_conv (r := ((((((a.getD i 0) * d) + c) % 1000000000) : Nat) : Int)) rfl un140 in138 rfl (cu32 (by omega))) rfl <| sE' (e_bsl (pd := [(0, (.val (.int .u32 (((((((a.getD i 0) * d) + c) % 1000000000) : Nat) : Int)))))]) (es := List.map enc_u32 [((((a.getD i 0) * d) + c) % 1000000000)]) rfl el28 ze138 zo138 rfl rfl rfl rfl rfl rfl rfl rfl) rfl <| sApp1 (m2 := (o ++ [((((a.getD i 0) * d) + c) % 1000000000)]).length) enc_u32 o [((((a.getD i 0) * d) + c) % 1000000000)] (fun _ => rfl) rfl rfl rfl rfl el28 ze138 rfl by138 rfl rfl rfl rfl (by simp only [List.length_cons, List.length_nil, maxLen]; omega) (by first | omega | (simp only [List.length_cons, List.length_nil]; omega)) (by repeat first | exact clr_nil _ | refine clr_self ?_ | refine clr_map ?_ | refine clr_bx ?_ | refine clr_d ?_) (by simp; try omega) <| sM (.own 0 138 1 ((o ++ [((((a.getD i 0) * d) + c) % 1000000000)]).length)) rfl rfl <| sNil rfl rfl
    refine pwp_S (S' := [(0, (vl 138 1 enc_u32 a)), (1, (vqn d)), (5, (.own 0 138 1 ((o ++ [((((a.getD i 0) * d) + c) % 1000000000)]).length))), (6, (vqn ((((a.getD i 0) * d) + c) / 1000000000))), (7, (vin i))]) (B' := [(0, some (bm enc_u32 (o ++ [((((a.getD i 0) * d) + c) % 1000000000)])))]) ?_ ?_
    · exact sM (vqn (((a.getD i 0) * d) + c)) rfl rfl <| sE' (e_quo (r := ((((((a.getD i 0) * d) + c) / 1000000000) : Nat) : Int)) rfl rfl rfl (by decide) (quo_u64 _ _ (by omega))) rfl <| sM (vqn ((((a.getD i 0) * d) + c) / 1000000000)) rfl rfl <| sNil rfl rfl
    refine pwp_S (S' := [(0, (vl 138 1 enc_u32 a)), (1, (vqn d)), (5, (.own 0 138 1 ((o ++ [((((a.getD i 0) * d) + c) % 1000000000)]).length))), (6, (vqn ((((a.getD i 0) * d) + c) / 1000000000))), (7, (vin (i + 1)))]) (B' := [(0, some (bm enc_u32 (o ++ [((((a.getD i 0) * d) + c) % 1000000000)])))]) ?_ ?_
    · exact sM (vin i) rfl rfl <| sE' (e_add (r := (((i + 1) : Nat) : Int)) rfl rfl rfl (wi64 (by omega) (by omega) (by omega))) rfl <| sM (vin (i + 1)) rfl rfl <| sNil rfl rfl
    exact ⟨(i + 1, o ++ [(a.getD i 0 * d + c) % 1000000000], (a.getD i 0 * d + c) / 1000000000), (weak rfl rfl), ⟨by simp [hl], dig_push hd (Nat.mod_lt _ (by decide)), by omega, by omega, rscaled_step hl hv rfl⟩, (by first | omega | (dsimp only; omega))⟩
  · replace h1 := of_decide_eq_false h1
    have hie : i = a.length := by omega
    rw [take_all (by omega)] at hv
    have hp := val_push (c := c) hl
    refine pwp_exit <| pwp_seq <| pwp_S (S' := [(4, (vl 138 1 enc_u32 (ofNat (val (o ++ [c])))))]) (B' := []) ?_ ?_
    · exact sM (.own 0 138 1 o.length) rfl rfl <| sM (vqn c) rfl rfl <| sE' (e_conv (r := ((c : Nat) : Int)) rfl un140 in138 rfl (cu32 (by omega))) rfl <| sE' (e_bsl (pd := [(0, (.val (.int .u32 (((c : Nat) : Int)))))]) (es := List.map enc_u32 [c]) rfl el28 ze138 zo138 rfl rfl rfl rfl rfl rfl rfl rfl) rfl <| sApp1P enc_u32 o [c] (fun _ => rfl) rfl rfl rfl rfl el28 ze138 rfl by138 rfl rfl rfl rfl (by simp only [List.length_cons, List.length_nil, maxLen]; omega) (by first | omega | (simp only [List.length_cons, List.length_nil]; omega)) (by repeat first | exact clr_nil _ | refine clr_self ?_ | refine clr_map ?_ | refine clr_bx ?_ | refine clr_d ?_) <| sE' (e_cl (r_made false (o ++ [c]) (dig_push hd (by omega)) (by simp only [List.length_append, List.length_cons, List.length_nil]; omega)) rfl rfl rfl) rfl <| sE' (e_fld1 (cs := (Dat.cells (encI (mkI false (val (o ++ [c])))))) (y := (vl 138 1 enc_u32 (ofNat (val (o ++ [c]))))) rfl rfl ft30_1 sh28 rfl rfl) rfl <| sM (vl 138 1 enc_u32 (ofNat (val (o ++ [c])))) rfl rfl <| sNil rfl rfl
    refine pwp_ret ⟨_, (.tmp (d := (.sl 138 1 (List.map enc_u32 (ofNat (val (o ++ [c])))))) rfl .nil), ?_⟩
    rw [hp, hv]; rfl
theorem r_shifted (a : List Nat) (d : Nat) (hda : Dig a) (hd1 : d < 1000000000) (hla : a.length ≤ 8796093022208) : Takes Tryz.prog 144 [(.sl 138 1 (List.map enc_u32 a)), (.val (.int .u32 (((d : Nat) : Int))))] (.sl 138 1 (List.map enc_u32 (ofNat (d + 1000000000 * val a)))) := by
  refine fn_intro Tryz.func144 rfl cb144 rfl ?_
  show PWp _ _ _ _ ⟨[(0, (vl 138 1 enc_u32 a)), (1, (vwn d))], []⟩
  refine pwp_seq <| pwp_S (S' := [(0, (vl 138 1 enc_u32 a)), (1, (vwn d))]) (B' := []) ?_ ?_
  · exact sE' (e_asgnil 138 1 rfl) rfl <| sNil rfl rfl
  refine pwp_seq <| pwp_S (S' := [(4, (vl 138 1 enc_u32 (ofNat (val ([d] ++ a)))))]) (B' := []) ?_ ?_
  · exact sM (vwn d) rfl rfl <| sN (n_bso (pd := [(0, (.val (.int .u32 (((d : Nat) : Int)))))]) (es := List.map enc_u32 [d]) (cs := (bm enc_u32 [d])) 0 rfl el28 ze138 zo138 rfl rfl rfl rfl rfl rfl rfl rfl rfl) rfl rfl rfl rfl <| sM (vl 138 1 enc_u32 a) rfl rfl <| sApp1P enc_u32 [d] a (fun _ => rfl) rfl rfl rfl rfl el28 ze138 rfl by138 rfl rfl rfl rfl (by simp only [List.length_cons, List.length_nil, maxLen]; omega) (by first | omega | (simp only [List.length_cons, List.length_nil]; omega)) (by repeat first | exact clr_nil _ | refine clr_self ?_ | refine clr_map ?_ | refine clr_bx ?_ | refine clr_d ?_) <| sE' (e_cl (r_made false ([d] ++ a) (dig_append.2 ⟨dig_cons.2 ⟨hd1, dig_nil⟩, hda⟩) (by simp only [List.length_append, List.length_cons, List.length_nil]; omega)) rfl rfl rfl) rfl <| sE' (e_fld1 (cs := (Dat.cells (encI (mkI false (val ([d] ++ a)))))) (y := (vl 138 1 enc_u32 (ofNat (val ([d] ++ a))))) rfl rfl ft30_1 sh28 rfl rfl) rfl <| sM (vl 138 1 enc_u32 (ofNat (val ([d] ++ a)))) rfl rfl <| sNil rfl rfl
  refine pwp_ret ⟨_, (.tmp (d := (.sl 138 1 (List.map enc_u32 (ofNat (val ([d] ++ a)))))) rfl .nil), ?_⟩
  rfl
end Go.Proofs.YtadkkhdnccljcaaGreat
