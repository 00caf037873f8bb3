/-
  Functions walked: each takes its data to what is said. Printed by a program of ours.
-/
import Derived.Test.YtcdgmcfkhkikbaaGreatFraC
import Derived.Test.YtcdgmcfkhkikbaaGreatIv
namespace Go.Proofs.YtcdgmcfkhkikbaaGreat
open Go.Fid
set_option maxRecDepth 4000
set_option linter.unusedVariables false
set_option linter.unusedSimpArgs false
theorem cb10 : callB Tryz.prog 10 = true := by kernel_rfl
theorem cb11 : callB Tryz.prog 11 = true := by kernel_rfl
theorem cb25 : callB Tryz.prog 25 = true := by kernel_rfl
theorem cb26 : callB Tryz.prog 26 = true := by kernel_rfl
theorem cb35 : callB Tryz.prog 35 = true := by kernel_rfl
theorem cb37 : callB Tryz.prog 37 = true := by kernel_rfl
theorem cb38 : callB Tryz.prog 38 = true := by kernel_rfl
theorem cb63 : callB Tryz.prog 63 = true := by kernel_rfl
theorem cb64 : callB Tryz.prog 64 = true := by kernel_rfl
theorem cb66 : callB Tryz.prog 66 = true := by kernel_rfl
theorem cb67 : callB Tryz.prog 67 = true := by kernel_rfl
theorem cb81 : callB Tryz.prog 81 = true := by kernel_rfl
theorem cb84 : callB Tryz.prog 84 = true := by kernel_rfl
theorem cb95 : callB Tryz.prog 95 = true := by kernel_rfl
theorem cb103 : callB Tryz.prog 103 = true := by kernel_rfl
theorem el57 : elemB Tryz.prog 57 = some (28, 8) := by kernel_rfl
theorem el69 : elemB Tryz.prog 69 = some (26, 4) := by kernel_rfl
theorem pl28 : placesB Tryz.prog 28 = some [(0, 4), (4, 4)] := by kernel_rfl
theorem sh28 : shapeB Tryz.prog 28 = some (true, 8) := by kernel_rfl
theorem ze28 : zeroB Tryz.prog 28 = some [.bool false, .slice none 0 0, .bool false, .slice none 0 0, .bool false, .slice none 0 0, .bool false, .slice none 0 0] := by kernel_rfl
theorem zo28 : ZOk [.bool false, .slice none 0 0, .bool false, .slice none 0 0, .bool false, .slice none 0 0, .bool false, .slice none 0 0] [.val (.bool false), .sl 83 1 [], .val (.bool false), .sl 83 1 [], .val (.bool false), .sl 83 1 [], .val (.bool false), .sl 83 1 []] := by simp [ZOk, Value.oneCell']
theorem h_valid (a : RRng) (ha : GOk 4294967296 a) : Takes Tryz.prog 25 [(encG a)] (.val (.bool ((validG a)))) := by
  refine fn_intro Tryz.func25 rfl cb25 rfl ?_
  show PWp _ _ _ _ ⟨[(0, (.d (encG a)))], []⟩
  refine pwp_seq ?_
  refine pwp_S (S' := [(1, (.ref 0 0))]) (B' := [(0, some (bx (encG a)))]) ?_ ?_
  · skip
    exact sN (n_bx (d := (encG a)) (cs := (bx (encG a))) 0 rfl rfl rfl rfl) rfl rfl rfl rfl <| sM (vb false) rfl rfl <| sNil rfl rfl
  refine pwp_seq ?_
  refine pwp_S (S' := [(2, (vb (((validR a.lo) && (validR a.hi)) && decide ((cmpQ (toQ a.lo) (toQ a.hi)) ≤ 0))))]) (B' := []) ?_ ?_
  · skip
    refine sE' (e_fldr (q := 0) rfl rfl fo28_0 rfl) rfl <| sR (e_lda (cs := (bx (encG a))) (y := (.d (encR a.lo))) rfl rfl sh26 rfl rfl) rfl rfl rfl rfl <| sE' (e_cl (g_valid a.lo (toQ a.lo) (qok_up ha.1 (by decide))) rfl rfl rfl) rfl <| sM (vb (validR a.lo)) rfl rfl <| ?_
    rcases hb1 : (validR a.lo) with _ | _
    · skip
      exact sK rfl rfl rfl <| sK rfl rfl rfl <| sK rfl rfl rfl <| sE' (e_pkf (z := (vb false)) rfl rfl rfl) rfl <| sM (vb false) rfl rfl <| sK rfl rfl rfl <| sK rfl rfl rfl <| sK rfl rfl rfl <| sK rfl rfl rfl <| sK rfl rfl rfl <| sK rfl rfl rfl <| sE' (e_pkf (z := (vb false)) rfl rfl rfl) rfl <| sM (vb false) rfl rfl <| sNil rfl rfl
    · skip
      refine sE' (e_fldr (q := 4) rfl rfl fo28_1 rfl) rfl <| sR (e_lda (cs := (bx (encG a))) (y := (.d (encR a.hi))) rfl rfl sh26 rfl rfl) rfl rfl rfl rfl <| sE' (e_cl (g_valid a.hi (toQ a.hi) (qok_up ha.2 (by decide))) rfl rfl rfl) rfl <| sE' (e_pkta rfl rfl rfl) rfl <| sM (vb (true && (validR a.hi))) rfl rfl <| ?_
      rcases hb2 : (true && (validR a.hi)) with _ | _
      · skip
        exact sK rfl rfl rfl <| sK rfl rfl rfl <| sK rfl rfl rfl <| sK rfl rfl rfl <| sK rfl rfl rfl <| sK rfl rfl rfl <| sE' (e_pkf (z := (vb false)) rfl rfl rfl) rfl <| sM (vb false) rfl rfl <| sNil rfl rfl
      · skip
        exact sE' (e_fldr (q := 0) rfl rfl fo28_0 rfl) rfl <| sR (e_lda (cs := (bx (encG a))) (y := (.d (encR a.lo))) rfl rfl sh26 rfl rfl) rfl rfl rfl rfl <| sE' (e_fldr (q := 4) rfl rfl fo28_1 rfl) rfl <| sR (e_lda (cs := (bx (encG a))) (y := (.d (encR a.hi))) rfl rfl sh26 rfl rfl) rfl rfl rfl rfl <| sE' (e_cl (g_compare a.lo a.hi (toQ a.lo) (toQ a.hi) ha.1 ha.2) rfl rfl rfl) rfl <| sE' (e_leq rfl rfl rfl) rfl <| sE' (e_pkta rfl rfl rfl) rfl <| sM (vb (true && decide ((cmpQ (toQ a.lo) (toQ a.hi)) ≤ 0))) rfl rfl <| sNil rfl rfl
  refine pwp_ret ⟨_, (.tmp (d := (.val (.bool ((((validR a.lo) && (validR a.hi)) && decide ((cmpQ (toQ a.lo) (toQ a.hi)) ≤ 0)))))) rfl .nil), ?_⟩
  rw [validG_eq]; rfl
theorem i_valid (a : RRng) (ha : GOk 4294967296 a) : Takes Tryz.prog 26 [(encG a)] (.val (.bool ((validG a)))) := by
  refine fn_intro Tryz.func26 rfl cb26 rfl ?_
  show PWp _ _ _ _ ⟨[(0, (.d (encG a)))], []⟩
  refine pwp_seq ?_
  refine pwp_S (S' := [(1, (.ref 0 0))]) (B' := [(0, some (bx (encG a)))]) ?_ ?_
  · skip
    exact sN (n_bx (d := (encG a)) (cs := (bx (encG a))) 0 rfl rfl rfl rfl) rfl rfl rfl rfl <| sM (vb false) rfl rfl <| sNil rfl rfl
  refine pwp_seq ?_
  refine pwp_S (S' := [(2, (vb (((validR a.lo) && (validR a.hi)) && decide ((cmpQ (toQ a.lo) (toQ a.hi)) ≤ 0))))]) (B' := []) ?_ ?_
  · skip
    refine sE' (e_fldr (q := 0) rfl rfl fo28_0 rfl) rfl <| sR (e_lda (cs := (bx (encG a))) (y := (.d (encR a.lo))) rfl rfl sh26 rfl rfl) rfl rfl rfl rfl <| sE' (e_cl (f_valid a.lo (toQ a.lo) (qok_up ha.1 (by decide))) rfl rfl rfl) rfl <| sM (vb (validR a.lo)) rfl rfl <| ?_
    rcases hb1 : (validR a.lo) with _ | _
    · skip
      exact sK rfl rfl rfl <| sK rfl rfl rfl <| sK rfl rfl rfl <| sE' (e_pkf (z := (vb false)) rfl rfl rfl) rfl <| sM (vb false) rfl rfl <| sK rfl rfl rfl <| sK rfl rfl rfl <| sK rfl rfl rfl <| sK rfl rfl rfl <| sK rfl rfl rfl <| sK rfl rfl rfl <| sE' (e_pkf (z := (vb false)) rfl rfl rfl) rfl <| sM (vb false) rfl rfl <| sNil rfl rfl
    · skip
      refine sE' (e_fldr (q := 4) rfl rfl fo28_1 rfl) rfl <| sR (e_lda (cs := (bx (encG a))) (y := (.d (encR a.hi))) rfl rfl sh26 rfl rfl) rfl rfl rfl rfl <| sE' (e_cl (f_valid a.hi (toQ a.hi) (qok_up ha.2 (by decide))) rfl rfl rfl) rfl <| sE' (e_pkta rfl rfl rfl) rfl <| sM (vb (true && (validR a.hi))) rfl rfl <| ?_
      rcases hb2 : (true && (validR a.hi)) with _ | _
      · skip
        exact sK rfl rfl rfl <| sK rfl rfl rfl <| sK rfl rfl rfl <| sK rfl rfl rfl <| sK rfl rfl rfl <| sK rfl rfl rfl <| sE' (e_pkf (z := (vb false)) rfl rfl rfl) rfl <| sM (vb false) rfl rfl <| sNil rfl rfl
      · skip
        exact sE' (e_fldr (q := 0) rfl rfl fo28_0 rfl) rfl <| sR (e_lda (cs := (bx (encG a))) (y := (.d (encR a.lo))) rfl rfl sh26 rfl rfl) rfl rfl rfl rfl <| sE' (e_fldr (q := 4) rfl rfl fo28_1 rfl) rfl <| sR (e_lda (cs := (bx (encG a))) (y := (.d (encR a.hi))) rfl rfl sh26 rfl rfl) rfl rfl rfl rfl <| sE' (e_cl (f_compare a.lo a.hi (toQ a.lo) (toQ a.hi) (qok_up ha.1 (by decide)) (qok_up ha.2 (by decide))) rfl rfl rfl) rfl <| sE' (e_leq rfl rfl rfl) rfl <| sE' (e_pkta rfl rfl rfl) rfl <| sM (vb (true && decide ((cmpQ (toQ a.lo) (toQ a.hi)) ≤ 0))) rfl rfl <| sNil rfl rfl
  refine pwp_ret ⟨_, (.tmp (d := (.val (.bool ((((validR a.lo) && (validR a.hi)) && decide ((cmpQ (toQ a.lo) (toQ a.hi)) ≤ 0)))))) rfl .nil), ?_⟩
  rw [validG_eq]; rfl
theorem i_valids (l : List RRng) (hl : ∀ a ∈ l, GOk 4294967296 a) (hb : l.length ≤ 1000000) : Takes Tryz.prog 66 [(.sl 28 8 (List.map encG l))] (.val (.bool ((l.all validG)))) := by
  refine fn_intro Tryz.func66 rfl cb66 rfl ?_
  show PWp _ _ _ _ ⟨[(0, (vl 28 8 encG l))], []⟩
  refine pwp_seq ?_
  refine pwp_S (S' := [(0, (vl 28 8 encG l))]) (B' := []) ?_ ?_
  · skip
    exact sM (vb false) rfl rfl <| sNil rfl rfl
  refine pwp_seq ?_
  refine pwp_seq ?_
  refine pwp_S (S' := [(5, (vl 28 8 encG l)), (6, (vin l.length)), (7, (vin 0))]) (B' := []) ?_ ?_
  · skip
    exact sM (vl 28 8 encG l) rfl rfl <| sE' (e_ln (r := ((l.length : Nat) : Int)) rfl el57 rfl (by simp)) rfl <| sM (vin 0) rfl rfl <| sNil rfl rfl
  refine pwp_block ?_
  refine pwp_loop (α := Nat) (fun i => ⟨[(5, (vl 28 8 encG l)), (6, (vin l.length)), (7, (vin i))], []⟩) (fun i => i ≤ l.length ∧ (l.take i).all validG = true) (fun i => l.length - i) 0 (weak rfl rfl) ⟨Nat.zero_le _, by simp⟩ ?_
  rintro i ⟨hi, hv⟩
  refine pwp_seq ?_
  refine pwp_S (S' := [(5, (vl 28 8 encG l)), (6, (vin l.length)), (7, (vin i)), (8, (vb (decide (((i : Nat) : Int) < ((l.length : Nat) : Int)))))]) (B' := []) ?_ ?_
  · skip
    exact sE' (e_lss rfl rfl rfl) rfl <| sNil rfl rfl
  refine pwp_seq ?_
  refine pwp_cond (b := decide (((i : Nat) : Int) < ((l.length : Nat) : Int))) rfl (fun h1 => ?_) (fun h1 => ?_)
  · skip
    replace h1 := of_decide_eq_true h1
    refine pwp_skip ?_
    refine pwp_seq ?_
    refine pwp_block ?_
    refine pwp_seq ?_
    refine pwp_S (S' := [(4, (.ref 0 0)), (5, (vl 28 8 encG l)), (6, (vin l.length)), (7, (vin i))]) (B' := [(0, some (bx (encG (l.getD i (RRng.mk (RRat.mk (RInt.mk false []) (RInt.mk false [])) (RRat.mk (RInt.mk false []) (RInt.mk false [])))))))]) ?_ ?_
    · skip
      exact sE' (e_ixs (j := i) (cs := (Dat.cells (encG (l.getD i (RRng.mk (RRat.mk (RInt.mk false []) (RInt.mk false [])) (RRat.mk (RInt.mk false []) (RInt.mk false []))))))) rfl el57 rfl rfl (by omega) (ixm _ _ _ _ (by omega))) rfl <| sE' (e_lca (cs := (Dat.cells (encG (l.getD i (RRng.mk (RRat.mk (RInt.mk false []) (RInt.mk false [])) (RRat.mk (RInt.mk false []) (RInt.mk false []))))))) (y := (.d (encG (l.getD i (RRng.mk (RRat.mk (RInt.mk false []) (RInt.mk false [])) (RRat.mk (RInt.mk false []) (RInt.mk false []))))))) rfl rfl sh28 rfl rfl) rfl <| sN (n_al (cs := (bx (encG (RRng.mk (RRat.mk (RInt.mk false []) (RInt.mk false [])) (RRat.mk (RInt.mk false []) (RInt.mk false [])))))) 0 rfl ze28 zo28 rfl) rfl rfl rfl rfl <| sT (t_std (d := (encG (l.getD i (RRng.mk (RRat.mk (RInt.mk false []) (RInt.mk false [])) (RRat.mk (RInt.mk false []) (RInt.mk false [])))))) (cs := (bx (encG (l.getD i (RRng.mk (RRat.mk (RInt.mk false []) (RInt.mk false [])) (RRat.mk (RInt.mk false []) (RInt.mk false []))))))) rfl rfl rfl sh28 rfl rfl rfl rfl) rfl rfl rfl <| sNil rfl rfl
    refine pwp_seq ?_
    refine pwp_S (S' := [(5, (vl 28 8 encG l)), (6, (vin l.length)), (7, (vin i)), (13, (vb (!(validG (l.getD i (RRng.mk (RRat.mk (RInt.mk false []) (RInt.mk false [])) (RRat.mk (RInt.mk false []) (RInt.mk false []))))))))]) (B' := []) ?_ ?_
    · skip
      exact sR (e_lda (cs := (bx (encG (l.getD i (RRng.mk (RRat.mk (RInt.mk false []) (RInt.mk false [])) (RRat.mk (RInt.mk false []) (RInt.mk false []))))))) (y := (.d (encG (l.getD i (RRng.mk (RRat.mk (RInt.mk false []) (RInt.mk false [])) (RRat.mk (RInt.mk false []) (RInt.mk false []))))))) rfl rfl sh28 rfl rfl) rfl rfl rfl rfl <| sE' (e_cl (i_valid (l.getD i (RRng.mk (RRat.mk (RInt.mk false []) (RInt.mk false [])) (RRat.mk (RInt.mk false []) (RInt.mk false [])))) (gok_get hl (show i < l.length by omega))) rfl rfl rfl) rfl <| sE' (e_not rfl rfl) rfl <| sNil rfl rfl
    refine pwp_cond (b := !(validG (l.getD i (RRng.mk (RRat.mk (RInt.mk false []) (RInt.mk false [])) (RRat.mk (RInt.mk false []) (RInt.mk false [])))))) rfl (fun h2 => ?_) (fun h2 => ?_)
    · skip
      refine pwp_seq ?_
      refine pwp_S (S' := [(2, (vb false))]) (B' := []) ?_ ?_
      · skip
        exact sM (vb false) rfl rfl <| sNil rfl rfl
      refine pwp_ret ⟨_, (.tmp (d := (.val (.bool (false)))) rfl .nil), ?_⟩
      rw [all_not (f := validG) (l := l) (i := i) (d := (RRng.mk (RRat.mk (RInt.mk false []) (RInt.mk false [])) (RRat.mk (RInt.mk false []) (RInt.mk false [])))) (by omega) (by simpa using h2)]; rfl
    · skip
      refine pwp_skip ?_
      refine pwp_S (S' := [(5, (vl 28 8 encG l)), (6, (vin l.length)), (7, (vin (i + 1)))]) (B' := []) ?_ ?_
      · skip
        exact sE' (e_add (r := (((i + 1) : Nat) : Int)) rfl rfl rfl (wi64 (by omega) (by omega) (by omega))) rfl <| sM (vin (i + 1)) rfl rfl <| sNil rfl rfl
      exact ⟨(i + 1), (weak rfl rfl), ⟨by omega, all_take (d := (RRng.mk (RRat.mk (RInt.mk false []) (RInt.mk false [])) (RRat.mk (RInt.mk false []) (RInt.mk false [])))) (by omega) hv (by simpa using h2)⟩, (by first | omega | (dsimp only; omega))⟩
  · skip
    replace h1 := of_decide_eq_false h1
    have hie : i = l.length := by omega
    rw [hie, List.take_length] at hv
    refine pwp_exit ?_
    refine pwp_seq ?_
    refine pwp_S (S' := [(2, (vb true))]) (B' := []) ?_ ?_
    · skip
      exact sM (vb true) rfl rfl <| sNil rfl rfl
    refine pwp_ret ⟨_, (.tmp (d := (.val (.bool (true)))) rfl .nil), ?_⟩
    rw [hv]; rfl
theorem l_short (l : List RRng) (hl : ∀ a ∈ l, GOk 140737488355328 a) (hb : l.length ≤ 1000000) : Takes Tryz.prog 11 [(.sl 28 8 (List.map encG l))] (.val (.bool ((l.all shortG)))) := by
  refine fn_intro Tryz.func11 rfl cb11 rfl ?_
  show PWp _ _ _ _ ⟨[(0, (vl 28 8 encG l))], []⟩
  refine pwp_seq ?_
  refine pwp_S (S' := [(0, (vl 28 8 encG l))]) (B' := []) ?_ ?_
  · skip
    exact sM (vb false) rfl rfl <| sNil rfl rfl
  refine pwp_seq ?_
  refine pwp_seq ?_
  refine pwp_S (S' := [(5, (vl 28 8 encG l)), (6, (vin l.length)), (7, (vin 0))]) (B' := []) ?_ ?_
  · skip
    exact sM (vl 28 8 encG l) rfl rfl <| sE' (e_ln (r := ((l.length : Nat) : Int)) rfl el57 rfl (by simp)) rfl <| sM (vin 0) rfl rfl <| sNil rfl rfl
  refine pwp_block ?_
  refine pwp_loop (α := Nat) (fun i => ⟨[(5, (vl 28 8 encG l)), (6, (vin l.length)), (7, (vin i))], []⟩) (fun i => i ≤ l.length ∧ (l.take i).all shortG = true) (fun i => l.length - i) 0 (weak rfl rfl) ⟨Nat.zero_le _, by simp⟩ ?_
  rintro i ⟨hi, hv⟩
  refine pwp_seq ?_
  refine pwp_S (S' := [(5, (vl 28 8 encG l)), (6, (vin l.length)), (7, (vin i)), (8, (vb (decide (((i : Nat) : Int) < ((l.length : Nat) : Int)))))]) (B' := []) ?_ ?_
  · skip
    exact sE' (e_lss rfl rfl rfl) rfl <| sNil rfl rfl
  refine pwp_seq ?_
  refine pwp_cond (b := decide (((i : Nat) : Int) < ((l.length : Nat) : Int))) rfl (fun h1 => ?_) (fun h1 => ?_)
  · skip
    replace h1 := of_decide_eq_true h1
    refine pwp_skip ?_
    refine pwp_seq ?_
    refine pwp_block ?_
    refine pwp_seq ?_
    refine pwp_S (S' := [(4, (.ref 0 0)), (5, (vl 28 8 encG l)), (6, (vin l.length)), (7, (vin i))]) (B' := [(0, some (bx (encG (l.getD i (RRng.mk (RRat.mk (RInt.mk false []) (RInt.mk false [])) (RRat.mk (RInt.mk false []) (RInt.mk false [])))))))]) ?_ ?_
    · skip
      exact sE' (e_ixs (j := i) (cs := (Dat.cells (encG (l.getD i (RRng.mk (RRat.mk (RInt.mk false []) (RInt.mk false [])) (RRat.mk (RInt.mk false []) (RInt.mk false []))))))) rfl el57 rfl rfl (by omega) (ixm _ _ _ _ (by omega))) rfl <| sE' (e_lca (cs := (Dat.cells (encG (l.getD i (RRng.mk (RRat.mk (RInt.mk false []) (RInt.mk false [])) (RRat.mk (RInt.mk false []) (RInt.mk false []))))))) (y := (.d (encG (l.getD i (RRng.mk (RRat.mk (RInt.mk false []) (RInt.mk false [])) (RRat.mk (RInt.mk false []) (RInt.mk false []))))))) rfl rfl sh28 rfl rfl) rfl <| sN (n_al (cs := (bx (encG (RRng.mk (RRat.mk (RInt.mk false []) (RInt.mk false [])) (RRat.mk (RInt.mk false []) (RInt.mk false [])))))) 0 rfl ze28 zo28 rfl) rfl rfl rfl rfl <| sT (t_std (d := (encG (l.getD i (RRng.mk (RRat.mk (RInt.mk false []) (RInt.mk false [])) (RRat.mk (RInt.mk false []) (RInt.mk false [])))))) (cs := (bx (encG (l.getD i (RRng.mk (RRat.mk (RInt.mk false []) (RInt.mk false [])) (RRat.mk (RInt.mk false []) (RInt.mk false []))))))) rfl rfl rfl sh28 rfl rfl rfl rfl) rfl rfl rfl <| sNil rfl rfl
    refine pwp_seq ?_
    refine pwp_S (S' := [(5, (vl 28 8 encG l)), (6, (vin l.length)), (7, (vin i)), (20, (vb (decide (16 < (((digR ((l.getD i (RRng.mk (RRat.mk (RInt.mk false []) (RInt.mk false [])) (RRat.mk (RInt.mk false []) (RInt.mk false [])))).lo)) : Nat) : Int)) || decide (16 < (((digR ((l.getD i (RRng.mk (RRat.mk (RInt.mk false []) (RInt.mk false [])) (RRat.mk (RInt.mk false []) (RInt.mk false [])))).hi)) : Nat) : Int)))))]) (B' := []) ?_ ?_
    · skip
      refine sE' (e_fldr (q := 0) rfl rfl fo28_0 rfl) rfl <| sR (e_lda (cs := (bx (encG (l.getD i (RRng.mk (RRat.mk (RInt.mk false []) (RInt.mk false [])) (RRat.mk (RInt.mk false []) (RInt.mk false []))))))) (y := (.d (encR ((l.getD i (RRng.mk (RRat.mk (RInt.mk false []) (RInt.mk false [])) (RRat.mk (RInt.mk false []) (RInt.mk false [])))).lo)))) rfl rfl sh26 rfl rfl) rfl rfl rfl rfl <| sE' (e_cl (g_digits ((l.getD i (RRng.mk (RRat.mk (RInt.mk false []) (RInt.mk false [])) (RRat.mk (RInt.mk false []) (RInt.mk false [])))).lo) (toQ (l.getD i (RRng.mk (RRat.mk (RInt.mk false []) (RInt.mk false [])) (RRat.mk (RInt.mk false []) (RInt.mk false [])))).lo) (gok_get hl (show i < l.length by omega)).1) rfl rfl rfl) rfl <| sE' (e_gtr rfl rfl rfl) rfl <| sM (vb (decide (16 < (((digR ((l.getD i (RRng.mk (RRat.mk (RInt.mk false []) (RInt.mk false [])) (RRat.mk (RInt.mk false []) (RInt.mk false [])))).lo)) : Nat) : Int)))) rfl rfl <| ?_
      rcases hb2 : (decide (16 < (((digR ((l.getD i (RRng.mk (RRat.mk (RInt.mk false []) (RInt.mk false [])) (RRat.mk (RInt.mk false []) (RInt.mk false [])))).lo)) : Nat) : Int))) with _ | _
      · skip
        replace hb2 := of_decide_eq_false hb2
        exact sE' (e_fldr (q := 4) rfl rfl fo28_1 rfl) rfl <| sR (e_lda (cs := (bx (encG (l.getD i (RRng.mk (RRat.mk (RInt.mk false []) (RInt.mk false [])) (RRat.mk (RInt.mk false []) (RInt.mk false []))))))) (y := (.d (encR ((l.getD i (RRng.mk (RRat.mk (RInt.mk false []) (RInt.mk false [])) (RRat.mk (RInt.mk false []) (RInt.mk false [])))).hi)))) rfl rfl sh26 rfl rfl) rfl rfl rfl rfl <| sE' (e_cl (g_digits ((l.getD i (RRng.mk (RRat.mk (RInt.mk false []) (RInt.mk false [])) (RRat.mk (RInt.mk false []) (RInt.mk false [])))).hi) (toQ (l.getD i (RRng.mk (RRat.mk (RInt.mk false []) (RInt.mk false [])) (RRat.mk (RInt.mk false []) (RInt.mk false [])))).hi) (gok_get hl (show i < l.length by omega)).2) rfl rfl rfl) rfl <| sE' (e_gtr rfl rfl rfl) rfl <| sE' (e_pkfo rfl rfl rfl) rfl <| sNil rfl rfl
      · skip
        replace hb2 := of_decide_eq_true hb2
        exact sK rfl rfl rfl <| sK rfl rfl rfl <| sK rfl rfl rfl <| sK rfl rfl rfl <| sE' (e_pkt (z := (vb true)) rfl rfl rfl) rfl <| sNil rfl rfl
    refine pwp_cond (b := (decide (16 < (((digR ((l.getD i (RRng.mk (RRat.mk (RInt.mk false []) (RInt.mk false [])) (RRat.mk (RInt.mk false []) (RInt.mk false [])))).lo)) : Nat) : Int)) || decide (16 < (((digR ((l.getD i (RRng.mk (RRat.mk (RInt.mk false []) (RInt.mk false [])) (RRat.mk (RInt.mk false []) (RInt.mk false [])))).hi)) : Nat) : Int)))) rfl (fun h3 => ?_) (fun h3 => ?_)
    · skip
      refine pwp_seq ?_
      refine pwp_S (S' := [(2, (vb false))]) (B' := []) ?_ ?_
      · skip
        exact sM (vb false) rfl rfl <| sNil rfl rfl
      refine pwp_ret ⟨_, (.tmp (d := (.val (.bool (false)))) rfl .nil), ?_⟩
      rw [all_not (f := shortG) (l := l) (i := i) (d := (RRng.mk (RRat.mk (RInt.mk false []) (RInt.mk false [])) (RRat.mk (RInt.mk false []) (RInt.mk false [])))) (by omega) (by unfold shortG; rw [Bool.or_eq_true, decide_eq_true_eq, decide_eq_true_eq] at h3; rw [Bool.and_eq_false_iff, decide_eq_false_iff_not, decide_eq_false_iff_not]; omega)]; rfl
    · skip
      refine pwp_skip ?_
      refine pwp_S (S' := [(5, (vl 28 8 encG l)), (6, (vin l.length)), (7, (vin (i + 1)))]) (B' := []) ?_ ?_
      · skip
        exact sE' (e_add (r := (((i + 1) : Nat) : Int)) rfl rfl rfl (wi64 (by omega) (by omega) (by omega))) rfl <| sM (vin (i + 1)) rfl rfl <| sNil rfl rfl
      exact ⟨(i + 1), (weak rfl rfl), ⟨by omega, all_take (d := (RRng.mk (RRat.mk (RInt.mk false []) (RInt.mk false [])) (RRat.mk (RInt.mk false []) (RInt.mk false [])))) (by omega) hv (by unfold shortG; rw [Bool.or_eq_false_iff, decide_eq_false_iff_not, decide_eq_false_iff_not] at h3; rw [Bool.and_eq_true, decide_eq_true_eq, decide_eq_true_eq]; omega)⟩, (by first | omega | (dsimp only; omega))⟩
  · skip
    replace h1 := of_decide_eq_false h1
    have hie : i = l.length := by omega
    rw [hie, List.take_length] at hv
    refine pwp_exit ?_
    refine pwp_seq ?_
    refine pwp_S (S' := [(2, (vb true))]) (B' := []) ?_ ?_
    · skip
      exact sM (vb true) rfl rfl <| sNil rfl rfl
    refine pwp_ret ⟨_, (.tmp (d := (.val (.bool (true)))) rfl .nil), ?_⟩
    rw [hv]; rfl
theorem i_zero (p q : Rat) (hp : QL p 1073741824) (hq : QL q 1073741824) : Takes Tryz.prog 84 [(encG (RRng.mk (ofQ p) (ofQ q)))] (.val (.bool ((zeroG p q)))) := by
  refine fn_intro Tryz.func84 rfl cb84 rfl ?_
  show PWp _ _ _ _ ⟨[(0, (.d (encG (RRng.mk (ofQ p) (ofQ q)))))], []⟩
  refine pwp_seq ?_
  refine pwp_S (S' := [(1, (.ref 0 0))]) (B' := [(0, some (bx (encG (RRng.mk (ofQ p) (ofQ q)))))]) ?_ ?_
  · skip
    exact sN (n_bx (d := (encG (RRng.mk (ofQ p) (ofQ q)))) (cs := (bx (encG (RRng.mk (ofQ p) (ofQ q))))) 0 rfl rfl rfl rfl) rfl rfl rfl rfl <| sM (vb false) rfl rfl <| sNil rfl rfl
  refine pwp_seq ?_
  refine pwp_S (S' := [(2, (vb (decide ((signQ p) ≤ 0) && decide (0 ≤ (signQ q)))))]) (B' := []) ?_ ?_
  · skip
    refine sE' (e_fldr (q := 0) rfl rfl fo28_0 rfl) rfl <| sR (e_lda (cs := (bx (encG (RRng.mk (ofQ p) (ofQ q))))) (y := (.d (encR (ofQ p)))) rfl rfl sh26 rfl rfl) rfl rfl rfl rfl <| sE' (e_cl (f_sign (ofQ p) p (qok_up (qok_of hp) (by decide))) rfl rfl rfl) rfl <| sE' (e_leq rfl rfl rfl) rfl <| sM (vb (decide ((signQ p) ≤ 0))) rfl rfl <| ?_
    rcases hb1 : (decide ((signQ p) ≤ 0)) with _ | _
    · skip
      replace hb1 := of_decide_eq_false hb1
      exact sK rfl rfl rfl <| sK rfl rfl rfl <| sK rfl rfl rfl <| sK rfl rfl rfl <| sE' (e_pkf (z := (vb false)) rfl rfl rfl) rfl <| sM (vb false) rfl rfl <| sNil rfl rfl
    · skip
      replace hb1 := of_decide_eq_true hb1
      exact sE' (e_fldr (q := 4) rfl rfl fo28_1 rfl) rfl <| sR (e_lda (cs := (bx (encG (RRng.mk (ofQ p) (ofQ q))))) (y := (.d (encR (ofQ q)))) rfl rfl sh26 rfl rfl) rfl rfl rfl rfl <| sE' (e_cl (f_sign (ofQ q) q (qok_up (qok_of hq) (by decide))) rfl rfl rfl) rfl <| sE' (e_geq rfl rfl rfl) rfl <| sE' (e_pkta rfl rfl rfl) rfl <| sM (vb (true && decide (0 ≤ (signQ q)))) rfl rfl <| sNil rfl rfl
  refine pwp_ret ⟨_, (.tmp (d := (.val (.bool ((decide ((signQ p) ≤ 0) && decide (0 ≤ (signQ q))))))) rfl .nil), ?_⟩
  rw [zeroG_eq]; rfl
theorem i_spanned (p : Rat) (qs : List Rat) (hp : QL p 17179869184) (hqs : ∀ q ∈ qs, QL q 17179869184) (hb : qs.length ≤ 1000000) : Takes Tryz.prog 67 [(encR (ofQ p)), (.sl 26 4 (List.map encR (List.map ofQ qs)))] (encG (RRng.mk (ofQ (mnL p qs)) (ofQ (mxL p qs)))) := by
  refine fn_intro Tryz.func67 rfl cb67 rfl ?_
  show PWp _ _ _ _ ⟨[(0, (.d (encR (ofQ p)))), (1, (vl 26 4 encR (List.map ofQ qs)))], []⟩
  refine pwp_seq ?_
  refine pwp_S (S' := [(1, (vl 26 4 encR (List.map ofQ qs))), (2, (.ref 0 0)), (4, (.ref 1 0))]) (B' := [(0, some (bx (encR (ofQ p)))), (1, some (bx (encG (RRng.mk (RRat.mk (RInt.mk false []) (RInt.mk false [])) (RRat.mk (RInt.mk false []) (RInt.mk false []))))))]) ?_ ?_
  · skip
    exact sN (n_bx (d := (encR (ofQ p))) (cs := (bx (encR (ofQ p)))) 0 rfl rfl rfl rfl) rfl rfl rfl rfl <| sN (n_al (cs := (bx (encG (RRng.mk (RRat.mk (RInt.mk false []) (RInt.mk false [])) (RRat.mk (RInt.mk false []) (RInt.mk false [])))))) 1 rfl ze28 zo28 rfl) rfl rfl rfl rfl <| sNil rfl rfl
  refine pwp_seq ?_
  refine pwp_S (S' := [(1, (vl 26 4 encR (List.map ofQ qs))), (4, (.ref 1 0)), (5, (.ref 2 0))]) (B' := [(1, some (bx (encG (RRng.mk (RRat.mk (RInt.mk false []) (RInt.mk false [])) (RRat.mk (RInt.mk false []) (RInt.mk false [])))))), (2, some (bx (encG (RRng.mk (ofQ p) (ofQ p)))))]) ?_ ?_
  · skip
    exact sR (e_lda (cs := (bx (encR (ofQ p)))) (y := (.d (encR (ofQ p)))) rfl rfl sh26 rfl rfl) rfl rfl rfl rfl <| sR (e_lda (cs := (bx (encR (ofQ p)))) (y := (.d (encR (ofQ p)))) rfl rfl sh26 rfl rfl) rfl rfl rfl rfl <| sE' (e_bld (pd := [(0, (encR (ofQ p))), (1, (encR (ofQ p)))]) (y := (encG (RRng.mk (ofQ p) (ofQ p)))) rfl pl28 ze28 zo28 rfl rfl rfl rfl) rfl <| sN (n_al (cs := (bx (encG (RRng.mk (RRat.mk (RInt.mk false []) (RInt.mk false [])) (RRat.mk (RInt.mk false []) (RInt.mk false [])))))) 2 rfl ze28 zo28 rfl) rfl rfl rfl rfl <| sT (t_std (d := (encG (RRng.mk (ofQ p) (ofQ p)))) (cs := (bx (encG (RRng.mk (ofQ p) (ofQ p))))) rfl rfl rfl sh28 rfl rfl rfl rfl) rfl rfl rfl <| sNil rfl rfl
  refine pwp_seq ?_
  refine pwp_seq ?_
  refine pwp_S (S' := [(4, (.ref 1 0)), (5, (.ref 2 0)), (11, (vl 26 4 encR (List.map ofQ qs))), (12, (vin qs.length)), (13, (vin 0))]) (B' := [(1, some (bx (encG (RRng.mk (RRat.mk (RInt.mk false []) (RInt.mk false [])) (RRat.mk (RInt.mk false []) (RInt.mk false [])))))), (2, some (bx (encG (RRng.mk (ofQ p) (ofQ p)))))]) ?_ ?_
  · skip
    exact sM (vl 26 4 encR (List.map ofQ qs)) rfl rfl <| sE' (e_ln (r := ((qs.length : Nat) : Int)) rfl el69 rfl (by simp)) rfl <| sM (vin 0) rfl rfl <| sNil rfl rfl
  refine pwp_block ?_
  refine pwp_loop (α := Nat × Rat × Rat) (fun (i, lo, hi) => ⟨[(4, (.ref 1 0)), (5, (.ref 2 0)), (11, (vl 26 4 encR (List.map ofQ qs))), (12, (vin qs.length)), (13, (vin i))], [(1, some (bx (encG (RRng.mk (RRat.mk (RInt.mk false []) (RInt.mk false [])) (RRat.mk (RInt.mk false []) (RInt.mk false [])))))), (2, some (bx (encG (RRng.mk (ofQ lo) (ofQ hi)))))]⟩) (fun (i, lo, hi) => i ≤ qs.length ∧ lo = mnL p (qs.take i) ∧ hi = mxL p (qs.take i)) (fun (i, lo, hi) => qs.length - i) (0, p, p) (weak rfl rfl) ⟨Nat.zero_le _, rfl, rfl⟩ ?_
  rintro ⟨i, lo, hi⟩ ⟨hi1, hl, hh⟩
  have htk : ∀ q ∈ qs.take i, QL q 17179869184 := fun q hq => hqs q (List.mem_of_mem_take hq)
  have hlo : QL lo 17179869184 := by rw [hl]; exact ql_mnL hp htk
  have hhi : QL hi 17179869184 := by rw [hh]; exact ql_mxL hp htk
  refine pwp_seq ?_
  refine pwp_S (S' := [(4, (.ref 1 0)), (5, (.ref 2 0)), (11, (vl 26 4 encR (List.map ofQ qs))), (12, (vin qs.length)), (13, (vin i)), (14, (vb (decide (((i : Nat) : Int) < ((qs.length : Nat) : Int)))))]) (B' := [(1, some (bx (encG (RRng.mk (RRat.mk (RInt.mk false []) (RInt.mk false [])) (RRat.mk (RInt.mk false []) (RInt.mk false [])))))), (2, some (bx (encG (RRng.mk (ofQ lo) (ofQ hi)))))]) ?_ ?_
  · skip
    exact sE' (e_lss rfl rfl rfl) rfl <| sNil rfl rfl
  refine pwp_seq ?_
  refine pwp_cond (b := decide (((i : Nat) : Int) < ((qs.length : Nat) : Int))) rfl (fun h1 => ?_) (fun h1 => ?_)
  · skip
    replace h1 := of_decide_eq_true h1
    refine pwp_skip ?_
    refine pwp_seq ?_
    refine pwp_block ?_
    refine pwp_seq ?_
    refine pwp_S (S' := [(4, (.ref 1 0)), (5, (.ref 2 0)), (7, (.ref 3 0)), (11, (vl 26 4 encR (List.map ofQ qs))), (12, (vin qs.length)), (13, (vin i))]) (B' := [(1, some (bx (encG (RRng.mk (RRat.mk (RInt.mk false []) (RInt.mk false [])) (RRat.mk (RInt.mk false []) (RInt.mk false [])))))), (2, some (bx (encG (RRng.mk (ofQ lo) (ofQ hi))))), (3, some (bx (encR (ofQ (qs.getD i 0)))))]) ?_ ?_
    · skip
      exact sE' (e_ixs (j := i) (cs := (Dat.cells (encR (ofQ (qs.getD i 0))))) rfl el69 rfl rfl (by omega) (ixmap _ ofQ _ _ 0 (by omega))) rfl <| sE' (e_lca (cs := (Dat.cells (encR (ofQ (qs.getD i 0))))) (y := (.d (encR (ofQ (qs.getD i 0))))) rfl rfl sh26 rfl rfl) rfl <| sN (n_al (cs := (bx (encR (RRat.mk (RInt.mk false []) (RInt.mk false []))))) 3 rfl ze26 zo26 rfl) rfl rfl rfl rfl <| sT (t_std (d := (encR (ofQ (qs.getD i 0)))) (cs := (bx (encR (ofQ (qs.getD i 0))))) rfl rfl rfl sh26 rfl rfl rfl rfl) rfl rfl rfl <| sNil rfl rfl
    refine pwp_seq ?_
    refine pwp_seq ?_
    refine pwp_S (S' := [(4, (.ref 1 0)), (5, (.ref 2 0)), (7, (.ref 3 0)), (11, (vl 26 4 encR (List.map ofQ qs))), (12, (vin qs.length)), (13, (vin i)), (21, (vb (decide ((cmpQ (qs.getD i 0) lo) < 0))))]) (B' := [(1, some (bx (encG (RRng.mk (RRat.mk (RInt.mk false []) (RInt.mk false [])) (RRat.mk (RInt.mk false []) (RInt.mk false [])))))), (2, some (bx (encG (RRng.mk (ofQ lo) (ofQ hi))))), (3, some (bx (encR (ofQ (qs.getD i 0)))))]) ?_ ?_
    · skip
      exact sR (e_lda (cs := (bx (encR (ofQ (qs.getD i 0))))) (y := (.d (encR (ofQ (qs.getD i 0))))) rfl rfl sh26 rfl rfl) rfl rfl rfl rfl <| sE' (e_fldr (q := 0) rfl rfl fo28_0 rfl) rfl <| sR (e_lda (cs := (bx (encG (RRng.mk (ofQ lo) (ofQ hi))))) (y := (.d (encR (ofQ lo)))) rfl rfl sh26 rfl rfl) rfl rfl rfl rfl <| sE' (e_cl (f_compare (ofQ (qs.getD i 0)) (ofQ lo) (qs.getD i 0) lo (qok_of (ql_getD hqs (by decide) i)) (qok_of hlo)) rfl rfl rfl) rfl <| sE' (e_lss rfl rfl rfl) rfl <| sNil rfl rfl
    refine pwp_cond (b := decide ((cmpQ (qs.getD i 0) lo) < 0)) rfl (fun h2 => ?_) (fun h2 => ?_)
    · skip
      replace h2 := of_decide_eq_true h2
      have hc1 := h2
      refine pwp_S (S' := [(4, (.ref 1 0)), (5, (.ref 2 0)), (7, (.ref 3 0)), (11, (vl 26 4 encR (List.map ofQ qs))), (12, (vin qs.length)), (13, (vin i))]) (B' := [(1, some (bx (encG (RRng.mk (RRat.mk (RInt.mk false []) (RInt.mk false [])) (RRat.mk (RInt.mk false []) (RInt.mk false [])))))), (2, some (bx (encG (RRng.mk (ofQ (qs.getD i 0)) (ofQ hi))))), (3, some (bx (encR (ofQ (qs.getD i 0)))))]) ?_ ?_
      · skip
        exact sR (e_lda (cs := (bx (encR (ofQ (qs.getD i 0))))) (y := (.d (encR (ofQ (qs.getD i 0))))) rfl rfl sh26 rfl rfl) rfl rfl rfl rfl <| sE' (e_fldr (q := 0) rfl rfl fo28_0 rfl) rfl <| sT (t_std (d := (encR (ofQ (qs.getD i 0)))) (cs := (bx (encG (RRng.mk (ofQ (qs.getD i 0)) (ofQ hi))))) rfl rfl rfl sh26 rfl rfl rfl rfl) rfl rfl rfl <| sNil rfl rfl
      refine pwp_seq ?_
      refine pwp_S (S' := [(4, (.ref 1 0)), (5, (.ref 2 0)), (7, (.ref 3 0)), (11, (vl 26 4 encR (List.map ofQ qs))), (12, (vin qs.length)), (13, (vin i)), (28, (vb (decide (0 < (cmpQ (qs.getD i 0) hi)))))]) (B' := [(1, some (bx (encG (RRng.mk (RRat.mk (RInt.mk false []) (RInt.mk false [])) (RRat.mk (RInt.mk false []) (RInt.mk false [])))))), (2, some (bx (encG (RRng.mk (ofQ (qs.getD i 0)) (ofQ hi))))), (3, some (bx (encR (ofQ (qs.getD i 0)))))]) ?_ ?_
      · skip
        exact sR (e_lda (cs := (bx (encR (ofQ (qs.getD i 0))))) (y := (.d (encR (ofQ (qs.getD i 0))))) rfl rfl sh26 rfl rfl) rfl rfl rfl rfl <| sE' (e_fldr (q := 4) rfl rfl fo28_1 rfl) rfl <| sR (e_lda (cs := (bx (encG (RRng.mk (ofQ (qs.getD i 0)) (ofQ hi))))) (y := (.d (encR (ofQ hi)))) rfl rfl sh26 rfl rfl) rfl rfl rfl rfl <| sE' (e_cl (f_compare (ofQ (qs.getD i 0)) (ofQ hi) (qs.getD i 0) hi (qok_of (ql_getD hqs (by decide) i)) (qok_of hhi)) rfl rfl rfl) rfl <| sE' (e_gtr rfl rfl rfl) rfl <| sNil rfl rfl
      refine pwp_cond (b := decide (0 < (cmpQ (qs.getD i 0) hi))) rfl (fun h3 => ?_) (fun h3 => ?_)
      · skip
        replace h3 := of_decide_eq_true h3
        have hc2 := h3
        refine pwp_S (S' := [(4, (.ref 1 0)), (5, (.ref 2 0)), (11, (vl 26 4 encR (List.map ofQ qs))), (12, (vin qs.length)), (13, (vin i))]) (B' := [(1, some (bx (encG (RRng.mk (RRat.mk (RInt.mk false []) (RInt.mk false [])) (RRat.mk (RInt.mk false []) (RInt.mk false [])))))), (2, some (bx (encG (RRng.mk (ofQ (qs.getD i 0)) (ofQ (qs.getD i 0))))))]) ?_ ?_
        · skip
          exact sR (e_lda (cs := (bx (encR (ofQ (qs.getD i 0))))) (y := (.d (encR (ofQ (qs.getD i 0))))) rfl rfl sh26 rfl rfl) rfl rfl rfl rfl <| sE' (e_fldr (q := 4) rfl rfl fo28_1 rfl) rfl <| sT (t_std (d := (encR (ofQ (qs.getD i 0)))) (cs := (bx (encG (RRng.mk (ofQ (qs.getD i 0)) (ofQ (qs.getD i 0)))))) rfl rfl rfl sh26 rfl rfl rfl rfl) rfl rfl rfl <| sNil rfl rfl
        refine pwp_S (S' := [(4, (.ref 1 0)), (5, (.ref 2 0)), (11, (vl 26 4 encR (List.map ofQ qs))), (12, (vin qs.length)), (13, (vin (i + 1)))]) (B' := [(1, some (bx (encG (RRng.mk (RRat.mk (RInt.mk false []) (RInt.mk false [])) (RRat.mk (RInt.mk false []) (RInt.mk false [])))))), (2, some (bx (encG (RRng.mk (ofQ (qs.getD i 0)) (ofQ (qs.getD i 0))))))]) ?_ ?_
        · skip
          exact sE' (e_add (r := (((i + 1) : Nat) : Int)) rfl rfl rfl (wi64 (by omega) (by omega) (by omega))) rfl <| sM (vin (i + 1)) rfl rfl <| sNil rfl rfl
        exact ⟨(i + 1, qs.getD i 0, qs.getD i 0), (weak rfl rfl), ⟨by omega, mnL_lt (by omega) hl hc1, mxL_gt (by omega) hh hc2⟩, (by first | omega | (dsimp only; omega))⟩
      · skip
        replace h3 := of_decide_eq_false h3
        have hc2 := h3
        refine pwp_skip ?_
        refine pwp_S (S' := [(4, (.ref 1 0)), (5, (.ref 2 0)), (11, (vl 26 4 encR (List.map ofQ qs))), (12, (vin qs.length)), (13, (vin (i + 1)))]) (B' := [(1, some (bx (encG (RRng.mk (RRat.mk (RInt.mk false []) (RInt.mk false [])) (RRat.mk (RInt.mk false []) (RInt.mk false [])))))), (2, some (bx (encG (RRng.mk (ofQ (qs.getD i 0)) (ofQ hi)))))]) ?_ ?_
        · skip
          exact sE' (e_add (r := (((i + 1) : Nat) : Int)) rfl rfl rfl (wi64 (by omega) (by omega) (by omega))) rfl <| sM (vin (i + 1)) rfl rfl <| sNil rfl rfl
        exact ⟨(i + 1, qs.getD i 0, hi), (weak rfl rfl), ⟨by omega, mnL_lt (by omega) hl hc1, mxL_le (by omega) hh hc2⟩, (by first | omega | (dsimp only; omega))⟩
    · skip
      replace h2 := of_decide_eq_false h2
      have hc1 := h2
      refine pwp_skip ?_
      refine pwp_seq ?_
      refine pwp_S (S' := [(4, (.ref 1 0)), (5, (.ref 2 0)), (7, (.ref 3 0)), (11, (vl 26 4 encR (List.map ofQ qs))), (12, (vin qs.length)), (13, (vin i)), (28, (vb (decide (0 < (cmpQ (qs.getD i 0) hi)))))]) (B' := [(1, some (bx (encG (RRng.mk (RRat.mk (RInt.mk false []) (RInt.mk false [])) (RRat.mk (RInt.mk false []) (RInt.mk false [])))))), (2, some (bx (encG (RRng.mk (ofQ lo) (ofQ hi))))), (3, some (bx (encR (ofQ (qs.getD i 0)))))]) ?_ ?_
      · skip
        exact sR (e_lda (cs := (bx (encR (ofQ (qs.getD i 0))))) (y := (.d (encR (ofQ (qs.getD i 0))))) rfl rfl sh26 rfl rfl) rfl rfl rfl rfl <| sE' (e_fldr (q := 4) rfl rfl fo28_1 rfl) rfl <| sR (e_lda (cs := (bx (encG (RRng.mk (ofQ lo) (ofQ hi))))) (y := (.d (encR (ofQ hi)))) rfl rfl sh26 rfl rfl) rfl rfl rfl rfl <| sE' (e_cl (f_compare (ofQ (qs.getD i 0)) (ofQ hi) (qs.getD i 0) hi (qok_of (ql_getD hqs (by decide) i)) (qok_of hhi)) rfl rfl rfl) rfl <| sE' (e_gtr rfl rfl rfl) rfl <| sNil rfl rfl
      refine pwp_cond (b := decide (0 < (cmpQ (qs.getD i 0) hi))) rfl (fun h4 => ?_) (fun h4 => ?_)
      · skip
        replace h4 := of_decide_eq_true h4
        have hc2 := h4
        refine pwp_S (S' := [(4, (.ref 1 0)), (5, (.ref 2 0)), (11, (vl 26 4 encR (List.map ofQ qs))), (12, (vin qs.length)), (13, (vin i))]) (B' := [(1, some (bx (encG (RRng.mk (RRat.mk (RInt.mk false []) (RInt.mk false [])) (RRat.mk (RInt.mk false []) (RInt.mk false [])))))), (2, some (bx (encG (RRng.mk (ofQ lo) (ofQ (qs.getD i 0))))))]) ?_ ?_
        · skip
          exact sR (e_lda (cs := (bx (encR (ofQ (qs.getD i 0))))) (y := (.d (encR (ofQ (qs.getD i 0))))) rfl rfl sh26 rfl rfl) rfl rfl rfl rfl <| sE' (e_fldr (q := 4) rfl rfl fo28_1 rfl) rfl <| sT (t_std (d := (encR (ofQ (qs.getD i 0)))) (cs := (bx (encG (RRng.mk (ofQ lo) (ofQ (qs.getD i 0)))))) rfl rfl rfl sh26 rfl rfl rfl rfl) rfl rfl rfl <| sNil rfl rfl
        refine pwp_S (S' := [(4, (.ref 1 0)), (5, (.ref 2 0)), (11, (vl 26 4 encR (List.map ofQ qs))), (12, (vin qs.length)), (13, (vin (i + 1)))]) (B' := [(1, some (bx (encG (RRng.mk (RRat.mk (RInt.mk false []) (RInt.mk false [])) (RRat.mk (RInt.mk false []) (RInt.mk false [])))))), (2, some (bx (encG (RRng.mk (ofQ lo) (ofQ (qs.getD i 0))))))]) ?_ ?_
        · skip
          exact sE' (e_add (r := (((i + 1) : Nat) : Int)) rfl rfl rfl (wi64 (by omega) (by omega) (by omega))) rfl <| sM (vin (i + 1)) rfl rfl <| sNil rfl rfl
        exact ⟨(i + 1, lo, qs.getD i 0), (weak rfl rfl), ⟨by omega, mnL_ge (by omega) hl hc1, mxL_gt (by omega) hh hc2⟩, (by first | omega | (dsimp only; omega))⟩
      · skip
        replace h4 := of_decide_eq_false h4
        have hc2 := h4
        refine pwp_skip ?_
        refine pwp_S (S' := [(4, (.ref 1 0)), (5, (.ref 2 0)), (11, (vl 26 4 encR (List.map ofQ qs))), (12, (vin qs.length)), (13, (vin (i + 1)))]) (B' := [(1, some (bx (encG (RRng.mk (RRat.mk (RInt.mk false []) (RInt.mk false [])) (RRat.mk (RInt.mk false []) (RInt.mk false [])))))), (2, some (bx (encG (RRng.mk (ofQ lo) (ofQ hi)))))]) ?_ ?_
        · skip
          exact sE' (e_add (r := (((i + 1) : Nat) : Int)) rfl rfl rfl (wi64 (by omega) (by omega) (by omega))) rfl <| sM (vin (i + 1)) rfl rfl <| sNil rfl rfl
        exact ⟨(i + 1, lo, hi), (weak rfl rfl), ⟨by omega, mnL_ge (by omega) hl hc1, mxL_le (by omega) hh hc2⟩, (by first | omega | (dsimp only; omega))⟩
  · skip
    replace h1 := of_decide_eq_false h1
    have hie : i = qs.length := by omega
    rw [hie, List.take_length] at hl hh
    refine pwp_exit ?_
    refine pwp_seq ?_
    refine pwp_S (S' := [(4, (.ref 1 0))]) (B' := [(1, some (bx (encG (RRng.mk (ofQ lo) (ofQ hi)))))]) ?_ ?_
    · skip
      exact sR (e_lda (cs := (bx (encG (RRng.mk (ofQ lo) (ofQ hi))))) (y := (.d (encG (RRng.mk (ofQ lo) (ofQ hi))))) rfl rfl sh28 rfl rfl) rfl rfl rfl rfl <| sT (t_std (d := (encG (RRng.mk (ofQ lo) (ofQ hi)))) (cs := (bx (encG (RRng.mk (ofQ lo) (ofQ hi))))) rfl rfl rfl sh28 rfl rfl rfl rfl) rfl rfl rfl <| sNil rfl rfl
    refine pwp_ret ⟨_, (res_a (cs := (bx (encG (RRng.mk (ofQ lo) (ofQ hi))))) (d := (encG (RRng.mk (ofQ lo) (ofQ hi)))) rfl rfl sh28 rfl rfl .nil), ?_⟩
    rw [hl, hh]; rfl
theorem i_cornersM (p q r s : Rat) (hp : QL p 1073741824) (hq : QL q 1073741824) (hr : QL r 1073741824) (hs : QL s 1073741824) : Takes Tryz.prog 81 [(.val (.func (.func 82) #[] #[])), (encG (RRng.mk (ofQ p) (ofQ q))), (encG (RRng.mk (ofQ r) (ofQ s)))] (encG (RRng.mk (ofQ (mnL (p * r) [(p * s), (q * r), (q * s)])) (ofQ (mxL (p * r) [(p * s), (q * r), (q * s)])))) := by
  refine fn_intro Tryz.func81 rfl cb81 rfl ?_
  show PWp _ _ _ _ ⟨[(0, (.d (.val (.func (.func 82) #[] #[])))), (1, (.d (encG (RRng.mk (ofQ p) (ofQ q))))), (2, (.d (encG (RRng.mk (ofQ r) (ofQ s)))))], []⟩
  refine pwp_seq ?_
  refine pwp_S (S' := [(0, (.d (.val (.func (.func 82) #[] #[])))), (4, (.ref 0 0)), (5, (.ref 1 0)), (6, (.ref 2 0))]) (B' := [(0, some (bx (encG (RRng.mk (ofQ p) (ofQ q))))), (1, some (bx (encG (RRng.mk (ofQ r) (ofQ s))))), (2, some (bx (encG (RRng.mk (RRat.mk (RInt.mk false []) (RInt.mk false [])) (RRat.mk (RInt.mk false []) (RInt.mk false []))))))]) ?_ ?_
  · skip
    exact sN (n_bx (d := (encG (RRng.mk (ofQ p) (ofQ q)))) (cs := (bx (encG (RRng.mk (ofQ p) (ofQ q))))) 0 rfl rfl rfl rfl) rfl rfl rfl rfl <| sN (n_bx (d := (encG (RRng.mk (ofQ r) (ofQ s)))) (cs := (bx (encG (RRng.mk (ofQ r) (ofQ s))))) 1 rfl rfl rfl rfl) rfl rfl rfl rfl <| sN (n_al (cs := (bx (encG (RRng.mk (RRat.mk (RInt.mk false []) (RInt.mk false [])) (RRat.mk (RInt.mk false []) (RInt.mk false [])))))) 2 rfl ze28 zo28 rfl) rfl rfl rfl rfl <| sNil rfl rfl
  refine pwp_seq ?_
  refine pwp_D (S' := [(6, (.ref 2 0))]) (B' := [(2, some (bx (encG (RRng.mk (ofQ (mnL (p * r) [(p * s), (q * r), (q * s)])) (ofQ (mxL (p * r) [(p * s), (q * r), (q * s)]))))))]) mo (by kernel_rfl) ?_ ?_
  · skip
    exact dM (.d (.val (.func (.func 82) #[] #[]))) rfl rfl rfl <| dE' (e_fldr (q := 0) rfl rfl fo28_0 rfl) rfl rfl <| dR (e_lda (cs := (bx (encG (RRng.mk (ofQ p) (ofQ q))))) (y := (.d (encR (ofQ p)))) rfl rfl sh26 rfl rfl) rfl rfl rfl rfl rfl <| dE' (e_fldr (q := 0) rfl rfl fo28_0 rfl) rfl rfl <| dR (e_lda (cs := (bx (encG (RRng.mk (ofQ r) (ofQ s))))) (y := (.d (encR (ofQ r)))) rfl rfl sh26 rfl rfl) rfl rfl rfl rfl rfl <| dE' (e_cl (f_mul (ofQ p) (ofQ r) p r (qok_up (qok_of hp) (by decide)) (qok_up (qok_of hr) (by decide))) rfl rfl rfl) rfl rfl <| dM (.d (.val (.func (.func 82) #[] #[]))) rfl rfl rfl <| dE' (e_fldr (q := 0) rfl rfl fo28_0 rfl) rfl rfl <| dR (e_lda (cs := (bx (encG (RRng.mk (ofQ p) (ofQ q))))) (y := (.d (encR (ofQ p)))) rfl rfl sh26 rfl rfl) rfl rfl rfl rfl rfl <| dE' (e_fldr (q := 4) rfl rfl fo28_1 rfl) rfl rfl <| dR (e_lda (cs := (bx (encG (RRng.mk (ofQ r) (ofQ s))))) (y := (.d (encR (ofQ s)))) rfl rfl sh26 rfl rfl) rfl rfl rfl rfl rfl <| dE' (e_cl (f_mul (ofQ p) (ofQ s) p s (qok_up (qok_of hp) (by decide)) (qok_up (qok_of hs) (by decide))) rfl rfl rfl) rfl rfl <| dM (.d (.val (.func (.func 82) #[] #[]))) rfl rfl rfl <| dE' (e_fldr (q := 4) rfl rfl fo28_1 rfl) rfl rfl <| dR (e_lda (cs := (bx (encG (RRng.mk (ofQ p) (ofQ q))))) (y := (.d (encR (ofQ q)))) rfl rfl sh26 rfl rfl) rfl rfl rfl rfl rfl <| dE' (e_fldr (q := 0) rfl rfl fo28_0 rfl) rfl rfl <| dR (e_lda (cs := (bx (encG (RRng.mk (ofQ r) (ofQ s))))) (y := (.d (encR (ofQ r)))) rfl rfl sh26 rfl rfl) rfl rfl rfl rfl rfl <| dE' (e_cl (f_mul (ofQ q) (ofQ r) q r (qok_up (qok_of hq) (by decide)) (qok_up (qok_of hr) (by decide))) rfl rfl rfl) rfl rfl <| dM (.d (.val (.func (.func 82) #[] #[]))) rfl rfl rfl <| dE' (e_fldr (q := 4) rfl rfl fo28_1 rfl) rfl rfl <| dR (e_lda (cs := (bx (encG (RRng.mk (ofQ p) (ofQ q))))) (y := (.d (encR (ofQ q)))) rfl rfl sh26 rfl rfl) rfl rfl rfl rfl rfl <| dE' (e_fldr (q := 4) rfl rfl fo28_1 rfl) rfl rfl <| dR (e_lda (cs := (bx (encG (RRng.mk (ofQ r) (ofQ s))))) (y := (.d (encR (ofQ s)))) rfl rfl sh26 rfl rfl) rfl rfl rfl rfl rfl <| dE' (e_cl (f_mul (ofQ q) (ofQ s) q s (qok_up (qok_of hq) (by decide)) (qok_up (qok_of hs) (by decide))) rfl rfl rfl) rfl rfl <| dE' (e_bsl (pd := [(0, (encR (ofQ (p * s)))), (1, (encR (ofQ (q * r)))), (2, (encR (ofQ (q * s))))]) (es := List.map encR [(ofQ (p * s)), (ofQ (q * r)), (ofQ (q * s))]) rfl el69 ze26 zo26 rfl rfl rfl rfl rfl rfl rfl rfl) rfl rfl <| dE' (e_cl (i_spanned (p * r) [(p * s), (q * r), (q * s)] (ql_up (ql_mul (k := 2147483648) hp hr (by decide)) (by decide)) (List.forall_mem_cons.2 ⟨(ql_up (ql_mul (k := 2147483648) hp hs (by decide)) (by decide)), (List.forall_mem_cons.2 ⟨(ql_up (ql_mul (k := 2147483648) hq hr (by decide)) (by decide)), (List.forall_mem_cons.2 ⟨(ql_up (ql_mul (k := 2147483648) hq hs (by decide)) (by decide)), (fun a h => by cases h)⟩)⟩)⟩) (by simp)) rfl rfl rfl) rfl rfl <| dT (t_std (d := (encG (RRng.mk (ofQ (mnL (p * r) [(p * s), (q * r), (q * s)])) (ofQ (mxL (p * r) [(p * s), (q * r), (q * s)]))))) (cs := (bx (encG (RRng.mk (ofQ (mnL (p * r) [(p * s), (q * r), (q * s)])) (ofQ (mxL (p * r) [(p * s), (q * r), (q * s)])))))) rfl rfl rfl sh28 rfl rfl rfl rfl) rfl rfl rfl rfl <| dNil rfl rfl (by kernel_rfl)
  refine pwp_ret ⟨_, (res_a (cs := (bx (encG (RRng.mk (ofQ (mnL (p * r) [(p * s), (q * r), (q * s)])) (ofQ (mxL (p * r) [(p * s), (q * r), (q * s)])))))) (d := (encG (RRng.mk (ofQ (mnL (p * r) [(p * s), (q * r), (q * s)])) (ofQ (mxL (p * r) [(p * s), (q * r), (q * s)]))))) rfl rfl sh28 rfl rfl .nil), ?_⟩
  rfl
theorem i_mul (p q r s : Rat) (hp : QL p 1073741824) (hq : QL q 1073741824) (hr : QL r 1073741824) (hs : QL s 1073741824) (hpq : p ≤ q) (hrs : r ≤ s) : Takes Tryz.prog 35 [(encG (RRng.mk (ofQ p) (ofQ q))), (encG (RRng.mk (ofQ r) (ofQ s)))] (.tup [(encG (RRng.mk (ofQ (mnL (p * r) [(p * s), (q * r), (q * s)])) (ofQ (mxL (p * r) [(p * s), (q * r), (q * s)])))), (.val (.int .i64 (0)))]) := by
  refine fn_intro Tryz.func35 rfl cb35 rfl ?_
  show PWp _ _ _ _ ⟨[(0, (.d (encG (RRng.mk (ofQ p) (ofQ q))))), (1, (.d (encG (RRng.mk (ofQ r) (ofQ s)))))], []⟩
  refine pwp_seq ?_
  refine pwp_S (S' := [(2, (.ref 0 0)), (3, (.ref 1 0)), (4, (.ref 2 0))]) (B' := [(0, some (bx (encG (RRng.mk (ofQ p) (ofQ q))))), (1, some (bx (encG (RRng.mk (ofQ r) (ofQ s))))), (2, some (bx (encG (RRng.mk (RRat.mk (RInt.mk false []) (RInt.mk false [])) (RRat.mk (RInt.mk false []) (RInt.mk false []))))))]) ?_ ?_
  · skip
    exact sN (n_bx (d := (encG (RRng.mk (ofQ p) (ofQ q)))) (cs := (bx (encG (RRng.mk (ofQ p) (ofQ q))))) 0 rfl rfl rfl rfl) rfl rfl rfl rfl <| sN (n_bx (d := (encG (RRng.mk (ofQ r) (ofQ s)))) (cs := (bx (encG (RRng.mk (ofQ r) (ofQ s))))) 1 rfl rfl rfl rfl) rfl rfl rfl rfl <| sN (n_al (cs := (bx (encG (RRng.mk (RRat.mk (RInt.mk false []) (RInt.mk false [])) (RRat.mk (RInt.mk false []) (RInt.mk false [])))))) 2 rfl ze28 zo28 rfl) rfl rfl rfl rfl <| sM (vin 0) rfl rfl <| sNil rfl rfl
  refine pwp_seq ?_
  refine pwp_seq ?_
  refine pwp_S (S' := [(2, (.ref 0 0)), (3, (.ref 1 0)), (4, (.ref 2 0)), (10, (vb false))]) (B' := [(0, some (bx (encG (RRng.mk (ofQ p) (ofQ q))))), (1, some (bx (encG (RRng.mk (ofQ r) (ofQ s))))), (2, some (bx (encG (RRng.mk (RRat.mk (RInt.mk false []) (RInt.mk false [])) (RRat.mk (RInt.mk false []) (RInt.mk false []))))))]) ?_ ?_
  · skip
    exact sR (e_lda (cs := (bx (encG (RRng.mk (ofQ p) (ofQ q))))) (y := (.d (encG (RRng.mk (ofQ p) (ofQ q))))) rfl rfl sh28 rfl rfl) rfl rfl rfl rfl <| sR (e_lda (cs := (bx (encG (RRng.mk (ofQ r) (ofQ s))))) (y := (.d (encG (RRng.mk (ofQ r) (ofQ s))))) rfl rfl sh28 rfl rfl) rfl rfl rfl rfl <| sE' (e_bsl (pd := [(0, (encG (RRng.mk (ofQ p) (ofQ q)))), (1, (encG (RRng.mk (ofQ r) (ofQ s))))]) (es := List.map encG [(RRng.mk (ofQ p) (ofQ q)), (RRng.mk (ofQ r) (ofQ s))]) rfl el57 ze28 zo28 rfl rfl rfl rfl rfl rfl rfl rfl) rfl <| sE' (e_cl (by have h := i_valids [(RRng.mk (ofQ p) (ofQ q)), (RRng.mk (ofQ r) (ofQ s))] (List.forall_mem_cons.2 ⟨(gok_up (⟨qok_self (qok_up (qok_of hp) (by decide : 1073741824 ≤ 1073741824)), qok_self (qok_up (qok_of hq) (by decide : 1073741824 ≤ 1073741824))⟩) (by decide)), (List.forall_mem_cons.2 ⟨(gok_up (⟨qok_self (qok_up (qok_of hr) (by decide : 1073741824 ≤ 1073741824)), qok_self (qok_up (qok_of hs) (by decide : 1073741824 ≤ 1073741824))⟩) (by decide)), (fun a h => by cases h)⟩)⟩) (by simp); rw [show List.all [(RRng.mk (ofQ p) (ofQ q)), (RRng.mk (ofQ r) (ofQ s))] validG = true from by simp [validG_of hpq, validG_of hrs]] at h; exact h) rfl rfl rfl) rfl <| sE' (e_not (b := true) rfl rfl) rfl <| sNil rfl rfl
  refine pwp_cond (b := false) rfl (fun h => by cases h) (fun _ => ?_)
  refine pwp_skip ?_
  refine pwp_seq ?_
  refine pwp_S (S' := [(4, (.ref 2 0)), (5, (vin 0))]) (B' := [(2, some (bx (encG (RRng.mk (ofQ (mnL (p * r) [(p * s), (q * r), (q * s)])) (ofQ (mxL (p * r) [(p * s), (q * r), (q * s)]))))))]) ?_ ?_
  · skip
    exact sR (e_lda (cs := (bx (encG (RRng.mk (ofQ p) (ofQ q))))) (y := (.d (encG (RRng.mk (ofQ p) (ofQ q))))) rfl rfl sh28 rfl rfl) rfl rfl rfl rfl <| sR (e_lda (cs := (bx (encG (RRng.mk (ofQ r) (ofQ s))))) (y := (.d (encG (RRng.mk (ofQ r) (ofQ s))))) rfl rfl sh28 rfl rfl) rfl rfl rfl rfl <| sE' (e_cl (i_cornersM p q r s hp hq hr hs) rfl rfl rfl) rfl <| sT (t_std (d := (encG (RRng.mk (ofQ (mnL (p * r) [(p * s), (q * r), (q * s)])) (ofQ (mxL (p * r) [(p * s), (q * r), (q * s)]))))) (cs := (bx (encG (RRng.mk (ofQ (mnL (p * r) [(p * s), (q * r), (q * s)])) (ofQ (mxL (p * r) [(p * s), (q * r), (q * s)])))))) rfl rfl rfl sh28 rfl rfl rfl rfl) rfl rfl rfl <| sM (vin 0) rfl rfl <| sNil rfl rfl
  refine pwp_ret ⟨_, (res_a (cs := (bx (encG (RRng.mk (ofQ (mnL (p * r) [(p * s), (q * r), (q * s)])) (ofQ (mxL (p * r) [(p * s), (q * r), (q * s)])))))) (d := (encG (RRng.mk (ofQ (mnL (p * r) [(p * s), (q * r), (q * s)])) (ofQ (mxL (p * r) [(p * s), (q * r), (q * s)]))))) rfl rfl sh28 rfl rfl (.tmp (d := (.val (.int .i64 (0)))) rfl .nil)), ?_⟩
  rfl
theorem i_divideZ (p q r s : Rat) (hp : QL p 1073741824) (hq : QL q 1073741824) (hr : QL r 1073741824) (hs : QL s 1073741824) (hpq : p ≤ q) (hrs : r ≤ s) (hz : zeroG r s = true) : Takes Tryz.prog 38 [(encG (RRng.mk (ofQ p) (ofQ q))), (encG (RRng.mk (ofQ r) (ofQ s)))] (.tup [(encG (RRng.mk (RRat.mk (RInt.mk false []) (RInt.mk false [])) (RRat.mk (RInt.mk false []) (RInt.mk false [])))), (.val (.int .i64 (14)))]) := by
  refine fn_intro Tryz.func38 rfl cb38 rfl ?_
  show PWp _ _ _ _ ⟨[(0, (.d (encG (RRng.mk (ofQ p) (ofQ q))))), (1, (.d (encG (RRng.mk (ofQ r) (ofQ s)))))], []⟩
  refine pwp_seq ?_
  refine pwp_S (S' := [(2, (.ref 0 0)), (3, (.ref 1 0)), (4, (.ref 2 0))]) (B' := [(0, some (bx (encG (RRng.mk (ofQ p) (ofQ q))))), (1, some (bx (encG (RRng.mk (ofQ r) (ofQ s))))), (2, some (bx (encG (RRng.mk (RRat.mk (RInt.mk false []) (RInt.mk false [])) (RRat.mk (RInt.mk false []) (RInt.mk false []))))))]) ?_ ?_
  · skip
    exact sN (n_bx (d := (encG (RRng.mk (ofQ p) (ofQ q)))) (cs := (bx (encG (RRng.mk (ofQ p) (ofQ q))))) 0 rfl rfl rfl rfl) rfl rfl rfl rfl <| sN (n_bx (d := (encG (RRng.mk (ofQ r) (ofQ s)))) (cs := (bx (encG (RRng.mk (ofQ r) (ofQ s))))) 1 rfl rfl rfl rfl) rfl rfl rfl rfl <| sN (n_al (cs := (bx (encG (RRng.mk (RRat.mk (RInt.mk false []) (RInt.mk false [])) (RRat.mk (RInt.mk false []) (RInt.mk false [])))))) 2 rfl ze28 zo28 rfl) rfl rfl rfl rfl <| sM (vin 0) rfl rfl <| sNil rfl rfl
  refine pwp_seq ?_
  refine pwp_seq ?_
  refine pwp_S (S' := [(2, (.ref 0 0)), (3, (.ref 1 0)), (4, (.ref 2 0)), (11, (vb false))]) (B' := [(0, some (bx (encG (RRng.mk (ofQ p) (ofQ q))))), (1, some (bx (encG (RRng.mk (ofQ r) (ofQ s))))), (2, some (bx (encG (RRng.mk (RRat.mk (RInt.mk false []) (RInt.mk false [])) (RRat.mk (RInt.mk false []) (RInt.mk false []))))))]) ?_ ?_
  · skip
    exact sR (e_lda (cs := (bx (encG (RRng.mk (ofQ p) (ofQ q))))) (y := (.d (encG (RRng.mk (ofQ p) (ofQ q))))) rfl rfl sh28 rfl rfl) rfl rfl rfl rfl <| sR (e_lda (cs := (bx (encG (RRng.mk (ofQ r) (ofQ s))))) (y := (.d (encG (RRng.mk (ofQ r) (ofQ s))))) rfl rfl sh28 rfl rfl) rfl rfl rfl rfl <| sE' (e_bsl (pd := [(0, (encG (RRng.mk (ofQ p) (ofQ q)))), (1, (encG (RRng.mk (ofQ r) (ofQ s))))]) (es := List.map encG [(RRng.mk (ofQ p) (ofQ q)), (RRng.mk (ofQ r) (ofQ s))]) rfl el57 ze28 zo28 rfl rfl rfl rfl rfl rfl rfl rfl) rfl <| sE' (e_cl (by have h := i_valids [(RRng.mk (ofQ p) (ofQ q)), (RRng.mk (ofQ r) (ofQ s))] (List.forall_mem_cons.2 ⟨(gok_up (⟨qok_self (qok_up (qok_of hp) (by decide : 1073741824 ≤ 1073741824)), qok_self (qok_up (qok_of hq) (by decide : 1073741824 ≤ 1073741824))⟩) (by decide)), (List.forall_mem_cons.2 ⟨(gok_up (⟨qok_self (qok_up (qok_of hr) (by decide : 1073741824 ≤ 1073741824)), qok_self (qok_up (qok_of hs) (by decide : 1073741824 ≤ 1073741824))⟩) (by decide)), (fun a h => by cases h)⟩)⟩) (by simp); rw [show List.all [(RRng.mk (ofQ p) (ofQ q)), (RRng.mk (ofQ r) (ofQ s))] validG = true from by simp [validG_of hpq, validG_of hrs]] at h; exact h) rfl rfl rfl) rfl <| sE' (e_not (b := true) rfl rfl) rfl <| sNil rfl rfl
  refine pwp_cond (b := false) rfl (fun h => by cases h) (fun _ => ?_)
  refine pwp_skip ?_
  refine pwp_seq ?_
  refine pwp_seq ?_
  refine pwp_S (S' := [(2, (.ref 0 0)), (3, (.ref 1 0)), (4, (.ref 2 0)), (14, (vb true))]) (B' := [(0, some (bx (encG (RRng.mk (ofQ p) (ofQ q))))), (1, some (bx (encG (RRng.mk (ofQ r) (ofQ s))))), (2, some (bx (encG (RRng.mk (RRat.mk (RInt.mk false []) (RInt.mk false [])) (RRat.mk (RInt.mk false []) (RInt.mk false []))))))]) ?_ ?_
  · skip
    exact sR (e_lda (cs := (bx (encG (RRng.mk (ofQ r) (ofQ s))))) (y := (.d (encG (RRng.mk (ofQ r) (ofQ s))))) rfl rfl sh28 rfl rfl) rfl rfl rfl rfl <| sE' (e_cl (by have h := i_zero r s hr hs; rw [show zeroG r s = true from hz] at h; exact h) rfl rfl rfl) rfl <| sNil rfl rfl
  refine pwp_cond (b := true) rfl (fun _ => ?_) (fun h => by cases h)
  refine pwp_seq ?_
  refine pwp_S (S' := [(4, (.ref 2 0)), (5, (vin 14))]) (B' := [(2, some (bx (encG (RRng.mk (RRat.mk (RInt.mk false []) (RInt.mk false [])) (RRat.mk (RInt.mk false []) (RInt.mk false []))))))]) ?_ ?_
  · skip
    exact sE' (e_bld (pd := []) (y := (encG (RRng.mk (RRat.mk (RInt.mk false []) (RInt.mk false [])) (RRat.mk (RInt.mk false []) (RInt.mk false []))))) rfl pl28 ze28 zo28 rfl rfl rfl rfl) rfl <| sT (t_std (d := (encG (RRng.mk (RRat.mk (RInt.mk false []) (RInt.mk false [])) (RRat.mk (RInt.mk false []) (RInt.mk false []))))) (cs := (bx (encG (RRng.mk (RRat.mk (RInt.mk false []) (RInt.mk false [])) (RRat.mk (RInt.mk false []) (RInt.mk false [])))))) rfl rfl rfl sh28 rfl rfl rfl rfl) rfl rfl rfl <| sM (vin 14) rfl rfl <| sNil rfl rfl
  refine pwp_ret ⟨_, (res_a (cs := (bx (encG (RRng.mk (RRat.mk (RInt.mk false []) (RInt.mk false [])) (RRat.mk (RInt.mk false []) (RInt.mk false [])))))) (d := (encG (RRng.mk (RRat.mk (RInt.mk false []) (RInt.mk false [])) (RRat.mk (RInt.mk false []) (RInt.mk false []))))) rfl rfl sh28 rfl rfl (.tmp (d := (.val (.int .i64 (14)))) rfl .nil)), ?_⟩
  rfl
theorem i_square (p q : Rat) (hp : QL p 1073741824) (hq : QL q 1073741824) (hpq : p ≤ q) : Takes Tryz.prog 37 [(encG (RRng.mk (ofQ p) (ofQ q)))] (.tup [(encG (RRng.mk (ofQ (sqL p q)) (ofQ (sqH p q)))), (.val (.int .i64 (0)))]) := by
  refine fn_intro Tryz.func37 rfl cb37 rfl ?_
  show PWp _ _ _ _ ⟨[(0, (.d (encG (RRng.mk (ofQ p) (ofQ q)))))], []⟩
  refine pwp_seq ?_
  refine pwp_S (S' := [(1, (.ref 0 0)), (2, (.ref 1 0))]) (B' := [(0, some (bx (encG (RRng.mk (ofQ p) (ofQ q))))), (1, some (bx (encG (RRng.mk (RRat.mk (RInt.mk false []) (RInt.mk false [])) (RRat.mk (RInt.mk false []) (RInt.mk false []))))))]) ?_ ?_
  · skip
    exact sN (n_bx (d := (encG (RRng.mk (ofQ p) (ofQ q)))) (cs := (bx (encG (RRng.mk (ofQ p) (ofQ q))))) 0 rfl rfl rfl rfl) rfl rfl rfl rfl <| sN (n_al (cs := (bx (encG (RRng.mk (RRat.mk (RInt.mk false []) (RInt.mk false [])) (RRat.mk (RInt.mk false []) (RInt.mk false [])))))) 1 rfl ze28 zo28 rfl) rfl rfl rfl rfl <| sM (vin 0) rfl rfl <| sNil rfl rfl
  refine pwp_seq ?_
  refine pwp_seq ?_
  refine pwp_S (S' := [(1, (.ref 0 0)), (2, (.ref 1 0)), (7, (vb false))]) (B' := [(0, some (bx (encG (RRng.mk (ofQ p) (ofQ q))))), (1, some (bx (encG (RRng.mk (RRat.mk (RInt.mk false []) (RInt.mk false [])) (RRat.mk (RInt.mk false []) (RInt.mk false []))))))]) ?_ ?_
  · skip
    exact sR (e_lda (cs := (bx (encG (RRng.mk (ofQ p) (ofQ q))))) (y := (.d (encG (RRng.mk (ofQ p) (ofQ q))))) rfl rfl sh28 rfl rfl) rfl rfl rfl rfl <| sE' (e_cl (by have h := i_valid (RRng.mk (ofQ p) (ofQ q)) (gok_up (⟨qok_self (qok_up (qok_of hp) (by decide : 1073741824 ≤ 1073741824)), qok_self (qok_up (qok_of hq) (by decide : 1073741824 ≤ 1073741824))⟩) (by decide)); rw [show validG (RRng.mk (ofQ p) (ofQ q)) = true from validG_of hpq] at h; exact h) rfl rfl rfl) rfl <| sE' (e_not (b := true) rfl rfl) rfl <| sNil rfl rfl
  refine pwp_cond (b := false) rfl (fun h => by cases h) (fun _ => ?_)
  refine pwp_skip ?_
  refine pwp_seq ?_
  refine pwp_D (S' := [(1, (.ref 0 0)), (2, (.ref 1 0)), (4, (.ref 2 0))]) (B' := [(0, some (bx (encG (RRng.mk (ofQ p) (ofQ q))))), (1, some (bx (encG (RRng.mk (RRat.mk (RInt.mk false []) (RInt.mk false [])) (RRat.mk (RInt.mk false []) (RInt.mk false [])))))), (2, some (bx (encG (RRng.mk (ofQ (mnL (p * p) [(q * q)])) (ofQ (mxL (p * p) [(q * q)]))))))]) mo (by kernel_rfl) ?_ ?_
  · skip
    exact dE' (e_fldr (q := 0) rfl rfl fo28_0 rfl) rfl rfl <| dR (e_lda (cs := (bx (encG (RRng.mk (ofQ p) (ofQ q))))) (y := (.d (encR (ofQ p)))) rfl rfl sh26 rfl rfl) rfl rfl rfl rfl rfl <| dE' (e_fldr (q := 0) rfl rfl fo28_0 rfl) rfl rfl <| dR (e_lda (cs := (bx (encG (RRng.mk (ofQ p) (ofQ q))))) (y := (.d (encR (ofQ p)))) rfl rfl sh26 rfl rfl) rfl rfl rfl rfl rfl <| dE' (e_cl (f_mul (ofQ p) (ofQ p) p p (qok_up (qok_of hp) (by decide)) (qok_up (qok_of hp) (by decide))) rfl rfl rfl) rfl rfl <| dE' (e_fldr (q := 4) rfl rfl fo28_1 rfl) rfl rfl <| dR (e_lda (cs := (bx (encG (RRng.mk (ofQ p) (ofQ q))))) (y := (.d (encR (ofQ q)))) rfl rfl sh26 rfl rfl) rfl rfl rfl rfl rfl <| dE' (e_fldr (q := 4) rfl rfl fo28_1 rfl) rfl rfl <| dR (e_lda (cs := (bx (encG (RRng.mk (ofQ p) (ofQ q))))) (y := (.d (encR (ofQ q)))) rfl rfl sh26 rfl rfl) rfl rfl rfl rfl rfl <| dE' (e_cl (f_mul (ofQ q) (ofQ q) q q (qok_up (qok_of hq) (by decide)) (qok_up (qok_of hq) (by decide))) rfl rfl rfl) rfl rfl <| dE' (e_bsl (pd := [(0, (encR (ofQ (q * q))))]) (es := List.map encR [(ofQ (q * q))]) rfl el69 ze26 zo26 rfl rfl rfl rfl rfl rfl rfl rfl) rfl rfl <| dE' (e_cl (i_spanned (p * p) [(q * q)] (ql_up (ql_mul (k := 2147483648) hp hp (by decide)) (by decide)) (List.forall_mem_cons.2 ⟨(ql_up (ql_mul (k := 2147483648) hq hq (by decide)) (by decide)), (fun a h => by cases h)⟩) (by simp)) rfl rfl rfl) rfl rfl <| dN (n_al (cs := (bx (encG (RRng.mk (RRat.mk (RInt.mk false []) (RInt.mk false [])) (RRat.mk (RInt.mk false []) (RInt.mk false [])))))) 2 rfl ze28 zo28 rfl) rfl rfl rfl rfl rfl rfl <| dT (t_std (d := (encG (RRng.mk (ofQ (mnL (p * p) [(q * q)])) (ofQ (mxL (p * p) [(q * q)]))))) (cs := (bx (encG (RRng.mk (ofQ (mnL (p * p) [(q * q)])) (ofQ (mxL (p * p) [(q * q)])))))) rfl rfl rfl sh28 rfl rfl rfl rfl) rfl rfl rfl rfl <| dNil rfl rfl (by kernel_rfl)
  refine pwp_seq ?_
  refine pwp_seq ?_
  refine pwp_S (S' := [(2, (.ref 1 0)), (4, (.ref 2 0)), (22, (vb (zeroG p q)))]) (B' := [(1, some (bx (encG (RRng.mk (RRat.mk (RInt.mk false []) (RInt.mk false [])) (RRat.mk (RInt.mk false []) (RInt.mk false [])))))), (2, some (bx (encG (RRng.mk (ofQ (mnL (p * p) [(q * q)])) (ofQ (mxL (p * p) [(q * q)]))))))]) ?_ ?_
  · skip
    exact sR (e_lda (cs := (bx (encG (RRng.mk (ofQ p) (ofQ q))))) (y := (.d (encG (RRng.mk (ofQ p) (ofQ q))))) rfl rfl sh28 rfl rfl) rfl rfl rfl rfl <| sE' (e_cl (i_zero p q hp hq) rfl rfl rfl) rfl <| sNil rfl rfl
  refine pwp_cond (b := (zeroG p q)) rfl (fun h1 => ?_) (fun h1 => ?_)
  · skip
    refine pwp_S (S' := [(2, (.ref 1 0)), (4, (.ref 2 0))]) (B' := [(1, some (bx (encG (RRng.mk (RRat.mk (RInt.mk false []) (RInt.mk false [])) (RRat.mk (RInt.mk false []) (RInt.mk false [])))))), (2, some (bx (encG (RRng.mk (ofQ ((0 : Int) : Rat)) (ofQ (mxL (p * p) [(q * q)]))))))]) ?_ ?_
    · skip
      exact sE' (e_cl (f_whole 0 (by decide) (by decide)) rfl rfl rfl) rfl <| sE' (e_fldr (q := 0) rfl rfl fo28_0 rfl) rfl <| sT (t_std (d := (encR (ofQ ((0 : Int) : Rat)))) (cs := (bx (encG (RRng.mk (ofQ ((0 : Int) : Rat)) (ofQ (mxL (p * p) [(q * q)])))))) rfl rfl rfl sh26 rfl rfl rfl rfl) rfl rfl rfl <| sNil rfl rfl
    refine pwp_seq ?_
    refine pwp_S (S' := [(2, (.ref 1 0)), (3, (vin 0))]) (B' := [(1, some (bx (encG (RRng.mk (ofQ ((0 : Int) : Rat)) (ofQ (mxL (p * p) [(q * q)]))))))]) ?_ ?_
    · skip
      exact sR (e_lda (cs := (bx (encG (RRng.mk (ofQ ((0 : Int) : Rat)) (ofQ (mxL (p * p) [(q * q)])))))) (y := (.d (encG (RRng.mk (ofQ ((0 : Int) : Rat)) (ofQ (mxL (p * p) [(q * q)])))))) rfl rfl sh28 rfl rfl) rfl rfl rfl rfl <| sT (t_std (d := (encG (RRng.mk (ofQ ((0 : Int) : Rat)) (ofQ (mxL (p * p) [(q * q)]))))) (cs := (bx (encG (RRng.mk (ofQ ((0 : Int) : Rat)) (ofQ (mxL (p * p) [(q * q)])))))) rfl rfl rfl sh28 rfl rfl rfl rfl) rfl rfl rfl <| sM (vin 0) rfl rfl <| sNil rfl rfl
    refine pwp_ret ⟨_, (res_a (cs := (bx (encG (RRng.mk (ofQ ((0 : Int) : Rat)) (ofQ (mxL (p * p) [(q * q)])))))) (d := (encG (RRng.mk (ofQ ((0 : Int) : Rat)) (ofQ (mxL (p * p) [(q * q)]))))) rfl rfl sh28 rfl rfl (.tmp (d := (.val (.int .i64 (0)))) rfl .nil)), ?_⟩
    rw [show sqL p q = _ from if_pos h1]; rfl
  · skip
    refine pwp_skip ?_
    refine pwp_seq ?_
    refine pwp_S (S' := [(2, (.ref 1 0)), (3, (vin 0))]) (B' := [(1, some (bx (encG (RRng.mk (ofQ (mnL (p * p) [(q * q)])) (ofQ (mxL (p * p) [(q * q)]))))))]) ?_ ?_
    · skip
      exact sR (e_lda (cs := (bx (encG (RRng.mk (ofQ (mnL (p * p) [(q * q)])) (ofQ (mxL (p * p) [(q * q)])))))) (y := (.d (encG (RRng.mk (ofQ (mnL (p * p) [(q * q)])) (ofQ (mxL (p * p) [(q * q)])))))) rfl rfl sh28 rfl rfl) rfl rfl rfl rfl <| sT (t_std (d := (encG (RRng.mk (ofQ (mnL (p * p) [(q * q)])) (ofQ (mxL (p * p) [(q * q)]))))) (cs := (bx (encG (RRng.mk (ofQ (mnL (p * p) [(q * q)])) (ofQ (mxL (p * p) [(q * q)])))))) rfl rfl rfl sh28 rfl rfl rfl rfl) rfl rfl rfl <| sM (vin 0) rfl rfl <| sNil rfl rfl
    refine pwp_ret ⟨_, (res_a (cs := (bx (encG (RRng.mk (ofQ (mnL (p * p) [(q * q)])) (ofQ (mxL (p * p) [(q * q)])))))) (d := (encG (RRng.mk (ofQ (mnL (p * p) [(q * q)])) (ofQ (mxL (p * p) [(q * q)]))))) rfl rfl sh28 rfl rfl (.tmp (d := (.val (.int .i64 (0)))) rfl .nil)), ?_⟩
    rw [show sqL p q = _ from if_neg (by rw [h1]; simp)]; rfl
theorem h_whole (lo hi : Int) (h1 : -9223372036854775808 ≤ lo) (h2 : lo ≤ 9223372036854775807) (h3 : -9223372036854775808 ≤ hi) (h4 : hi ≤ 9223372036854775807) : Takes Tryz.prog 95 [(.val (.int .i64 (lo))), (.val (.int .i64 (hi)))] (encG (RRng.mk (ofQ ((lo : Int) : Rat)) (ofQ ((hi : Int) : Rat)))) := by
  refine fn_intro Tryz.func95 rfl cb95 rfl ?_
  show PWp _ _ _ _ ⟨[(0, (vi lo)), (1, (vi hi))], []⟩
  refine pwp_seq ?_
  refine pwp_S (S' := [(0, (vi lo)), (1, (vi hi)), (4, (.ref 0 0))]) (B' := [(0, some (bx (encG (RRng.mk (RRat.mk (RInt.mk false []) (RInt.mk false [])) (RRat.mk (RInt.mk false []) (RInt.mk false []))))))]) ?_ ?_
  · skip
    exact sN (n_al (cs := (bx (encG (RRng.mk (RRat.mk (RInt.mk false []) (RInt.mk false [])) (RRat.mk (RInt.mk false []) (RInt.mk false [])))))) 0 rfl ze28 zo28 rfl) rfl rfl rfl rfl <| sNil rfl rfl
  refine pwp_seq ?_
  refine pwp_S (S' := [(4, (.ref 0 0))]) (B' := [(0, some (bx (encG (RRng.mk (ofQ ((lo : Int) : Rat)) (ofQ ((hi : Int) : Rat))))))]) ?_ ?_
  · skip
    exact sM (vi lo) rfl rfl <| sE' (e_cl (g_whole lo (by omega) (by omega)) rfl rfl rfl) rfl <| sM (vi hi) rfl rfl <| sE' (e_cl (g_whole hi (by omega) (by omega)) rfl rfl rfl) rfl <| sE' (e_bld (pd := [(0, (encR (ofQ ((lo : Int) : Rat)))), (1, (encR (ofQ ((hi : Int) : Rat))))]) (y := (encG (RRng.mk (ofQ ((lo : Int) : Rat)) (ofQ ((hi : Int) : Rat))))) rfl pl28 ze28 zo28 rfl rfl rfl rfl) rfl <| sT (t_std (d := (encG (RRng.mk (ofQ ((lo : Int) : Rat)) (ofQ ((hi : Int) : Rat))))) (cs := (bx (encG (RRng.mk (ofQ ((lo : Int) : Rat)) (ofQ ((hi : Int) : Rat)))))) rfl rfl rfl sh28 rfl rfl rfl rfl) rfl rfl rfl <| sNil rfl rfl
  refine pwp_ret ⟨_, (res_a (cs := (bx (encG (RRng.mk (ofQ ((lo : Int) : Rat)) (ofQ ((hi : Int) : Rat)))))) (d := (encG (RRng.mk (ofQ ((lo : Int) : Rat)) (ofQ ((hi : Int) : Rat))))) rfl rfl sh28 rfl rfl .nil), ?_⟩
  rfl
theorem l_whole (lo hi : Int) (h1 : -9223372036854775808 ≤ lo) (h2 : lo ≤ 9223372036854775807) (h3 : -9223372036854775808 ≤ hi) (h4 : hi ≤ 9223372036854775807) : Takes Tryz.prog 63 [(.val (.int .i64 (lo))), (.val (.int .i64 (hi)))] (encG (RRng.mk (ofQ ((lo : Int) : Rat)) (ofQ ((hi : Int) : Rat)))) := by
  refine fn_intro Tryz.func63 rfl cb63 rfl ?_
  show PWp _ _ _ _ ⟨[(0, (vi lo)), (1, (vi hi))], []⟩
  refine pwp_seq ?_
  refine pwp_S (S' := [(0, (vi lo)), (1, (vi hi)), (4, (.ref 0 0))]) (B' := [(0, some (bx (encG (RRng.mk (RRat.mk (RInt.mk false []) (RInt.mk false [])) (RRat.mk (RInt.mk false []) (RInt.mk false []))))))]) ?_ ?_
  · skip
    exact sN (n_al (cs := (bx (encG (RRng.mk (RRat.mk (RInt.mk false []) (RInt.mk false [])) (RRat.mk (RInt.mk false []) (RInt.mk false [])))))) 0 rfl ze28 zo28 rfl) rfl rfl rfl rfl <| sNil rfl rfl
  refine pwp_seq ?_
  refine pwp_S (S' := [(4, (.ref 0 0))]) (B' := [(0, some (bx (encG (RRng.mk (ofQ ((lo : Int) : Rat)) (ofQ ((hi : Int) : Rat))))))]) ?_ ?_
  · skip
    exact sM (vi lo) rfl rfl <| sM (vi hi) rfl rfl <| sE' (e_cl (h_whole lo hi (by omega) (by omega) (by omega) (by omega)) rfl rfl rfl) rfl <| sT (t_std (d := (encG (RRng.mk (ofQ ((lo : Int) : Rat)) (ofQ ((hi : Int) : Rat))))) (cs := (bx (encG (RRng.mk (ofQ ((lo : Int) : Rat)) (ofQ ((hi : Int) : Rat)))))) rfl rfl rfl sh28 rfl rfl rfl rfl) rfl rfl rfl <| sNil rfl rfl
  refine pwp_ret ⟨_, (res_a (cs := (bx (encG (RRng.mk (ofQ ((lo : Int) : Rat)) (ofQ ((hi : Int) : Rat)))))) (d := (encG (RRng.mk (ofQ ((lo : Int) : Rat)) (ofQ ((hi : Int) : Rat))))) rfl rfl sh28 rfl rfl .nil), ?_⟩
  rfl
theorem h_same (a b : RRng) (ha : GOk 4294967296 a) (hb : GOk 4294967296 b) : Takes Tryz.prog 103 [(encG a), (encG b)] (.val (.bool ((sameG a b)))) := by
  refine fn_intro Tryz.func103 rfl cb103 rfl ?_
  show PWp _ _ _ _ ⟨[(0, (.d (encG a))), (1, (.d (encG b)))], []⟩
  refine pwp_seq ?_
  refine pwp_S (S' := [(2, (.ref 0 0)), (3, (.ref 1 0))]) (B' := [(0, some (bx (encG a))), (1, some (bx (encG b)))]) ?_ ?_
  · skip
    exact sN (n_bx (d := (encG a)) (cs := (bx (encG a))) 0 rfl rfl rfl rfl) rfl rfl rfl rfl <| sN (n_bx (d := (encG b)) (cs := (bx (encG b))) 1 rfl rfl rfl rfl) rfl rfl rfl rfl <| sM (vb false) rfl rfl <| sNil rfl rfl
  refine pwp_seq ?_
  refine pwp_S (S' := [(4, (vb (((validG a) && (validG b)) && (sameR a.lo b.lo && sameR a.hi b.hi))))]) (B' := []) ?_ ?_
  · skip
    refine sR (e_lda (cs := (bx (encG a))) (y := (.d (encG a))) rfl rfl sh28 rfl rfl) rfl rfl rfl rfl <| sE' (e_cl (h_valid a ha) rfl rfl rfl) rfl <| sM (vb (validG a)) rfl rfl <| ?_
    rcases hb1 : (validG a) with _ | _
    · skip
      exact sK rfl rfl rfl <| sK rfl rfl rfl <| sE' (e_pkf (z := (vb false)) rfl rfl rfl) rfl <| sM (vb false) rfl rfl <| sK rfl rfl rfl <| sK rfl rfl rfl <| sK rfl rfl rfl <| sE' (e_pkf (z := (vb false)) rfl rfl rfl) rfl <| sM (vb false) rfl rfl <| sNil rfl rfl
    · skip
      refine sR (e_lda (cs := (bx (encG b))) (y := (.d (encG b))) rfl rfl sh28 rfl rfl) rfl rfl rfl rfl <| sE' (e_cl (h_valid b hb) rfl rfl rfl) rfl <| sE' (e_pkta rfl rfl rfl) rfl <| sM (vb (true && (validG b))) rfl rfl <| ?_
      rcases hb2 : (true && (validG b)) with _ | _
      · skip
        exact sK rfl rfl rfl <| sK rfl rfl rfl <| sK rfl rfl rfl <| sE' (e_pkf (z := (vb false)) rfl rfl rfl) rfl <| sM (vb false) rfl rfl <| sNil rfl rfl
      · skip
        exact sR (e_lda (cs := (bx (encG a))) (y := (.d (encG a))) rfl rfl sh28 rfl rfl) rfl rfl rfl rfl <| sR (e_lda (cs := (bx (encG b))) (y := (.d (encG b))) rfl rfl sh28 rfl rfl) rfl rfl rfl rfl <| sE' (e_cl (g_samerange a b ha hb) rfl rfl rfl) rfl <| sE' (e_pkta rfl rfl rfl) rfl <| sM (vb (true && (sameR a.lo b.lo && sameR a.hi b.hi))) rfl rfl <| sNil rfl rfl
  refine pwp_ret ⟨_, (.tmp (d := (.val (.bool ((((validG a) && (validG b)) && (sameR a.lo b.lo && sameR a.hi b.hi)))))) rfl .nil), ?_⟩
  rfl
theorem l_same (a b : RRng) (ha : GOk 4294967296 a) (hb : GOk 4294967296 b) : Takes Tryz.prog 64 [(encG a), (encG b)] (.val (.bool ((sameG a b)))) := by
  refine fn_intro Tryz.func64 rfl cb64 rfl ?_
  show PWp _ _ _ _ ⟨[(0, (.d (encG a))), (1, (.d (encG b)))], []⟩
  refine pwp_seq ?_
  refine pwp_S (S' := [(2, (.ref 0 0)), (3, (.ref 1 0))]) (B' := [(0, some (bx (encG a))), (1, some (bx (encG b)))]) ?_ ?_
  · skip
    exact sN (n_bx (d := (encG a)) (cs := (bx (encG a))) 0 rfl rfl rfl rfl) rfl rfl rfl rfl <| sN (n_bx (d := (encG b)) (cs := (bx (encG b))) 1 rfl rfl rfl rfl) rfl rfl rfl rfl <| sM (vb false) rfl rfl <| sNil rfl rfl
  refine pwp_seq ?_
  refine pwp_S (S' := [(4, (vb (sameG a b)))]) (B' := []) ?_ ?_
  · skip
    exact sR (e_lda (cs := (bx (encG a))) (y := (.d (encG a))) rfl rfl sh28 rfl rfl) rfl rfl rfl rfl <| sR (e_lda (cs := (bx (encG b))) (y := (.d (encG b))) rfl rfl sh28 rfl rfl) rfl rfl rfl rfl <| sE' (e_cl (h_same a b ha hb) rfl rfl rfl) rfl <| sM (vb (sameG a b)) rfl rfl <| sNil rfl rfl
  refine pwp_ret ⟨_, (.tmp (d := (.val (.bool ((sameG a b))))) rfl .nil), ?_⟩
  rfl
theorem l_known  : Takes Tryz.prog 10 [] (.val (.bool (true))) := by
  refine fn_intro Tryz.func10 rfl cb10 rfl ?_
  show PWp _ _ _ _ ⟨[], []⟩
  refine pwp_seq ?_
  refine pwp_S (S' := []) (B' := []) ?_ ?_
  · skip
    exact sM (vb false) rfl rfl <| sNil rfl rfl
  refine pwp_seq ?_
  refine pwp_S (S' := [(1, (.ref 0 0)), (2, (vi 0))]) (B' := [(0, some (bx (encG (RRng.mk (ofQ (mnL (((-1 : Int) : Rat) * ((3 : Int) : Rat)) [(((-1 : Int) : Rat) * ((4 : Int) : Rat)), (((2 : Int) : Rat) * ((3 : Int) : Rat)), (((2 : Int) : Rat) * ((4 : Int) : Rat))])) (ofQ (mxL (((-1 : Int) : Rat) * ((3 : Int) : Rat)) [(((-1 : Int) : Rat) * ((4 : Int) : Rat)), (((2 : Int) : Rat) * ((3 : Int) : Rat)), (((2 : Int) : Rat) * ((4 : Int) : Rat))]))))))]) ?_ ?_
  · skip
    exact sE' (e_cl (l_whole (-1) 2 (by decide) (by decide) (by decide) (by decide)) rfl rfl rfl) rfl <| sE' (e_cl (l_whole 3 4 (by decide) (by decide) (by decide) (by decide)) rfl rfl rfl) rfl <| sE' (e_cl (i_mul ((-1 : Int) : Rat) ((2 : Int) : Rat) ((3 : Int) : Rat) ((4 : Int) : Rat) (ql_up (ql_int (z := (-1)) (lenZ_one (by decide)) (by decide)) (by decide)) (ql_up (ql_int (z := 2) (lenZ_one (by decide)) (by decide)) (by decide)) (ql_up (ql_int (z := 3) (lenZ_one (by decide)) (by decide)) (by decide)) (ql_up (ql_int (z := 4) (lenZ_one (by decide)) (by decide)) (by decide)) (by decide : ((-1 : Int) : Rat) ≤ ((2 : Int) : Rat)) (by decide : ((3 : Int) : Rat) ≤ ((4 : Int) : Rat))) rfl rfl rfl) rfl <| sM (.d (.tup [(encG (RRng.mk (ofQ (mnL (((-1 : Int) : Rat) * ((3 : Int) : Rat)) [(((-1 : Int) : Rat) * ((4 : Int) : Rat)), (((2 : Int) : Rat) * ((3 : Int) : Rat)), (((2 : Int) : Rat) * ((4 : Int) : Rat))])) (ofQ (mxL (((-1 : Int) : Rat) * ((3 : Int) : Rat)) [(((-1 : Int) : Rat) * ((4 : Int) : Rat)), (((2 : Int) : Rat) * ((3 : Int) : Rat)), (((2 : Int) : Rat) * ((4 : Int) : Rat))])))), (.val (.int .i64 (0)))])) rfl rfl <| sE' (e_exD (d := (encG (RRng.mk (ofQ (mnL (((-1 : Int) : Rat) * ((3 : Int) : Rat)) [(((-1 : Int) : Rat) * ((4 : Int) : Rat)), (((2 : Int) : Rat) * ((3 : Int) : Rat)), (((2 : Int) : Rat) * ((4 : Int) : Rat))])) (ofQ (mxL (((-1 : Int) : Rat) * ((3 : Int) : Rat)) [(((-1 : Int) : Rat) * ((4 : Int) : Rat)), (((2 : Int) : Rat) * ((3 : Int) : Rat)), (((2 : Int) : Rat) * ((4 : Int) : Rat))]))))) rfl rfl rfl) rfl <| sE' (e_exD (d := (.val (.int .i64 (0)))) rfl rfl rfl) rfl <| sN (n_al (cs := (bx (encG (RRng.mk (RRat.mk (RInt.mk false []) (RInt.mk false [])) (RRat.mk (RInt.mk false []) (RInt.mk false [])))))) 0 rfl ze28 zo28 rfl) rfl rfl rfl rfl <| sT (t_std (d := (encG (RRng.mk (ofQ (mnL (((-1 : Int) : Rat) * ((3 : Int) : Rat)) [(((-1 : Int) : Rat) * ((4 : Int) : Rat)), (((2 : Int) : Rat) * ((3 : Int) : Rat)), (((2 : Int) : Rat) * ((4 : Int) : Rat))])) (ofQ (mxL (((-1 : Int) : Rat) * ((3 : Int) : Rat)) [(((-1 : Int) : Rat) * ((4 : Int) : Rat)), (((2 : Int) : Rat) * ((3 : Int) : Rat)), (((2 : Int) : Rat) * ((4 : Int) : Rat))]))))) (cs := (bx (encG (RRng.mk (ofQ (mnL (((-1 : Int) : Rat) * ((3 : Int) : Rat)) [(((-1 : Int) : Rat) * ((4 : Int) : Rat)), (((2 : Int) : Rat) * ((3 : Int) : Rat)), (((2 : Int) : Rat) * ((4 : Int) : Rat))])) (ofQ (mxL (((-1 : Int) : Rat) * ((3 : Int) : Rat)) [(((-1 : Int) : Rat) * ((4 : Int) : Rat)), (((2 : Int) : Rat) * ((3 : Int) : Rat)), (((2 : Int) : Rat) * ((4 : Int) : Rat))])))))) rfl rfl rfl sh28 rfl rfl rfl rfl) rfl rfl rfl <| sM (vi 0) rfl rfl <| sNil rfl rfl
  refine pwp_seq ?_
  refine pwp_S (S' := [(1, (.ref 0 0)), (2, (vi 0)), (3, (.ref 1 0)), (4, (vi 0))]) (B' := [(0, some (bx (encG (RRng.mk (ofQ (mnL (((-1 : Int) : Rat) * ((3 : Int) : Rat)) [(((-1 : Int) : Rat) * ((4 : Int) : Rat)), (((2 : Int) : Rat) * ((3 : Int) : Rat)), (((2 : Int) : Rat) * ((4 : Int) : Rat))])) (ofQ (mxL (((-1 : Int) : Rat) * ((3 : Int) : Rat)) [(((-1 : Int) : Rat) * ((4 : Int) : Rat)), (((2 : Int) : Rat) * ((3 : Int) : Rat)), (((2 : Int) : Rat) * ((4 : Int) : Rat))])))))), (1, some (bx (encG (RRng.mk (ofQ (sqL ((-1 : Int) : Rat) ((2 : Int) : Rat))) (ofQ (sqH ((-1 : Int) : Rat) ((2 : Int) : Rat)))))))]) ?_ ?_
  · skip
    exact sE' (e_cl (l_whole (-1) 2 (by decide) (by decide) (by decide) (by decide)) rfl rfl rfl) rfl <| sE' (e_cl (i_square ((-1 : Int) : Rat) ((2 : Int) : Rat) (ql_up (ql_int (z := (-1)) (lenZ_one (by decide)) (by decide)) (by decide)) (ql_up (ql_int (z := 2) (lenZ_one (by decide)) (by decide)) (by decide)) (by decide : ((-1 : Int) : Rat) ≤ ((2 : Int) : Rat))) rfl rfl rfl) rfl <| sM (.d (.tup [(encG (RRng.mk (ofQ (sqL ((-1 : Int) : Rat) ((2 : Int) : Rat))) (ofQ (sqH ((-1 : Int) : Rat) ((2 : Int) : Rat))))), (.val (.int .i64 (0)))])) rfl rfl <| sE' (e_exD (d := (encG (RRng.mk (ofQ (sqL ((-1 : Int) : Rat) ((2 : Int) : Rat))) (ofQ (sqH ((-1 : Int) : Rat) ((2 : Int) : Rat)))))) rfl rfl rfl) rfl <| sE' (e_exD (d := (.val (.int .i64 (0)))) rfl rfl rfl) rfl <| sN (n_al (cs := (bx (encG (RRng.mk (RRat.mk (RInt.mk false []) (RInt.mk false [])) (RRat.mk (RInt.mk false []) (RInt.mk false [])))))) 1 rfl ze28 zo28 rfl) rfl rfl rfl rfl <| sT (t_std (d := (encG (RRng.mk (ofQ (sqL ((-1 : Int) : Rat) ((2 : Int) : Rat))) (ofQ (sqH ((-1 : Int) : Rat) ((2 : Int) : Rat)))))) (cs := (bx (encG (RRng.mk (ofQ (sqL ((-1 : Int) : Rat) ((2 : Int) : Rat))) (ofQ (sqH ((-1 : Int) : Rat) ((2 : Int) : Rat))))))) rfl rfl rfl sh28 rfl rfl rfl rfl) rfl rfl rfl <| sM (vi 0) rfl rfl <| sNil rfl rfl
  refine pwp_seq ?_
  refine pwp_S (S' := [(1, (.ref 0 0)), (2, (vi 0)), (3, (.ref 1 0)), (4, (vi 0)), (6, (vi 14))]) (B' := [(0, some (bx (encG (RRng.mk (ofQ (mnL (((-1 : Int) : Rat) * ((3 : Int) : Rat)) [(((-1 : Int) : Rat) * ((4 : Int) : Rat)), (((2 : Int) : Rat) * ((3 : Int) : Rat)), (((2 : Int) : Rat) * ((4 : Int) : Rat))])) (ofQ (mxL (((-1 : Int) : Rat) * ((3 : Int) : Rat)) [(((-1 : Int) : Rat) * ((4 : Int) : Rat)), (((2 : Int) : Rat) * ((3 : Int) : Rat)), (((2 : Int) : Rat) * ((4 : Int) : Rat))])))))), (1, some (bx (encG (RRng.mk (ofQ (sqL ((-1 : Int) : Rat) ((2 : Int) : Rat))) (ofQ (sqH ((-1 : Int) : Rat) ((2 : Int) : Rat)))))))]) ?_ ?_
  · skip
    exact sE' (e_cl (l_whole 1 2 (by decide) (by decide) (by decide) (by decide)) rfl rfl rfl) rfl <| sE' (e_cl (l_whole 0 1 (by decide) (by decide) (by decide) (by decide)) rfl rfl rfl) rfl <| sE' (e_cl (i_divideZ ((1 : Int) : Rat) ((2 : Int) : Rat) ((0 : Int) : Rat) ((1 : Int) : Rat) (ql_up (ql_int (z := 1) (lenZ_one (by decide)) (by decide)) (by decide)) (ql_up (ql_int (z := 2) (lenZ_one (by decide)) (by decide)) (by decide)) (ql_up (ql_int (z := 0) (lenZ_one (by decide)) (by decide)) (by decide)) (ql_up (ql_int (z := 1) (lenZ_one (by decide)) (by decide)) (by decide)) (by decide : ((1 : Int) : Rat) ≤ ((2 : Int) : Rat)) (by decide : ((0 : Int) : Rat) ≤ ((1 : Int) : Rat)) (by decide)) rfl rfl rfl) rfl <| sM (.d (.tup [(encG (RRng.mk (RRat.mk (RInt.mk false []) (RInt.mk false [])) (RRat.mk (RInt.mk false []) (RInt.mk false [])))), (.val (.int .i64 (14)))])) rfl rfl <| sE' (e_exD (d := (encG (RRng.mk (RRat.mk (RInt.mk false []) (RInt.mk false [])) (RRat.mk (RInt.mk false []) (RInt.mk false []))))) rfl rfl rfl) rfl <| sE' (e_exD (d := (.val (.int .i64 (14)))) rfl rfl rfl) rfl <| sN (n_al (cs := (bx (encG (RRng.mk (RRat.mk (RInt.mk false []) (RInt.mk false [])) (RRat.mk (RInt.mk false []) (RInt.mk false [])))))) 2 rfl ze28 zo28 rfl) rfl rfl rfl rfl <| sT (t_std (d := (encG (RRng.mk (RRat.mk (RInt.mk false []) (RInt.mk false [])) (RRat.mk (RInt.mk false []) (RInt.mk false []))))) (cs := (bx (encG (RRng.mk (RRat.mk (RInt.mk false []) (RInt.mk false [])) (RRat.mk (RInt.mk false []) (RInt.mk false [])))))) rfl rfl rfl sh28 rfl rfl rfl rfl) rfl rfl rfl <| sM (vi 14) rfl rfl <| sNil rfl rfl
  refine pwp_seq ?_
  refine pwp_D (S' := [(0, (vb true))]) (B' := []) mo (by kernel_rfl) ?_ ?_
  · skip
    exact dM (vi 0) rfl rfl rfl <| dE' (e_eql rfl rfl rfl) rfl rfl <| dM (vb true) rfl rfl rfl <| dM (vi 0) rfl rfl rfl <| dE' (e_eql rfl rfl rfl) rfl rfl <| dE' (e_pkt (z := (vb true)) rfl rfl rfl) rfl rfl <| dM (vb true) rfl rfl rfl <| dM (vi 14) rfl rfl rfl <| dE' (e_eql rfl rfl rfl) rfl rfl <| dE' (e_pkt (z := (vb true)) rfl rfl rfl) rfl rfl <| dM (vb true) rfl rfl rfl <| dR (e_lda (cs := (bx (encG (RRng.mk (ofQ (mnL (((-1 : Int) : Rat) * ((3 : Int) : Rat)) [(((-1 : Int) : Rat) * ((4 : Int) : Rat)), (((2 : Int) : Rat) * ((3 : Int) : Rat)), (((2 : Int) : Rat) * ((4 : Int) : Rat))])) (ofQ (mxL (((-1 : Int) : Rat) * ((3 : Int) : Rat)) [(((-1 : Int) : Rat) * ((4 : Int) : Rat)), (((2 : Int) : Rat) * ((3 : Int) : Rat)), (((2 : Int) : Rat) * ((4 : Int) : Rat))])))))) (y := (.d (encG (RRng.mk (ofQ (mnL (((-1 : Int) : Rat) * ((3 : Int) : Rat)) [(((-1 : Int) : Rat) * ((4 : Int) : Rat)), (((2 : Int) : Rat) * ((3 : Int) : Rat)), (((2 : Int) : Rat) * ((4 : Int) : Rat))])) (ofQ (mxL (((-1 : Int) : Rat) * ((3 : Int) : Rat)) [(((-1 : Int) : Rat) * ((4 : Int) : Rat)), (((2 : Int) : Rat) * ((3 : Int) : Rat)), (((2 : Int) : Rat) * ((4 : Int) : Rat))])))))) rfl rfl sh28 rfl rfl) rfl rfl rfl rfl rfl <| dE' (e_cl (l_whole (-4) 8 (by decide) (by decide) (by decide) (by decide)) rfl rfl rfl) rfl rfl <| dE' (e_cl (by have h := l_same (RRng.mk (ofQ (mnL (((-1 : Int) : Rat) * ((3 : Int) : Rat)) [(((-1 : Int) : Rat) * ((4 : Int) : Rat)), (((2 : Int) : Rat) * ((3 : Int) : Rat)), (((2 : Int) : Rat) * ((4 : Int) : Rat))])) (ofQ (mxL (((-1 : Int) : Rat) * ((3 : Int) : Rat)) [(((-1 : Int) : Rat) * ((4 : Int) : Rat)), (((2 : Int) : Rat) * ((3 : Int) : Rat)), (((2 : Int) : Rat) * ((4 : Int) : Rat))]))) (RRng.mk (ofQ ((-4 : Int) : Rat)) (ofQ ((8 : Int) : Rat))) (gok_up (⟨qok_self (qok_up (qok_of (ql_mnL (ql_mul (k := 2) (ql_int (z := (-1)) (lenZ_one (by decide)) (by decide)) (ql_int (z := 3) (lenZ_one (by decide)) (by decide)) (by decide)) (List.forall_mem_cons.2 ⟨(ql_mul (k := 2) (ql_int (z := (-1)) (lenZ_one (by decide)) (by decide)) (ql_int (z := 4) (lenZ_one (by decide)) (by decide)) (by decide)), (List.forall_mem_cons.2 ⟨(ql_mul (k := 2) (ql_int (z := 2) (lenZ_one (by decide)) (by decide)) (ql_int (z := 3) (lenZ_one (by decide)) (by decide)) (by decide)), (List.forall_mem_cons.2 ⟨(ql_mul (k := 2) (ql_int (z := 2) (lenZ_one (by decide)) (by decide)) (ql_int (z := 4) (lenZ_one (by decide)) (by decide)) (by decide)), (fun a h => by cases h)⟩)⟩)⟩))) (by decide : 2 ≤ 2)), qok_self (qok_up (qok_of (ql_mxL (ql_mul (k := 2) (ql_int (z := (-1)) (lenZ_one (by decide)) (by decide)) (ql_int (z := 3) (lenZ_one (by decide)) (by decide)) (by decide)) (List.forall_mem_cons.2 ⟨(ql_mul (k := 2) (ql_int (z := (-1)) (lenZ_one (by decide)) (by decide)) (ql_int (z := 4) (lenZ_one (by decide)) (by decide)) (by decide)), (List.forall_mem_cons.2 ⟨(ql_mul (k := 2) (ql_int (z := 2) (lenZ_one (by decide)) (by decide)) (ql_int (z := 3) (lenZ_one (by decide)) (by decide)) (by decide)), (List.forall_mem_cons.2 ⟨(ql_mul (k := 2) (ql_int (z := 2) (lenZ_one (by decide)) (by decide)) (ql_int (z := 4) (lenZ_one (by decide)) (by decide)) (by decide)), (fun a h => by cases h)⟩)⟩)⟩))) (by decide : 2 ≤ 2))⟩) (by decide)) (gok_up (⟨qok_self (qok_up (qok_of (ql_int (z := (-4)) (lenZ_one (by decide)) (by decide))) (by decide : 1 ≤ 1)), qok_self (qok_up (qok_of (ql_int (z := 8) (lenZ_one (by decide)) (by decide))) (by decide : 1 ≤ 1))⟩) (by decide)); rw [show sameG (RRng.mk (ofQ (mnL (((-1 : Int) : Rat) * ((3 : Int) : Rat)) [(((-1 : Int) : Rat) * ((4 : Int) : Rat)), (((2 : Int) : Rat) * ((3 : Int) : Rat)), (((2 : Int) : Rat) * ((4 : Int) : Rat))])) (ofQ (mxL (((-1 : Int) : Rat) * ((3 : Int) : Rat)) [(((-1 : Int) : Rat) * ((4 : Int) : Rat)), (((2 : Int) : Rat) * ((3 : Int) : Rat)), (((2 : Int) : Rat) * ((4 : Int) : Rat))]))) (RRng.mk (ofQ ((-4 : Int) : Rat)) (ofQ ((8 : Int) : Rat))) = true from by rw [sameG_of]; kernel_rfl] at h; exact h) rfl rfl rfl) rfl rfl <| dE' (e_pkt (z := (vb true)) rfl rfl rfl) rfl rfl <| dM (vb true) rfl rfl rfl <| dR (e_lda (cs := (bx (encG (RRng.mk (ofQ (sqL ((-1 : Int) : Rat) ((2 : Int) : Rat))) (ofQ (sqH ((-1 : Int) : Rat) ((2 : Int) : Rat))))))) (y := (.d (encG (RRng.mk (ofQ (sqL ((-1 : Int) : Rat) ((2 : Int) : Rat))) (ofQ (sqH ((-1 : Int) : Rat) ((2 : Int) : Rat))))))) rfl rfl sh28 rfl rfl) rfl rfl rfl rfl rfl <| dE' (e_cl (l_whole 0 4 (by decide) (by decide) (by decide) (by decide)) rfl rfl rfl) rfl rfl <| dE' (e_cl (by have h := l_same (RRng.mk (ofQ (sqL ((-1 : Int) : Rat) ((2 : Int) : Rat))) (ofQ (sqH ((-1 : Int) : Rat) ((2 : Int) : Rat)))) (RRng.mk (ofQ ((0 : Int) : Rat)) (ofQ ((4 : Int) : Rat))) (gok_up (⟨qok_self (qok_up (qok_of (ql_sqL (ql_mul (k := 2) (ql_int (z := (-1)) (lenZ_one (by decide)) (by decide)) (ql_int (z := (-1)) (lenZ_one (by decide)) (by decide)) (by decide)) (ql_mul (k := 2) (ql_int (z := 2) (lenZ_one (by decide)) (by decide)) (ql_int (z := 2) (lenZ_one (by decide)) (by decide)) (by decide)))) (by decide : 2 ≤ 2)), qok_self (qok_up (qok_of (ql_sqH (ql_mul (k := 2) (ql_int (z := (-1)) (lenZ_one (by decide)) (by decide)) (ql_int (z := (-1)) (lenZ_one (by decide)) (by decide)) (by decide)) (ql_mul (k := 2) (ql_int (z := 2) (lenZ_one (by decide)) (by decide)) (ql_int (z := 2) (lenZ_one (by decide)) (by decide)) (by decide)))) (by decide : 2 ≤ 2))⟩) (by decide)) (gok_up (⟨qok_self (qok_up (qok_of (ql_int (z := 0) (lenZ_one (by decide)) (by decide))) (by decide : 1 ≤ 1)), qok_self (qok_up (qok_of (ql_int (z := 4) (lenZ_one (by decide)) (by decide))) (by decide : 1 ≤ 1))⟩) (by decide)); rw [show sameG (RRng.mk (ofQ (sqL ((-1 : Int) : Rat) ((2 : Int) : Rat))) (ofQ (sqH ((-1 : Int) : Rat) ((2 : Int) : Rat)))) (RRng.mk (ofQ ((0 : Int) : Rat)) (ofQ ((4 : Int) : Rat))) = true from by rw [sameG_of]; kernel_rfl] at h; exact h) rfl rfl rfl) rfl rfl <| dE' (e_pkt (z := (vb true)) rfl rfl rfl) rfl rfl <| dM (vb true) rfl rfl rfl <| dE' (e_cl (l_whole 0 1 (by decide) (by decide) (by decide) (by decide)) rfl rfl rfl) rfl rfl <| dE' (e_cl (by have h := i_valid (RRng.mk (ofQ ((0 : Int) : Rat)) (ofQ ((1 : Int) : Rat))) (gok_up (⟨qok_self (qok_up (qok_of (ql_int (z := 0) (lenZ_one (by decide)) (by decide))) (by decide : 1 ≤ 1)), qok_self (qok_up (qok_of (ql_int (z := 1) (lenZ_one (by decide)) (by decide))) (by decide : 1 ≤ 1))⟩) (by decide)); rw [show validG (RRng.mk (ofQ ((0 : Int) : Rat)) (ofQ ((1 : Int) : Rat))) = true from validG_of (by decide : ((0 : Int) : Rat) ≤ ((1 : Int) : Rat))] at h; exact h) rfl rfl rfl) rfl rfl <| dE' (e_pkt (z := (vb true)) rfl rfl rfl) rfl rfl <| dM (vb true) rfl rfl rfl <| dE' (e_cl (l_whole 1 0 (by decide) (by decide) (by decide) (by decide)) rfl rfl rfl) rfl rfl <| dE' (e_cl (by have h := i_valid (RRng.mk (ofQ ((1 : Int) : Rat)) (ofQ ((0 : Int) : Rat))) (gok_up (⟨qok_self (qok_up (qok_of (ql_int (z := 1) (lenZ_one (by decide)) (by decide))) (by decide : 1 ≤ 1)), qok_self (qok_up (qok_of (ql_int (z := 0) (lenZ_one (by decide)) (by decide))) (by decide : 1 ≤ 1))⟩) (by decide)); rw [show validG (RRng.mk (ofQ ((1 : Int) : Rat)) (ofQ ((0 : Int) : Rat))) = false from validG_no (by decide)] at h; exact h) rfl rfl rfl) rfl rfl <| dE' (e_not (b := false) rfl rfl) rfl rfl <| dE' (e_pkt (z := (vb true)) rfl rfl rfl) rfl rfl <| dM (vb true) rfl rfl rfl <| dNil rfl rfl (by kernel_rfl)
  refine pwp_ret ⟨_, (.tmp (d := (.val (.bool (true)))) rfl .nil), ?_⟩
  rfl
end Go.Proofs.YtcdgmcfkhkikbaaGreat
