/-
  Functions walked: each takes its data to what is said. Printed by a program of ours.
-/
import Derived.Test.YtcdgmcfkhkikbaaGreatIvC
import Derived.Test.YtcdgmcfkhkikbaaGreatBound
namespace Go.Proofs.YtcdgmcfkhkikbaaGreat
open Go.Fid
set_option maxRecDepth 4000
set_option linter.unusedVariables false
set_option linter.unusedSimpArgs false
theorem cb15 : callB Tryz.prog 15 = true := by kernel_rfl
theorem cb32 : callB Tryz.prog 32 = true := by kernel_rfl
theorem cb33 : callB Tryz.prog 33 = true := by kernel_rfl
theorem cb68 : callB Tryz.prog 68 = true := by kernel_rfl
theorem cb99 : callB Tryz.prog 99 = true := by kernel_rfl
theorem g_zero (x : RRat) (p : Rat) (hx : QOk x p 140737488355328) : Takes Tryz.prog 99 [(encR x)] (.val (.bool ((zeroR x)))) := by
  have h1 := hx.n1
  have h2 := hx.n2
  refine fn_intro Tryz.func99 rfl cb99 rfl ?_
  show PWp _ _ _ _ ⟨[(0, (.d (encR x)))], []⟩
  refine pwp_seq ?_
  refine pwp_S (S' := [(1, (.ref 0 0))]) (B' := [(0, some (bx (encR x)))]) ?_ ?_
  · skip
    exact sN (n_bx (d := (encR x)) (cs := (bx (encR x))) 0 rfl rfl rfl rfl) rfl rfl rfl rfl <| sM (vb false) rfl rfl <| sNil rfl rfl
  refine pwp_seq ?_
  refine pwp_S (S' := [(2, (vb (((!x.num.neg && !x.den.neg) && (((x.num.gs.length : Nat) : Int) == 0)) && (((x.den.gs.length : Nat) : Int) == 0))))]) (B' := []) ?_ ?_
  · skip
    refine sE' (e_fldr (q := 0) rfl rfl fo26_0 rfl) rfl <| sE' (e_fldr (q := 0) rfl rfl fo24_0 rfl) rfl <| sR (e_ld1 (cs := (bx (encR x))) (y := (vb x.num.neg)) rfl rfl sh4 rfl) rfl rfl rfl rfl <| sE' (e_not rfl rfl) rfl <| sM (vb (!x.num.neg)) rfl rfl <| ?_
    rcases hb1 : (!x.num.neg) with _ | _
    · skip
      exact sK rfl rfl rfl <| sK rfl rfl rfl <| sK rfl rfl rfl <| sK rfl rfl rfl <| sE' (e_pkf (z := (vb false)) rfl rfl rfl) rfl <| sM (vb false) rfl rfl <| sK rfl rfl rfl <| sK rfl rfl rfl <| sK rfl rfl rfl <| sK rfl rfl rfl <| sK rfl rfl rfl <| sE' (e_pkf (z := (vb false)) rfl rfl rfl) rfl <| sM (vb false) rfl rfl <| sK rfl rfl rfl <| sK rfl rfl rfl <| sK rfl rfl rfl <| sK rfl rfl rfl <| sK rfl rfl rfl <| sE' (e_pkf (z := (vb false)) rfl rfl rfl) rfl <| sM (vb false) rfl rfl <| sNil rfl rfl
    · skip
      refine sE' (e_fldr (q := 2) rfl rfl fo26_1 rfl) rfl <| sE' (e_fldr (q := 2) rfl rfl fo24_0 rfl) rfl <| sR (e_ld1 (cs := (bx (encR x))) (y := (vb x.den.neg)) rfl rfl sh4 rfl) rfl rfl rfl rfl <| sE' (e_not rfl rfl) rfl <| sE' (e_pkta rfl rfl rfl) rfl <| sM (vb (true && !x.den.neg)) rfl rfl <| ?_
      rcases hb2 : (true && !x.den.neg) with _ | _
      · skip
        exact sK rfl rfl rfl <| sK rfl rfl rfl <| sK rfl rfl rfl <| sK rfl rfl rfl <| sK rfl rfl rfl <| sE' (e_pkf (z := (vb false)) rfl rfl rfl) rfl <| sM (vb false) rfl rfl <| sK rfl rfl rfl <| sK rfl rfl rfl <| sK rfl rfl rfl <| sK rfl rfl rfl <| sK rfl rfl rfl <| sE' (e_pkf (z := (vb false)) rfl rfl rfl) rfl <| sM (vb false) rfl rfl <| sNil rfl rfl
      · skip
        refine sE' (e_fldr (q := 0) rfl rfl fo26_0 rfl) rfl <| sE' (e_fldr (q := 1) rfl rfl fo24_1 rfl) rfl <| sR (e_ld1 (cs := (bx (encR x))) (y := (vl 83 1 enc_u32 x.num.gs)) rfl rfl sh22 rfl) rfl rfl rfl rfl <| sE' (e_ln (r := ((x.num.gs.length : Nat) : Int)) rfl el22 rfl (by simp)) rfl <| sE' (e_eql rfl rfl rfl) rfl <| sE' (e_pkta rfl rfl rfl) rfl <| sM (vb (true && (((x.num.gs.length : Nat) : Int) == 0))) rfl rfl <| ?_
        rcases hb3 : (true && (((x.num.gs.length : Nat) : Int) == 0)) with _ | _
        · skip
          exact sK rfl rfl rfl <| sK rfl rfl rfl <| sK rfl rfl rfl <| sK rfl rfl rfl <| sK rfl rfl rfl <| sE' (e_pkf (z := (vb false)) rfl rfl rfl) rfl <| sM (vb false) rfl rfl <| sNil rfl rfl
        · skip
          exact sE' (e_fldr (q := 2) rfl rfl fo26_1 rfl) rfl <| sE' (e_fldr (q := 3) rfl rfl fo24_1 rfl) rfl <| sR (e_ld1 (cs := (bx (encR x))) (y := (vl 83 1 enc_u32 x.den.gs)) rfl rfl sh22 rfl) rfl rfl rfl rfl <| sE' (e_ln (r := ((x.den.gs.length : Nat) : Int)) rfl el22 rfl (by simp)) rfl <| sE' (e_eql rfl rfl rfl) rfl <| sE' (e_pkta rfl rfl rfl) rfl <| sM (vb (true && (((x.den.gs.length : Nat) : Int) == 0))) rfl rfl <| sNil rfl rfl
  refine pwp_ret ⟨_, (.tmp (d := (.val (.bool ((((!x.num.neg && !x.den.neg) && (((x.num.gs.length : Nat) : Int) == 0)) && (((x.den.gs.length : Nat) : Int) == 0)))))) rfl .nil), ?_⟩
  rfl
theorem h_zero (a : RRng) (ha : GOk 140737488355328 a) : Takes Tryz.prog 68 [(encG a)] (.val (.bool ((zeroR a.lo && zeroR a.hi)))) := by
  refine fn_intro Tryz.func68 rfl cb68 rfl ?_
  show PWp _ _ _ _ ⟨[(0, (.d (encG a)))], []⟩
  refine pwp_seq ?_
  refine pwp_S (S' := [(1, (.ref 0 0))]) (B' := [(0, some (bx (encG a)))]) ?_ ?_
  · skip
    exact sN (n_bx (d := (encG a)) (cs := (bx (encG a))) 0 rfl rfl rfl rfl) rfl rfl rfl rfl <| sM (vb false) rfl rfl <| sNil rfl rfl
  refine pwp_seq ?_
  refine pwp_S (S' := [(2, (vb ((zeroR a.lo) && (zeroR a.hi))))]) (B' := []) ?_ ?_
  · skip
    refine sE' (e_fldr (q := 0) rfl rfl fo28_0 rfl) rfl <| sR (e_lda (cs := (bx (encG a))) (y := (.d (encR a.lo))) rfl rfl sh26 rfl rfl) rfl rfl rfl rfl <| sE' (e_cl (g_zero a.lo (toQ a.lo) ha.1) rfl rfl rfl) rfl <| sM (vb (zeroR a.lo)) rfl rfl <| ?_
    rcases hb1 : (zeroR a.lo) with _ | _
    · skip
      exact sK rfl rfl rfl <| sK rfl rfl rfl <| sK rfl rfl rfl <| sE' (e_pkf (z := (vb false)) rfl rfl rfl) rfl <| sM (vb false) rfl rfl <| sNil rfl rfl
    · skip
      exact sE' (e_fldr (q := 4) rfl rfl fo28_1 rfl) rfl <| sR (e_lda (cs := (bx (encG a))) (y := (.d (encR a.hi))) rfl rfl sh26 rfl rfl) rfl rfl rfl rfl <| sE' (e_cl (g_zero a.hi (toQ a.hi) ha.2) rfl rfl rfl) rfl <| sE' (e_pkta rfl rfl rfl) rfl <| sM (vb (true && (zeroR a.hi))) rfl rfl <| sNil rfl rfl
  refine pwp_ret ⟨_, (.tmp (d := (.val (.bool (((zeroR a.lo) && (zeroR a.hi)))))) rfl .nil), ?_⟩
  rfl
theorem l_resE1 (b : RRng) (hb : GOk 4294967296 b) : Takes Tryz.prog 15 [(encG (RRng.mk (RRat.mk (RInt.mk false []) (RInt.mk false [])) (RRat.mk (RInt.mk false []) (RInt.mk false [])))), (.val (.int .i64 (1))), (encG b), (.val (.int .i64 (1)))] (.val (.bool (true))) := by
  refine fn_intro Tryz.func15 rfl cb15 rfl ?_
  show PWp _ _ _ _ ⟨[(0, (.d (encG (RRng.mk (RRat.mk (RInt.mk false []) (RInt.mk false [])) (RRat.mk (RInt.mk false []) (RInt.mk false [])))))), (1, (vi 1)), (2, (.d (encG b))), (3, (vi 1))], []⟩
  refine pwp_seq ?_
  refine pwp_S (S' := [(1, (vi 1)), (3, (vi 1)), (4, (.ref 0 0)), (6, (.ref 1 0))]) (B' := [(0, some (bx (encG (RRng.mk (RRat.mk (RInt.mk false []) (RInt.mk false [])) (RRat.mk (RInt.mk false []) (RInt.mk false [])))))), (1, some (bx (encG b)))]) ?_ ?_
  · skip
    exact sN (n_bx (d := (encG (RRng.mk (RRat.mk (RInt.mk false []) (RInt.mk false [])) (RRat.mk (RInt.mk false []) (RInt.mk false []))))) (cs := (bx (encG (RRng.mk (RRat.mk (RInt.mk false []) (RInt.mk false [])) (RRat.mk (RInt.mk false []) (RInt.mk false [])))))) 0 rfl rfl rfl rfl) rfl rfl rfl rfl <| sN (n_bx (d := (encG b)) (cs := (bx (encG b))) 1 rfl rfl rfl rfl) rfl rfl rfl rfl <| sM (vb false) rfl rfl <| sNil rfl rfl
  refine pwp_seq ?_
  refine pwp_seq ?_
  refine pwp_S (S' := [(1, (vi 1)), (3, (vi 1)), (4, (.ref 0 0)), (6, (.ref 1 0)), (10, (vb true))]) (B' := [(0, some (bx (encG (RRng.mk (RRat.mk (RInt.mk false []) (RInt.mk false [])) (RRat.mk (RInt.mk false []) (RInt.mk false [])))))), (1, some (bx (encG b)))]) ?_ ?_
  · skip
    exact sM (vi 1) rfl rfl <| sE' (e_neq rfl rfl rfl) rfl <| sNil rfl rfl
  refine pwp_cond (b := true) rfl (fun _ => ?_) (fun h => by cases h)
  refine pwp_seq ?_
  refine pwp_S (S' := [(8, (vb true))]) (B' := []) ?_ ?_
  · skip
    exact sM (vi 1) rfl rfl <| sM (vi 1) rfl rfl <| sE' (e_eql rfl rfl rfl) rfl <| sM (vb true) rfl rfl <| sR (e_lda (cs := (bx (encG (RRng.mk (RRat.mk (RInt.mk false []) (RInt.mk false [])) (RRat.mk (RInt.mk false []) (RInt.mk false [])))))) (y := (.d (encG (RRng.mk (RRat.mk (RInt.mk false []) (RInt.mk false [])) (RRat.mk (RInt.mk false []) (RInt.mk false [])))))) rfl rfl sh28 rfl rfl) rfl rfl rfl rfl <| sE' (e_cl (h_zero (RRng.mk (RRat.mk (RInt.mk false []) (RInt.mk false [])) (RRat.mk (RInt.mk false []) (RInt.mk false []))) (gok_up gok_none (by decide))) rfl rfl rfl) rfl <| sE' (e_pkt (z := (vb true)) rfl rfl rfl) rfl <| sM (vb true) rfl rfl <| sNil rfl rfl
  refine pwp_ret ⟨_, (.tmp (d := (.val (.bool (true)))) rfl .nil), ?_⟩
  rfl
theorem l_resO (a b : RRng) (ha : GOk 4294967296 a) (hb : GOk 4294967296 b) : Takes Tryz.prog 15 [(encG a), (.val (.int .i64 (0))), (encG b), (.val (.int .i64 (0)))] (.val (.bool ((sameG a b)))) := by
  refine fn_intro Tryz.func15 rfl cb15 rfl ?_
  show PWp _ _ _ _ ⟨[(0, (.d (encG a))), (1, (vi 0)), (2, (.d (encG b))), (3, (vi 0))], []⟩
  refine pwp_seq ?_
  refine pwp_S (S' := [(1, (vi 0)), (3, (vi 0)), (4, (.ref 0 0)), (6, (.ref 1 0))]) (B' := [(0, some (bx (encG a))), (1, some (bx (encG b)))]) ?_ ?_
  · skip
    exact sN (n_bx (d := (encG a)) (cs := (bx (encG a))) 0 rfl rfl rfl rfl) rfl rfl rfl rfl <| sN (n_bx (d := (encG b)) (cs := (bx (encG b))) 1 rfl rfl rfl rfl) rfl rfl rfl rfl <| sM (vb false) rfl rfl <| sNil rfl rfl
  refine pwp_seq ?_
  refine pwp_seq ?_
  refine pwp_S (S' := [(1, (vi 0)), (3, (vi 0)), (4, (.ref 0 0)), (6, (.ref 1 0)), (10, (vb false))]) (B' := [(0, some (bx (encG a))), (1, some (bx (encG b)))]) ?_ ?_
  · skip
    exact sM (vi 0) rfl rfl <| sE' (e_neq rfl rfl rfl) rfl <| sNil rfl rfl
  refine pwp_cond (b := false) rfl (fun h => by cases h) (fun _ => ?_)
  refine pwp_skip ?_
  refine pwp_seq ?_
  refine pwp_S (S' := [(8, (vb (true && (sameG a b))))]) (B' := []) ?_ ?_
  · skip
    exact sM (vi 0) rfl rfl <| sE' (e_eql rfl rfl rfl) rfl <| sM (vb true) rfl rfl <| sR (e_lda (cs := (bx (encG a))) (y := (.d (encG a))) rfl rfl sh28 rfl rfl) rfl rfl rfl rfl <| sR (e_lda (cs := (bx (encG b))) (y := (.d (encG b))) rfl rfl sh28 rfl rfl) rfl rfl rfl rfl <| sE' (e_cl (l_same a b ha hb) rfl rfl rfl) rfl <| sE' (e_pkta rfl rfl rfl) rfl <| sM (vb (true && (sameG a b))) rfl rfl <| sNil rfl rfl
  refine pwp_ret ⟨_, (.tmp (d := (.val (.bool ((true && (sameG a b)))))) rfl .nil), ?_⟩
  rfl
end Go.Proofs.YtcdgmcfkhkikbaaGreat
