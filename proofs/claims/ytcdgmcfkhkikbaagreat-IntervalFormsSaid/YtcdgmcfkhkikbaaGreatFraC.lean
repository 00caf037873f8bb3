/-
  Functions walked: each takes its data to what is said. Printed by a program of ours.
-/
import Derived.Test.YtcdgmcfkhkikbaaGreatFraB
namespace Go.Proofs.YtcdgmcfkhkikbaaGreat
open Go.Fid
set_option maxRecDepth 4000
set_option linter.unusedVariables false
set_option linter.unusedSimpArgs false
theorem cb65 : callB Tryz.prog 65 = true := by kernel_rfl
theorem cb100 : callB Tryz.prog 100 = true := by kernel_rfl
theorem cb126 : callB Tryz.prog 126 = true := by kernel_rfl
theorem fo28_0 : fieldB Tryz.prog 28 0 = some 0 := by kernel_rfl
theorem fo28_1 : fieldB Tryz.prog 28 1 = some 4 := by kernel_rfl
theorem g_same (x : RRat) (y : RRat) (p : Rat) (q : Rat) (hx : QOk x p 4294967296) (hy : QOk y q 4294967296) : Takes Tryz.prog 100 [(encR x), (encR y)] (.val (.bool ((sameR x y)))) := by
  refine fn_intro Tryz.func100 rfl cb100 rfl ?_
  show PWp _ _ _ _ ⟨[(0, (.d (encR x))), (1, (.d (encR y)))], []⟩
  refine pwp_seq ?_
  refine pwp_S (S' := [(2, (.ref 0 0)), (3, (.ref 1 0))]) (B' := [(0, some (bx (encR x))), (1, some (bx (encR y)))]) ?_ ?_
  · skip
    exact sN (n_bx (d := (encR x)) (cs := (bx (encR x))) 0 rfl rfl rfl rfl) rfl rfl rfl rfl <| sN (n_bx (d := (encR y)) (cs := (bx (encR y))) 1 rfl rfl rfl rfl) rfl rfl rfl rfl <| sM (vb false) rfl rfl <| sNil rfl rfl
  refine pwp_seq ?_
  refine pwp_S (S' := [(4, (vb (((validR x) && (validR y)) && ((cmpQ p q) == 0))))]) (B' := []) ?_ ?_
  · skip
    refine sR (e_lda (cs := (bx (encR x))) (y := (.d (encR x))) rfl rfl sh26 rfl rfl) rfl rfl rfl rfl <| sE' (e_cl (g_valid x p (qok_up hx (by decide))) rfl rfl rfl) rfl <| sM (vb (validR x)) rfl rfl <| ?_
    rcases hb1 : (validR x) with _ | _
    · skip
      exact sK rfl rfl rfl <| sK rfl rfl rfl <| sE' (e_pkf (z := (vb false)) rfl rfl rfl) rfl <| sM (vb false) rfl rfl <| sK rfl rfl rfl <| sK rfl rfl rfl <| sK rfl rfl rfl <| sK rfl rfl rfl <| sE' (e_pkf (z := (vb false)) rfl rfl rfl) rfl <| sM (vb false) rfl rfl <| sNil rfl rfl
    · skip
      refine sR (e_lda (cs := (bx (encR y))) (y := (.d (encR y))) rfl rfl sh26 rfl rfl) rfl rfl rfl rfl <| sE' (e_cl (g_valid y q (qok_up hy (by decide))) rfl rfl rfl) rfl <| sE' (e_pkta rfl rfl rfl) rfl <| sM (vb (true && (validR y))) rfl rfl <| ?_
      rcases hb2 : (true && (validR y)) with _ | _
      · skip
        exact sK rfl rfl rfl <| sK rfl rfl rfl <| sK rfl rfl rfl <| sK rfl rfl rfl <| sE' (e_pkf (z := (vb false)) rfl rfl rfl) rfl <| sM (vb false) rfl rfl <| sNil rfl rfl
      · skip
        exact sR (e_lda (cs := (bx (encR x))) (y := (.d (encR x))) rfl rfl sh26 rfl rfl) rfl rfl rfl rfl <| sR (e_lda (cs := (bx (encR y))) (y := (.d (encR y))) rfl rfl sh26 rfl rfl) rfl rfl rfl rfl <| sE' (e_cl (g_compare x y p q hx hy) rfl rfl rfl) rfl <| sE' (e_eql rfl rfl rfl) rfl <| sE' (e_pkta rfl rfl rfl) rfl <| sM (vb (true && ((cmpQ p q) == 0))) rfl rfl <| sNil rfl rfl
  refine pwp_ret ⟨_, (.tmp (d := (.val (.bool ((((validR x) && (validR y)) && ((cmpQ p q) == 0)))))) rfl .nil), ?_⟩
  unfold sameR
  rw [← sameR_eq, hx.v, hy.v]; rfl
theorem g_digits (x : RRat) (p : Rat) (hx : QOk x p 140737488355328) : Takes Tryz.prog 65 [(encR x)] (.val (.int .i64 ((((digR x) : Nat) : Int)))) := by
  have h1 := hx.n1
  have h2 := hx.n2
  refine fn_intro Tryz.func65 rfl cb65 rfl ?_
  show PWp _ _ _ _ ⟨[(0, (.d (encR x)))], []⟩
  refine pwp_seq ?_
  refine pwp_S (S' := [(1, (.ref 0 0))]) (B' := [(0, some (bx (encR x)))]) ?_ ?_
  · skip
    exact sN (n_bx (d := (encR x)) (cs := (bx (encR x))) 0 rfl rfl rfl rfl) rfl rfl rfl rfl <| sM (vin 0) rfl rfl <| sNil rfl rfl
  refine pwp_seq ?_
  refine pwp_S (S' := [(2, (vin (x.num.gs.length + x.den.gs.length)))]) (B' := []) ?_ ?_
  · skip
    exact sE' (e_fldr (q := 0) rfl rfl fo26_0 rfl) rfl <| sE' (e_fldr (q := 1) rfl rfl fo24_1 rfl) rfl <| sR (e_ld1 (cs := (bx (encR x))) (y := (vl 83 1 enc_u32 x.num.gs)) rfl rfl sh22 rfl) rfl rfl rfl rfl <| sE' (e_ln (r := ((x.num.gs.length : Nat) : Int)) rfl el22 rfl (by simp)) rfl <| sE' (e_fldr (q := 2) rfl rfl fo26_1 rfl) rfl <| sE' (e_fldr (q := 3) rfl rfl fo24_1 rfl) rfl <| sR (e_ld1 (cs := (bx (encR x))) (y := (vl 83 1 enc_u32 x.den.gs)) rfl rfl sh22 rfl) rfl rfl rfl rfl <| sE' (e_ln (r := ((x.den.gs.length : Nat) : Int)) rfl el22 rfl (by simp)) rfl <| sE' (e_add (r := (((x.num.gs.length + x.den.gs.length) : Nat) : Int)) rfl rfl rfl (wi64 (by omega) (by omega) (by omega))) rfl <| sM (vin (x.num.gs.length + x.den.gs.length)) rfl rfl <| sNil rfl rfl
  refine pwp_ret ⟨_, (.tmp (d := (.val (.int .i64 ((((x.num.gs.length + x.den.gs.length) : Nat) : Int))))) rfl .nil), ?_⟩
  rfl
theorem g_samerange (a b : RRng) (ha : GOk 4294967296 a) (hb : GOk 4294967296 b) : Takes Tryz.prog 126 [(encG a), (encG b)] (.val (.bool ((sameR a.lo b.lo && sameR a.hi b.hi)))) := by
  refine fn_intro Tryz.func126 rfl cb126 rfl ?_
  show PWp _ _ _ _ ⟨[(0, (.d (encG a))), (1, (.d (encG b)))], []⟩
  refine pwp_seq ?_
  refine pwp_S (S' := [(2, (.ref 0 0)), (3, (.ref 1 0))]) (B' := [(0, some (bx (encG a))), (1, some (bx (encG b)))]) ?_ ?_
  · skip
    exact sN (n_bx (d := (encG a)) (cs := (bx (encG a))) 0 rfl rfl rfl rfl) rfl rfl rfl rfl <| sN (n_bx (d := (encG b)) (cs := (bx (encG b))) 1 rfl rfl rfl rfl) rfl rfl rfl rfl <| sM (vb false) rfl rfl <| sNil rfl rfl
  refine pwp_seq ?_
  refine pwp_S (S' := [(4, (vb ((sameR a.lo b.lo) && (sameR a.hi b.hi))))]) (B' := []) ?_ ?_
  · skip
    refine sE' (e_fldr (q := 0) rfl rfl fo28_0 rfl) rfl <| sR (e_lda (cs := (bx (encG a))) (y := (.d (encR a.lo))) rfl rfl sh26 rfl rfl) rfl rfl rfl rfl <| sE' (e_fldr (q := 0) rfl rfl fo28_0 rfl) rfl <| sR (e_lda (cs := (bx (encG b))) (y := (.d (encR b.lo))) rfl rfl sh26 rfl rfl) rfl rfl rfl rfl <| sE' (e_cl (g_same a.lo b.lo (toQ a.lo) (toQ b.lo) ha.1 hb.1) rfl rfl rfl) rfl <| sM (vb (sameR a.lo b.lo)) rfl rfl <| ?_
    rcases hb1 : (sameR a.lo b.lo) with _ | _
    · skip
      exact sK rfl rfl rfl <| sK rfl rfl rfl <| sK rfl rfl rfl <| sK rfl rfl rfl <| sK rfl rfl rfl <| sE' (e_pkf (z := (vb false)) rfl rfl rfl) rfl <| sM (vb false) rfl rfl <| sNil rfl rfl
    · skip
      exact sE' (e_fldr (q := 4) rfl rfl fo28_1 rfl) rfl <| sR (e_lda (cs := (bx (encG a))) (y := (.d (encR a.hi))) rfl rfl sh26 rfl rfl) rfl rfl rfl rfl <| sE' (e_fldr (q := 4) rfl rfl fo28_1 rfl) rfl <| sR (e_lda (cs := (bx (encG b))) (y := (.d (encR b.hi))) rfl rfl sh26 rfl rfl) rfl rfl rfl rfl <| sE' (e_cl (g_same a.hi b.hi (toQ a.hi) (toQ b.hi) ha.2 hb.2) rfl rfl rfl) rfl <| sE' (e_pkta rfl rfl rfl) rfl <| sM (vb (true && (sameR a.hi b.hi))) rfl rfl <| sNil rfl rfl
  refine pwp_ret ⟨_, (.tmp (d := (.val (.bool (((sameR a.lo b.lo) && (sameR a.hi b.hi)))))) rfl .nil), ?_⟩
  rfl
end Go.Proofs.YtcdgmcfkhkikbaaGreat
