/-
  Functions walked: each takes its data to what is said. Printed by a program of ours.
-/
import Derived.Test.YtcdgmcfkhkikbaaFraB
namespace Go.Proofs.Ytcdgmcfkhkikbaa
open Go.Fid
set_option maxRecDepth 4000
theorem cb10 : callB Try.prog 10 = true := by kernel_rfl
theorem cb16 : callB Try.prog 16 = true := by kernel_rfl
theorem cb54 : callB Try.prog 54 = true := by kernel_rfl
theorem fo28_0 : fieldB Try.prog 28 0 = some 0 := by kernel_rfl
theorem fo28_1 : fieldB Try.prog 28 1 = some 4 := by kernel_rfl
theorem g_same (x : RRat) (y : RRat) (p : Rat) (q : Rat) (hx : QOk x p 4294967296) (hy : QOk y q 4294967296) : Takes Try.prog 10 [(encR x), (encR y)] (.val (.bool ((sameR x y)))) := by
  refine fn_intro Try.func10 rfl cb10 rfl ?_
  show PWp _ _ _ _ ⟨[(0, (.d (encR x))), (1, (.d (encR y)))], []⟩
  refine pwp_seq ?_
  refine pwp_S (S' := [(0, (.d (encR x))), (1, (.d (encR y))), (2, (.ref 0 0)), (3, (.ref 1 0)), (4, (.d (.val (.bool (false)))))]) (B' := [(0, some (bx (encR x))), (1, some (bx (encR y)))]) ?_ ?_
  · skip
    exact sN (n_bx (d := (encR x)) (cs := (bx (encR x))) 0 rfl rfl rfl rfl) rfl rfl rfl rfl <| sN (n_bx (d := (encR y)) (cs := (bx (encR y))) 1 rfl rfl rfl rfl) rfl rfl rfl rfl <| sE (e_asg (y := (.d (.val (.bool (false))))) rfl rfl) rfl rfl rfl <| sNil rfl rfl
  refine pwp_seq ?_
  refine pwp_S (S' := [(0, (.d (encR x))), (1, (.d (encR y))), (2, (.ref 0 0)), (3, (.ref 1 0)), (4, (.d (.val (.bool ((((validR x) && (validR y)) && ((cmpQ p q) == 0)))))))]) (B' := [(0, some (bx (encR x))), (1, some (bx (encR y)))]) ?_ ?_
  · skip
    refine sR (e_lda (cs := (bx (encR x))) (y := (.d (encR x))) rfl rfl sh26 rfl rfl) rfl rfl rfl rfl <| sE (e_cl (g_valid x p (qok_up hx (by decide))) rfl rfl rfl) rfl rfl rfl <| sE (e_mov (y := (.d (.val (.bool ((validR x)))))) rfl rfl) rfl rfl rfl <| ?_
    rcases hb1 : (validR x) with _ | _
    · skip
      exact sK rfl rfl rfl <| sK rfl rfl rfl <| sE (e_pkf (z := (.d (.val (.bool (false))))) rfl rfl rfl) rfl rfl rfl <| sE (e_mov (y := (.d (.val (.bool (false))))) rfl rfl) rfl rfl rfl <| sK rfl rfl rfl <| sK rfl rfl rfl <| sK rfl rfl rfl <| sK rfl rfl rfl <| sE (e_pkf (z := (.d (.val (.bool (false))))) rfl rfl rfl) rfl rfl rfl <| sE (e_asg (y := (.d (.val (.bool (false))))) rfl rfl) rfl rfl rfl <| sNil rfl rfl
    · skip
      refine sR (e_lda (cs := (bx (encR y))) (y := (.d (encR y))) rfl rfl sh26 rfl rfl) rfl rfl rfl rfl <| sE (e_cl (g_valid y q (qok_up hy (by decide))) rfl rfl rfl) rfl rfl rfl <| sE (e_pkta rfl rfl rfl) rfl rfl rfl <| sE (e_mov (y := (.d (.val (.bool ((true && (validR y))))))) rfl rfl) rfl rfl rfl <| ?_
      rcases hb2 : (true && (validR y)) with _ | _
      · skip
        exact sK rfl rfl rfl <| sK rfl rfl rfl <| sK rfl rfl rfl <| sK rfl rfl rfl <| sE (e_pkf (z := (.d (.val (.bool (false))))) rfl rfl rfl) rfl rfl rfl <| sE (e_asg (y := (.d (.val (.bool (false))))) rfl rfl) rfl rfl rfl <| sNil rfl rfl
      · skip
        exact sR (e_lda (cs := (bx (encR x))) (y := (.d (encR x))) rfl rfl sh26 rfl rfl) rfl rfl rfl rfl <| sR (e_lda (cs := (bx (encR y))) (y := (.d (encR y))) rfl rfl sh26 rfl rfl) rfl rfl rfl rfl <| sE (e_cl (g_compare x y p q hx hy) rfl rfl rfl) rfl rfl rfl <| sE (e_eql rfl rfl rfl) rfl rfl rfl <| sE (e_pkta rfl rfl rfl) rfl rfl rfl <| sE (e_asg (y := (.d (.val (.bool ((true && ((cmpQ p q) == 0))))))) rfl rfl) rfl rfl rfl <| sNil rfl rfl
  refine pwp_ret ⟨_, (.tmp (d := (.val (.bool ((((validR x) && (validR y)) && ((cmpQ p q) == 0)))))) rfl .nil), ?_⟩
  unfold sameR
  rw [← sameR_eq, hx.v, hy.v]; rfl

theorem g_digits (x : RRat) (p : Rat) (hx : QOk x p 140737488355328) : Takes Try.prog 16 [(encR x)] (.val (.int .i64 ((((digR x) : Nat) : Int)))) := by
  have h1 := hx.n1
  have h2 := hx.n2
  refine fn_intro Try.func16 rfl cb16 rfl ?_
  show PWp _ _ _ _ ⟨[(0, (.d (encR x)))], []⟩
  refine pwp_seq ?_
  refine pwp_S (S' := [(0, (.d (encR x))), (1, (.ref 0 0)), (2, (.d (.val (.int .i64 (0)))))]) (B' := [(0, some (bx (encR x)))]) ?_ ?_
  · skip
    exact sN (n_bx (d := (encR x)) (cs := (bx (encR x))) 0 rfl rfl rfl rfl) rfl rfl rfl rfl <| sE (e_asg (y := (.d (.val (.int .i64 (0))))) rfl rfl) rfl rfl rfl <| sNil rfl rfl
  refine pwp_seq ?_
  refine pwp_S (S' := [(0, (.d (encR x))), (1, (.ref 0 0)), (2, (.d (.val (.int .i64 ((((x.num.gs.length + x.den.gs.length) : Nat) : Int))))))]) (B' := [(0, some (bx (encR x)))]) ?_ ?_
  · skip
    exact sE (e_fldr (q := 0) rfl rfl fo26_0 rfl) rfl rfl rfl <| sE (e_fldr (q := 1) rfl rfl fo24_1 rfl) rfl rfl rfl <| sR (e_ld1 (cs := (bx (encR x))) (y := (.d (.sl 61 1 (List.map enc_u32 x.num.gs)))) rfl rfl sh22 rfl) rfl rfl rfl rfl <| sE (e_ln (r := ((x.num.gs.length : Nat) : Int)) rfl el22 rfl (by simp)) rfl rfl rfl <| sE (e_fldr (q := 2) rfl rfl fo26_1 rfl) rfl rfl rfl <| sE (e_fldr (q := 3) rfl rfl fo24_1 rfl) rfl rfl rfl <| sR (e_ld1 (cs := (bx (encR x))) (y := (.d (.sl 61 1 (List.map enc_u32 x.den.gs)))) rfl rfl sh22 rfl) rfl rfl rfl rfl <| sE (e_ln (r := ((x.den.gs.length : Nat) : Int)) rfl el22 rfl (by simp)) rfl rfl rfl <| sE (e_add (r := (((x.num.gs.length + x.den.gs.length) : Nat) : Int)) rfl rfl rfl (wi64 (by omega) (by omega) (by omega))) rfl rfl rfl <| sE (e_asg (y := (.d (.val (.int .i64 ((((x.num.gs.length + x.den.gs.length) : Nat) : Int)))))) rfl rfl) rfl rfl rfl <| sNil rfl rfl
  refine pwp_ret ⟨_, (.tmp (d := (.val (.int .i64 ((((x.num.gs.length + x.den.gs.length) : Nat) : Int))))) rfl .nil), ?_⟩
  rfl

theorem g_samerange (a b : RRng) (ha : GOk 4294967296 a) (hb : GOk 4294967296 b) : Takes Try.prog 54 [(encG a), (encG b)] (.val (.bool ((sameR a.lo b.lo && sameR a.hi b.hi)))) := by
  refine fn_intro Try.func54 rfl cb54 rfl ?_
  show PWp _ _ _ _ ⟨[(0, (.d (encG a))), (1, (.d (encG b)))], []⟩
  refine pwp_seq ?_
  refine pwp_S (S' := [(0, (.d (encG a))), (1, (.d (encG b))), (2, (.ref 0 0)), (3, (.ref 1 0)), (4, (.d (.val (.bool (false)))))]) (B' := [(0, some (bx (encG a))), (1, some (bx (encG b)))]) ?_ ?_
  · skip
    exact sN (n_bx (d := (encG a)) (cs := (bx (encG a))) 0 rfl rfl rfl rfl) rfl rfl rfl rfl <| sN (n_bx (d := (encG b)) (cs := (bx (encG b))) 1 rfl rfl rfl rfl) rfl rfl rfl rfl <| sE (e_asg (y := (.d (.val (.bool (false))))) rfl rfl) rfl rfl rfl <| sNil rfl rfl
  refine pwp_seq ?_
  refine pwp_S (S' := [(0, (.d (encG a))), (1, (.d (encG b))), (2, (.ref 0 0)), (3, (.ref 1 0)), (4, (.d (.val (.bool (((sameR a.lo b.lo) && (sameR a.hi b.hi)))))))]) (B' := [(0, some (bx (encG a))), (1, some (bx (encG b)))]) ?_ ?_
  · skip
    refine sE (e_fldr (q := 0) rfl rfl fo28_0 rfl) rfl rfl rfl <| sR (e_lda (cs := (bx (encG a))) (y := (.d (encR a.lo))) rfl rfl sh26 rfl rfl) rfl rfl rfl rfl <| sE (e_fldr (q := 0) rfl rfl fo28_0 rfl) rfl rfl rfl <| sR (e_lda (cs := (bx (encG b))) (y := (.d (encR b.lo))) rfl rfl sh26 rfl rfl) rfl rfl rfl rfl <| sE (e_cl (g_same a.lo b.lo (toQ a.lo) (toQ b.lo) ha.1 hb.1) rfl rfl rfl) rfl rfl rfl <| sE (e_mov (y := (.d (.val (.bool ((sameR a.lo b.lo)))))) rfl rfl) rfl rfl rfl <| ?_
    rcases hb1 : (sameR a.lo b.lo) with _ | _
    · skip
      exact sK rfl rfl rfl <| sK rfl rfl rfl <| sK rfl rfl rfl <| sK rfl rfl rfl <| sK rfl rfl rfl <| sE (e_pkf (z := (.d (.val (.bool (false))))) rfl rfl rfl) rfl rfl rfl <| sE (e_asg (y := (.d (.val (.bool (false))))) rfl rfl) rfl rfl rfl <| sNil rfl rfl
    · skip
      exact sE (e_fldr (q := 4) rfl rfl fo28_1 rfl) rfl rfl rfl <| sR (e_lda (cs := (bx (encG a))) (y := (.d (encR a.hi))) rfl rfl sh26 rfl rfl) rfl rfl rfl rfl <| sE (e_fldr (q := 4) rfl rfl fo28_1 rfl) rfl rfl rfl <| sR (e_lda (cs := (bx (encG b))) (y := (.d (encR b.hi))) rfl rfl sh26 rfl rfl) rfl rfl rfl rfl <| sE (e_cl (g_same a.hi b.hi (toQ a.hi) (toQ b.hi) ha.2 hb.2) rfl rfl rfl) rfl rfl rfl <| sE (e_pkta rfl rfl rfl) rfl rfl rfl <| sE (e_asg (y := (.d (.val (.bool ((true && (sameR a.hi b.hi))))))) rfl rfl) rfl rfl rfl <| sNil rfl rfl
  refine pwp_ret ⟨_, (.tmp (d := (.val (.bool (((sameR a.lo b.lo) && (sameR a.hi b.hi)))))) rfl .nil), ?_⟩
  rfl

end Go.Proofs.Ytcdgmcfkhkikbaa
