/-
  Functions walked: each takes its data to what is said. Printed by a program of ours.
-/
import Derived.Test.YtcdgmcfkhkikbaaGreatIvF
namespace Go.Proofs.YtcdgmcfkhkikbaaGreat
open Go.Fid
set_option maxRecDepth 4000
set_option linter.unusedVariables false
set_option linter.unusedSimpArgs false
theorem cb19 : callB Tryz.prog 19 = true := by kernel_rfl
theorem cb20 : callB Tryz.prog 20 = true := by kernel_rfl
theorem cb21 : callB Tryz.prog 21 = true := by kernel_rfl
theorem cb27 : callB Tryz.prog 27 = true := by kernel_rfl
theorem cb29 : callB Tryz.prog 29 = true := by kernel_rfl
theorem cb30 : callB Tryz.prog 30 = true := by kernel_rfl
theorem cb31 : callB Tryz.prog 31 = true := by kernel_rfl
theorem i_makeE (x : RRat) (p : Rat) (hx : QOk x p 17179869184) (y : RRat) (q : Rat) (hy : QOk y q 17179869184) (hv : (validR x && validR y) = false) : Takes Tryz.prog 21 [(encR x), (encR y)] (.tup [(encG (RRng.mk (RRat.mk (RInt.mk false []) (RInt.mk false [])) (RRat.mk (RInt.mk false []) (RInt.mk false [])))), (.val (.int .i64 (1)))]) := by
  refine fn_intro Tryz.func21 rfl cb21 rfl ?_
  show PWp _ _ _ _ ⟨[(0, (.d (encR x))), (1, (.d (encR y)))], []⟩
  refine pwp_seq ?_
  refine pwp_S (S' := [(2, (.ref 0 0)), (3, (.ref 1 0)), (4, (.ref 2 0))]) (B' := [(0, some (bx (encR x))), (1, some (bx (encR y))), (2, some (bx (encG (RRng.mk (RRat.mk (RInt.mk false []) (RInt.mk false [])) (RRat.mk (RInt.mk false []) (RInt.mk false []))))))]) ?_ ?_
  · skip
    exact sN (n_bx (d := (encR x)) (cs := (bx (encR x))) 0 rfl rfl rfl rfl) rfl rfl rfl rfl <| sN (n_bx (d := (encR y)) (cs := (bx (encR y))) 1 rfl rfl rfl rfl) rfl rfl rfl rfl <| sN (n_al (cs := (bx (encG (RRng.mk (RRat.mk (RInt.mk false []) (RInt.mk false [])) (RRat.mk (RInt.mk false []) (RInt.mk false [])))))) 2 rfl ze28 zo28 rfl) rfl rfl rfl rfl <| sM (vin 0) rfl rfl <| sNil rfl rfl
  refine pwp_seq ?_
  refine pwp_seq ?_
  refine pwp_S (S' := [(2, (.ref 0 0)), (3, (.ref 1 0)), (4, (.ref 2 0)), (13, (vb (!(validR x) || !(validR y))))]) (B' := [(0, some (bx (encR x))), (1, some (bx (encR y))), (2, some (bx (encG (RRng.mk (RRat.mk (RInt.mk false []) (RInt.mk false [])) (RRat.mk (RInt.mk false []) (RInt.mk false []))))))]) ?_ ?_
  · skip
    refine sR (e_lda (cs := (bx (encR x))) (y := (.d (encR x))) rfl rfl sh26 rfl rfl) rfl rfl rfl rfl <| sE' (e_cl (f_valid x p hx) rfl rfl rfl) rfl <| sE' (e_not rfl rfl) rfl <| sM (vb (!(validR x))) rfl rfl <| ?_
    rcases hb1 : (!(validR x)) with _ | _
    · skip
      exact sR (e_lda (cs := (bx (encR y))) (y := (.d (encR y))) rfl rfl sh26 rfl rfl) rfl rfl rfl rfl <| sE' (e_cl (f_valid y q hy) rfl rfl rfl) rfl <| sE' (e_not rfl rfl) rfl <| sE' (e_pkfo rfl rfl rfl) rfl <| sNil rfl rfl
    · skip
      exact sK rfl rfl rfl <| sK rfl rfl rfl <| sK rfl rfl rfl <| sE' (e_pkt (z := (vb true)) rfl rfl rfl) rfl <| sNil rfl rfl
  refine pwp_cond (b := (!(validR x) || !(validR y))) rfl (fun h2 => ?_) (fun h2 => ?_)
  · skip
    refine pwp_seq ?_
    refine pwp_S (S' := [(4, (.ref 2 0)), (5, (vin 1))]) (B' := [(2, some (bx (encG (RRng.mk (RRat.mk (RInt.mk false []) (RInt.mk false [])) (RRat.mk (RInt.mk false []) (RInt.mk false []))))))]) ?_ ?_
    · skip
      exact sE' (e_bld (pd := []) (y := (encG (RRng.mk (RRat.mk (RInt.mk false []) (RInt.mk false [])) (RRat.mk (RInt.mk false []) (RInt.mk false []))))) rfl pl28 ze28 zo28 rfl rfl rfl rfl) rfl <| sT (t_std (d := (encG (RRng.mk (RRat.mk (RInt.mk false []) (RInt.mk false [])) (RRat.mk (RInt.mk false []) (RInt.mk false []))))) (cs := (bx (encG (RRng.mk (RRat.mk (RInt.mk false []) (RInt.mk false [])) (RRat.mk (RInt.mk false []) (RInt.mk false [])))))) rfl rfl rfl sh28 rfl rfl rfl rfl) rfl rfl rfl <| sM (vin 1) rfl rfl <| sNil rfl rfl
    refine pwp_ret ⟨_, (res_a (cs := (bx (encG (RRng.mk (RRat.mk (RInt.mk false []) (RInt.mk false [])) (RRat.mk (RInt.mk false []) (RInt.mk false [])))))) (d := (encG (RRng.mk (RRat.mk (RInt.mk false []) (RInt.mk false [])) (RRat.mk (RInt.mk false []) (RInt.mk false []))))) rfl rfl sh28 rfl rfl (.tmp (d := (.val (.int .i64 (1)))) rfl .nil)), ?_⟩
    rfl
  · skip
    exfalso; revert h2 hv; cases validR x <;> cases validR y <;> simp
theorem i_makeO (x : RRat) (p : Rat) (hx : QOk x p 17179869184) (y : RRat) (q : Rat) (hy : QOk y q 17179869184) (hv : (validR x && validR y) = true) (hc : p ≤ q) : Takes Tryz.prog 21 [(encR x), (encR y)] (.tup [(encG (RRng.mk x y)), (.val (.int .i64 (0)))]) := by
  refine fn_intro Tryz.func21 rfl cb21 rfl ?_
  show PWp _ _ _ _ ⟨[(0, (.d (encR x))), (1, (.d (encR y)))], []⟩
  refine pwp_seq ?_
  refine pwp_S (S' := [(2, (.ref 0 0)), (3, (.ref 1 0)), (4, (.ref 2 0))]) (B' := [(0, some (bx (encR x))), (1, some (bx (encR y))), (2, some (bx (encG (RRng.mk (RRat.mk (RInt.mk false []) (RInt.mk false [])) (RRat.mk (RInt.mk false []) (RInt.mk false []))))))]) ?_ ?_
  · skip
    exact sN (n_bx (d := (encR x)) (cs := (bx (encR x))) 0 rfl rfl rfl rfl) rfl rfl rfl rfl <| sN (n_bx (d := (encR y)) (cs := (bx (encR y))) 1 rfl rfl rfl rfl) rfl rfl rfl rfl <| sN (n_al (cs := (bx (encG (RRng.mk (RRat.mk (RInt.mk false []) (RInt.mk false [])) (RRat.mk (RInt.mk false []) (RInt.mk false [])))))) 2 rfl ze28 zo28 rfl) rfl rfl rfl rfl <| sM (vin 0) rfl rfl <| sNil rfl rfl
  refine pwp_seq ?_
  refine pwp_seq ?_
  refine pwp_S (S' := [(2, (.ref 0 0)), (3, (.ref 1 0)), (4, (.ref 2 0)), (13, (vb (!(validR x) || !(validR y))))]) (B' := [(0, some (bx (encR x))), (1, some (bx (encR y))), (2, some (bx (encG (RRng.mk (RRat.mk (RInt.mk false []) (RInt.mk false [])) (RRat.mk (RInt.mk false []) (RInt.mk false []))))))]) ?_ ?_
  · skip
    refine sR (e_lda (cs := (bx (encR x))) (y := (.d (encR x))) rfl rfl sh26 rfl rfl) rfl rfl rfl rfl <| sE' (e_cl (f_valid x p hx) rfl rfl rfl) rfl <| sE' (e_not rfl rfl) rfl <| sM (vb (!(validR x))) rfl rfl <| ?_
    rcases hb1 : (!(validR x)) with _ | _
    · skip
      exact sR (e_lda (cs := (bx (encR y))) (y := (.d (encR y))) rfl rfl sh26 rfl rfl) rfl rfl rfl rfl <| sE' (e_cl (f_valid y q hy) rfl rfl rfl) rfl <| sE' (e_not rfl rfl) rfl <| sE' (e_pkfo rfl rfl rfl) rfl <| sNil rfl rfl
    · skip
      exact sK rfl rfl rfl <| sK rfl rfl rfl <| sK rfl rfl rfl <| sE' (e_pkt (z := (vb true)) rfl rfl rfl) rfl <| sNil rfl rfl
  refine pwp_cond (b := (!(validR x) || !(validR y))) rfl (fun h2 => ?_) (fun h2 => ?_)
  · skip
    exfalso; revert h2 hv; cases validR x <;> cases validR y <;> simp
  · skip
    refine pwp_skip ?_
    refine pwp_seq ?_
    refine pwp_seq ?_
    refine pwp_S (S' := [(2, (.ref 0 0)), (3, (.ref 1 0)), (4, (.ref 2 0)), (18, (vb (decide (0 < (cmpQ p q)))))]) (B' := [(0, some (bx (encR x))), (1, some (bx (encR y))), (2, some (bx (encG (RRng.mk (RRat.mk (RInt.mk false []) (RInt.mk false [])) (RRat.mk (RInt.mk false []) (RInt.mk false []))))))]) ?_ ?_
    · skip
      exact sR (e_lda (cs := (bx (encR x))) (y := (.d (encR x))) rfl rfl sh26 rfl rfl) rfl rfl rfl rfl <| sR (e_lda (cs := (bx (encR y))) (y := (.d (encR y))) rfl rfl sh26 rfl rfl) rfl rfl rfl rfl <| sE' (e_cl (f_compare x y p q hx hy) rfl rfl rfl) rfl <| sE' (e_gtr rfl rfl rfl) rfl <| sNil rfl rfl
    refine pwp_cond (b := decide (0 < (cmpQ p q))) rfl (fun h3 => ?_) (fun h3 => ?_)
    · skip
      replace h3 := of_decide_eq_true h3
      exact absurd (cmpQ_gt.1 h3) (Rat.not_lt.2 hc)
    · skip
      replace h3 := of_decide_eq_false h3
      refine pwp_skip ?_
      refine pwp_seq ?_
      refine pwp_S (S' := [(4, (.ref 2 0)), (5, (vin 0))]) (B' := [(2, some (bx (encG (RRng.mk x y))))]) ?_ ?_
      · skip
        exact sR (e_lda (cs := (bx (encR x))) (y := (.d (encR x))) rfl rfl sh26 rfl rfl) rfl rfl rfl rfl <| sR (e_lda (cs := (bx (encR y))) (y := (.d (encR y))) rfl rfl sh26 rfl rfl) rfl rfl rfl rfl <| sE' (e_bld (pd := [(0, (encR x)), (1, (encR y))]) (y := (encG (RRng.mk x y))) rfl pl28 ze28 zo28 rfl rfl rfl rfl) rfl <| sT (t_std (d := (encG (RRng.mk x y))) (cs := (bx (encG (RRng.mk x y)))) rfl rfl rfl sh28 rfl rfl rfl rfl) rfl rfl rfl <| sM (vin 0) rfl rfl <| sNil rfl rfl
      refine pwp_ret ⟨_, (res_a (cs := (bx (encG (RRng.mk x y)))) (d := (encG (RRng.mk x y))) rfl rfl sh28 rfl rfl (.tmp (d := (.val (.int .i64 (0)))) rfl .nil)), ?_⟩
      rfl
theorem i_makeR (x : RRat) (p : Rat) (hx : QOk x p 17179869184) (y : RRat) (q : Rat) (hy : QOk y q 17179869184) (hv : (validR x && validR y) = true) (hc : q < p) : Takes Tryz.prog 21 [(encR x), (encR y)] (.tup [(encG (RRng.mk (RRat.mk (RInt.mk false []) (RInt.mk false [])) (RRat.mk (RInt.mk false []) (RInt.mk false [])))), (.val (.int .i64 (5)))]) := by
  refine fn_intro Tryz.func21 rfl cb21 rfl ?_
  show PWp _ _ _ _ ⟨[(0, (.d (encR x))), (1, (.d (encR y)))], []⟩
  refine pwp_seq ?_
  refine pwp_S (S' := [(2, (.ref 0 0)), (3, (.ref 1 0)), (4, (.ref 2 0))]) (B' := [(0, some (bx (encR x))), (1, some (bx (encR y))), (2, some (bx (encG (RRng.mk (RRat.mk (RInt.mk false []) (RInt.mk false [])) (RRat.mk (RInt.mk false []) (RInt.mk false []))))))]) ?_ ?_
  · skip
    exact sN (n_bx (d := (encR x)) (cs := (bx (encR x))) 0 rfl rfl rfl rfl) rfl rfl rfl rfl <| sN (n_bx (d := (encR y)) (cs := (bx (encR y))) 1 rfl rfl rfl rfl) rfl rfl rfl rfl <| sN (n_al (cs := (bx (encG (RRng.mk (RRat.mk (RInt.mk false []) (RInt.mk false [])) (RRat.mk (RInt.mk false []) (RInt.mk false [])))))) 2 rfl ze28 zo28 rfl) rfl rfl rfl rfl <| sM (vin 0) rfl rfl <| sNil rfl rfl
  refine pwp_seq ?_
  refine pwp_seq ?_
  refine pwp_S (S' := [(2, (.ref 0 0)), (3, (.ref 1 0)), (4, (.ref 2 0)), (13, (vb (!(validR x) || !(validR y))))]) (B' := [(0, some (bx (encR x))), (1, some (bx (encR y))), (2, some (bx (encG (RRng.mk (RRat.mk (RInt.mk false []) (RInt.mk false [])) (RRat.mk (RInt.mk false []) (RInt.mk false []))))))]) ?_ ?_
  · skip
    refine sR (e_lda (cs := (bx (encR x))) (y := (.d (encR x))) rfl rfl sh26 rfl rfl) rfl rfl rfl rfl <| sE' (e_cl (f_valid x p hx) rfl rfl rfl) rfl <| sE' (e_not rfl rfl) rfl <| sM (vb (!(validR x))) rfl rfl <| ?_
    rcases hb1 : (!(validR x)) with _ | _
    · skip
      exact sR (e_lda (cs := (bx (encR y))) (y := (.d (encR y))) rfl rfl sh26 rfl rfl) rfl rfl rfl rfl <| sE' (e_cl (f_valid y q hy) rfl rfl rfl) rfl <| sE' (e_not rfl rfl) rfl <| sE' (e_pkfo rfl rfl rfl) rfl <| sNil rfl rfl
    · skip
      exact sK rfl rfl rfl <| sK rfl rfl rfl <| sK rfl rfl rfl <| sE' (e_pkt (z := (vb true)) rfl rfl rfl) rfl <| sNil rfl rfl
  refine pwp_cond (b := (!(validR x) || !(validR y))) rfl (fun h2 => ?_) (fun h2 => ?_)
  · skip
    exfalso; revert h2 hv; cases validR x <;> cases validR y <;> simp
  · skip
    refine pwp_skip ?_
    refine pwp_seq ?_
    refine pwp_seq ?_
    refine pwp_S (S' := [(2, (.ref 0 0)), (3, (.ref 1 0)), (4, (.ref 2 0)), (18, (vb (decide (0 < (cmpQ p q)))))]) (B' := [(0, some (bx (encR x))), (1, some (bx (encR y))), (2, some (bx (encG (RRng.mk (RRat.mk (RInt.mk false []) (RInt.mk false [])) (RRat.mk (RInt.mk false []) (RInt.mk false []))))))]) ?_ ?_
    · skip
      exact sR (e_lda (cs := (bx (encR x))) (y := (.d (encR x))) rfl rfl sh26 rfl rfl) rfl rfl rfl rfl <| sR (e_lda (cs := (bx (encR y))) (y := (.d (encR y))) rfl rfl sh26 rfl rfl) rfl rfl rfl rfl <| sE' (e_cl (f_compare x y p q hx hy) rfl rfl rfl) rfl <| sE' (e_gtr rfl rfl rfl) rfl <| sNil rfl rfl
    refine pwp_cond (b := decide (0 < (cmpQ p q))) rfl (fun h3 => ?_) (fun h3 => ?_)
    · skip
      replace h3 := of_decide_eq_true h3
      refine pwp_seq ?_
      refine pwp_S (S' := [(4, (.ref 2 0)), (5, (vin 5))]) (B' := [(2, some (bx (encG (RRng.mk (RRat.mk (RInt.mk false []) (RInt.mk false [])) (RRat.mk (RInt.mk false []) (RInt.mk false []))))))]) ?_ ?_
      · skip
        exact sE' (e_bld (pd := []) (y := (encG (RRng.mk (RRat.mk (RInt.mk false []) (RInt.mk false [])) (RRat.mk (RInt.mk false []) (RInt.mk false []))))) rfl pl28 ze28 zo28 rfl rfl rfl rfl) rfl <| sT (t_std (d := (encG (RRng.mk (RRat.mk (RInt.mk false []) (RInt.mk false [])) (RRat.mk (RInt.mk false []) (RInt.mk false []))))) (cs := (bx (encG (RRng.mk (RRat.mk (RInt.mk false []) (RInt.mk false [])) (RRat.mk (RInt.mk false []) (RInt.mk false [])))))) rfl rfl rfl sh28 rfl rfl rfl rfl) rfl rfl rfl <| sM (vin 5) rfl rfl <| sNil rfl rfl
      refine pwp_ret ⟨_, (res_a (cs := (bx (encG (RRng.mk (RRat.mk (RInt.mk false []) (RInt.mk false [])) (RRat.mk (RInt.mk false []) (RInt.mk false [])))))) (d := (encG (RRng.mk (RRat.mk (RInt.mk false []) (RInt.mk false [])) (RRat.mk (RInt.mk false []) (RInt.mk false []))))) rfl rfl sh28 rfl rfl (.tmp (d := (.val (.int .i64 (5)))) rfl .nil)), ?_⟩
      rfl
    · skip
      replace h3 := of_decide_eq_false h3
      exact absurd (cmpQ_gt.2 hc) h3
theorem i_pointE (x : RRat) (p : Rat) (hx : QOk x p 17179869184) (hv : validR x = false) : Takes Tryz.prog 20 [(encR x)] (.tup [(encG (RRng.mk (RRat.mk (RInt.mk false []) (RInt.mk false [])) (RRat.mk (RInt.mk false []) (RInt.mk false [])))), (.val (.int .i64 (1)))]) := by
  refine fn_intro Tryz.func20 rfl cb20 rfl ?_
  show PWp _ _ _ _ ⟨[(0, (.d (encR x)))], []⟩
  refine pwp_seq ?_
  refine pwp_S (S' := [(1, (.ref 0 0)), (2, (.ref 1 0))]) (B' := [(0, some (bx (encR x))), (1, some (bx (encG (RRng.mk (RRat.mk (RInt.mk false []) (RInt.mk false [])) (RRat.mk (RInt.mk false []) (RInt.mk false []))))))]) ?_ ?_
  · skip
    exact sN (n_bx (d := (encR x)) (cs := (bx (encR x))) 0 rfl rfl rfl rfl) rfl rfl rfl rfl <| sN (n_al (cs := (bx (encG (RRng.mk (RRat.mk (RInt.mk false []) (RInt.mk false [])) (RRat.mk (RInt.mk false []) (RInt.mk false [])))))) 1 rfl ze28 zo28 rfl) rfl rfl rfl rfl <| sM (vin 0) rfl rfl <| sNil rfl rfl
  refine pwp_seq ?_
  refine pwp_S (S' := [(2, (.ref 1 0)), (3, (vi 1))]) (B' := [(1, some (bx (encG (RRng.mk (RRat.mk (RInt.mk false []) (RInt.mk false [])) (RRat.mk (RInt.mk false []) (RInt.mk false []))))))]) ?_ ?_
  · skip
    exact sR (e_lda (cs := (bx (encR x))) (y := (.d (encR x))) rfl rfl sh26 rfl rfl) rfl rfl rfl rfl <| sR (e_lda (cs := (bx (encR x))) (y := (.d (encR x))) rfl rfl sh26 rfl rfl) rfl rfl rfl rfl <| sE' (e_cl (i_makeE x p hx x p hx (by rw [hv]; rfl)) rfl rfl rfl) rfl <| sE' (e_exD (d := (encG (RRng.mk (RRat.mk (RInt.mk false []) (RInt.mk false [])) (RRat.mk (RInt.mk false []) (RInt.mk false []))))) rfl rfl rfl) rfl <| sE' (e_exD (d := (.val (.int .i64 (1)))) rfl rfl rfl) rfl <| sT (t_std (d := (encG (RRng.mk (RRat.mk (RInt.mk false []) (RInt.mk false [])) (RRat.mk (RInt.mk false []) (RInt.mk false []))))) (cs := (bx (encG (RRng.mk (RRat.mk (RInt.mk false []) (RInt.mk false [])) (RRat.mk (RInt.mk false []) (RInt.mk false [])))))) rfl rfl rfl sh28 rfl rfl rfl rfl) rfl rfl rfl <| sM (vi 1) rfl rfl <| sNil rfl rfl
  refine pwp_ret ⟨_, (res_a (cs := (bx (encG (RRng.mk (RRat.mk (RInt.mk false []) (RInt.mk false [])) (RRat.mk (RInt.mk false []) (RInt.mk false [])))))) (d := (encG (RRng.mk (RRat.mk (RInt.mk false []) (RInt.mk false [])) (RRat.mk (RInt.mk false []) (RInt.mk false []))))) rfl rfl sh28 rfl rfl (.tmp (d := (.val (.int .i64 (1)))) rfl .nil)), ?_⟩
  rfl
theorem i_pointO (x : RRat) (p : Rat) (hx : QOk x p 17179869184) (hv : validR x = true) : Takes Tryz.prog 20 [(encR x)] (.tup [(encG (RRng.mk x x)), (.val (.int .i64 (0)))]) := by
  refine fn_intro Tryz.func20 rfl cb20 rfl ?_
  show PWp _ _ _ _ ⟨[(0, (.d (encR x)))], []⟩
  refine pwp_seq ?_
  refine pwp_S (S' := [(1, (.ref 0 0)), (2, (.ref 1 0))]) (B' := [(0, some (bx (encR x))), (1, some (bx (encG (RRng.mk (RRat.mk (RInt.mk false []) (RInt.mk false [])) (RRat.mk (RInt.mk false []) (RInt.mk false []))))))]) ?_ ?_
  · skip
    exact sN (n_bx (d := (encR x)) (cs := (bx (encR x))) 0 rfl rfl rfl rfl) rfl rfl rfl rfl <| sN (n_al (cs := (bx (encG (RRng.mk (RRat.mk (RInt.mk false []) (RInt.mk false [])) (RRat.mk (RInt.mk false []) (RInt.mk false [])))))) 1 rfl ze28 zo28 rfl) rfl rfl rfl rfl <| sM (vin 0) rfl rfl <| sNil rfl rfl
  refine pwp_seq ?_
  refine pwp_S (S' := [(2, (.ref 1 0)), (3, (vi 0))]) (B' := [(1, some (bx (encG (RRng.mk x x))))]) ?_ ?_
  · skip
    exact sR (e_lda (cs := (bx (encR x))) (y := (.d (encR x))) rfl rfl sh26 rfl rfl) rfl rfl rfl rfl <| sR (e_lda (cs := (bx (encR x))) (y := (.d (encR x))) rfl rfl sh26 rfl rfl) rfl rfl rfl rfl <| sE' (e_cl (i_makeO x p hx x p hx (by rw [hv]; rfl) (Rat.le_refl (a := p))) rfl rfl rfl) rfl <| sE' (e_exD (d := (encG (RRng.mk x x))) rfl rfl rfl) rfl <| sE' (e_exD (d := (.val (.int .i64 (0)))) rfl rfl rfl) rfl <| sT (t_std (d := (encG (RRng.mk x x))) (cs := (bx (encG (RRng.mk x x)))) rfl rfl rfl sh28 rfl rfl rfl rfl) rfl rfl rfl <| sM (vi 0) rfl rfl <| sNil rfl rfl
  refine pwp_ret ⟨_, (res_a (cs := (bx (encG (RRng.mk x x)))) (d := (encG (RRng.mk x x))) rfl rfl sh28 rfl rfl (.tmp (d := (.val (.int .i64 (0)))) rfl .nil)), ?_⟩
  rfl
theorem h_pointR (x : RRat) (p : Rat) (hx : QOk x p 4294967296) : Takes Tryz.prog 24 [(encR x)] (encG (RRng.mk x x)) := by
  refine fn_intro Tryz.func24 rfl cb24 rfl ?_
  show PWp _ _ _ _ ⟨[(0, (.d (encR x)))], []⟩
  refine pwp_seq ?_
  refine pwp_S (S' := [(1, (.ref 0 0)), (2, (.ref 1 0))]) (B' := [(0, some (bx (encR x))), (1, some (bx (encG (RRng.mk (RRat.mk (RInt.mk false []) (RInt.mk false [])) (RRat.mk (RInt.mk false []) (RInt.mk false []))))))]) ?_ ?_
  · skip
    exact sN (n_bx (d := (encR x)) (cs := (bx (encR x))) 0 rfl rfl rfl rfl) rfl rfl rfl rfl <| sN (n_al (cs := (bx (encG (RRng.mk (RRat.mk (RInt.mk false []) (RInt.mk false [])) (RRat.mk (RInt.mk false []) (RInt.mk false [])))))) 1 rfl ze28 zo28 rfl) rfl rfl rfl rfl <| sNil rfl rfl
  refine pwp_seq ?_
  refine pwp_S (S' := [(2, (.ref 1 0))]) (B' := [(1, some (bx (encG (RRng.mk x x))))]) ?_ ?_
  · skip
    exact sR (e_lda (cs := (bx (encR x))) (y := (.d (encR x))) rfl rfl sh26 rfl rfl) rfl rfl rfl rfl <| sR (e_lda (cs := (bx (encR x))) (y := (.d (encR x))) rfl rfl sh26 rfl rfl) rfl rfl rfl rfl <| sE' (e_bld (pd := [(0, (encR x)), (1, (encR x))]) (y := (encG (RRng.mk x x))) rfl pl28 ze28 zo28 rfl rfl rfl rfl) rfl <| sT (t_std (d := (encG (RRng.mk x x))) (cs := (bx (encG (RRng.mk x x)))) rfl rfl rfl sh28 rfl rfl rfl rfl) rfl rfl rfl <| sNil rfl rfl
  refine pwp_ret ⟨_, (res_a (cs := (bx (encG (RRng.mk x x)))) (d := (encG (RRng.mk x x))) rfl rfl sh28 rfl rfl .nil), ?_⟩
  rfl
theorem i_hasT (a : RRng) (p : Rat) (q : Rat) (hp : QOk a.lo p 4294967296) (hq : QOk a.hi q 4294967296) (x : RRat) (v : Rat) (hx : QOk x v 4294967296) (hva : validG a = true) (hvx : validR x = true) : Takes Tryz.prog 27 [(encG a), (encR x)] (.val (.bool ((hasQ p q v)))) := by
  refine fn_intro Tryz.func27 rfl cb27 rfl ?_
  show PWp _ _ _ _ ⟨[(0, (.d (encG a))), (1, (.d (encR x)))], []⟩
  refine pwp_seq ?_
  refine pwp_S (S' := [(2, (.ref 0 0)), (3, (.ref 1 0))]) (B' := [(0, some (bx (encG a))), (1, some (bx (encR x)))]) ?_ ?_
  · skip
    exact sN (n_bx (d := (encG a)) (cs := (bx (encG a))) 0 rfl rfl rfl rfl) rfl rfl rfl rfl <| sN (n_bx (d := (encR x)) (cs := (bx (encR x))) 1 rfl rfl rfl rfl) rfl rfl rfl rfl <| sM (vb false) rfl rfl <| sNil rfl rfl
  refine pwp_seq ?_
  refine pwp_S (S' := [(4, (vb ((true && decide ((cmpQ p v) ≤ 0)) && decide ((cmpQ v q) ≤ 0))))]) (B' := []) ?_ ?_
  · skip
    refine sR (e_lda (cs := (bx (encG a))) (y := (.d (encG a))) rfl rfl sh28 rfl rfl) rfl rfl rfl rfl <| sE' (e_bk (c := true) (e_cl (i_valid a ⟨qok_self (qok_up hp (by decide : 4294967296 ≤ 4294967296)), qok_self (qok_up hq (by decide : 4294967296 ≤ 4294967296))⟩) rfl rfl rfl) hva) rfl <| sM (vb true) rfl rfl <| sR (e_lda (cs := (bx (encR x))) (y := (.d (encR x))) rfl rfl sh26 rfl rfl) rfl rfl rfl rfl <| sE' (e_bk (c := true) (e_cl (f_valid x v (qok_up hx (by decide))) rfl rfl rfl) hvx) rfl <| sE' (e_pkt (z := (vb true)) rfl rfl rfl) rfl <| sM (vb true) rfl rfl <| sE' (e_fldr (q := 0) rfl rfl fo28_0 rfl) rfl <| sR (e_lda (cs := (bx (encG a))) (y := (.d (encR a.lo))) rfl rfl sh26 rfl rfl) rfl rfl rfl rfl <| sR (e_lda (cs := (bx (encR x))) (y := (.d (encR x))) rfl rfl sh26 rfl rfl) rfl rfl rfl rfl <| sE' (e_cl (f_compare a.lo x p v (qok_up hp (by decide)) (qok_up hx (by decide))) rfl rfl rfl) rfl <| sE' (e_leq rfl rfl rfl) rfl <| sE' (e_pkta rfl rfl rfl) rfl <| sM (vb (true && decide ((cmpQ p v) ≤ 0))) rfl rfl <| ?_
    rcases hb1 : (true && decide ((cmpQ p v) ≤ 0)) with _ | _
    · skip
      exact sK rfl rfl rfl <| sK rfl rfl rfl <| sK rfl rfl rfl <| sK rfl rfl rfl <| sK rfl rfl rfl <| sE' (e_pkf (z := (vb false)) rfl rfl rfl) rfl <| sM (vb false) rfl rfl <| sNil rfl rfl
    · skip
      exact sR (e_lda (cs := (bx (encR x))) (y := (.d (encR x))) rfl rfl sh26 rfl rfl) rfl rfl rfl rfl <| sE' (e_fldr (q := 4) rfl rfl fo28_1 rfl) rfl <| sR (e_lda (cs := (bx (encG a))) (y := (.d (encR a.hi))) rfl rfl sh26 rfl rfl) rfl rfl rfl rfl <| sE' (e_cl (f_compare x a.hi v q (qok_up hx (by decide)) (qok_up hq (by decide))) rfl rfl rfl) rfl <| sE' (e_leq rfl rfl rfl) rfl <| sE' (e_pkta rfl rfl rfl) rfl <| sM (vb (true && decide ((cmpQ v q) ≤ 0))) rfl rfl <| sNil rfl rfl
  refine pwp_ret ⟨_, (.tmp (d := (.val (.bool (((true && decide ((cmpQ p v) ≤ 0)) && decide ((cmpQ v q) ≤ 0)))))) rfl .nil), ?_⟩
  rw [← hasQ_eq]; rfl
theorem i_hasF (a : RRng) (ha : GOk 4294967296 a) (x : RRat) (p : Rat) (hx : QOk x p 4294967296) (hv : (validG a && validR x) = false) : Takes Tryz.prog 27 [(encG a), (encR x)] (.val (.bool (false))) := by
  refine fn_intro Tryz.func27 rfl cb27 rfl ?_
  show PWp _ _ _ _ ⟨[(0, (.d (encG a))), (1, (.d (encR x)))], []⟩
  refine pwp_seq ?_
  refine pwp_S (S' := [(2, (.ref 0 0)), (3, (.ref 1 0))]) (B' := [(0, some (bx (encG a))), (1, some (bx (encR x)))]) ?_ ?_
  · skip
    exact sN (n_bx (d := (encG a)) (cs := (bx (encG a))) 0 rfl rfl rfl rfl) rfl rfl rfl rfl <| sN (n_bx (d := (encR x)) (cs := (bx (encR x))) 1 rfl rfl rfl rfl) rfl rfl rfl rfl <| sM (vb false) rfl rfl <| sNil rfl rfl
  refine pwp_seq ?_
  refine pwp_S (S' := [(4, (vb ((((validG a) && (validR x)) && decide ((cmpQ (toQ a.lo) p) ≤ 0)) && decide ((cmpQ p (toQ a.hi)) ≤ 0))))]) (B' := []) ?_ ?_
  · skip
    refine sR (e_lda (cs := (bx (encG a))) (y := (.d (encG a))) rfl rfl sh28 rfl rfl) rfl rfl rfl rfl <| sE' (e_cl (i_valid a ha) rfl rfl rfl) rfl <| sM (vb (validG a)) rfl rfl <| ?_
    rcases hb1 : (validG a) with _ | _
    · skip
      exact sK rfl rfl rfl <| sK rfl rfl rfl <| sE' (e_pkf (z := (vb false)) rfl rfl rfl) rfl <| sM (vb false) rfl rfl <| sK rfl rfl rfl <| sK rfl rfl rfl <| sK rfl rfl rfl <| sK rfl rfl rfl <| sK rfl rfl rfl <| sE' (e_pkf (z := (vb false)) rfl rfl rfl) rfl <| sM (vb false) rfl rfl <| sK rfl rfl rfl <| sK rfl rfl rfl <| sK rfl rfl rfl <| sK rfl rfl rfl <| sK rfl rfl rfl <| sE' (e_pkf (z := (vb false)) rfl rfl rfl) rfl <| sM (vb false) rfl rfl <| sNil rfl rfl
    · skip
      refine sR (e_lda (cs := (bx (encR x))) (y := (.d (encR x))) rfl rfl sh26 rfl rfl) rfl rfl rfl rfl <| sE' (e_cl (f_valid x p (qok_up hx (by decide))) rfl rfl rfl) rfl <| sE' (e_pkta rfl rfl rfl) rfl <| sM (vb (true && (validR x))) rfl rfl <| ?_
      rcases hb2 : (true && (validR x)) with _ | _
      · skip
        exact sK rfl rfl rfl <| sK rfl rfl rfl <| sK rfl rfl rfl <| sK rfl rfl rfl <| sK rfl rfl rfl <| sE' (e_pkf (z := (vb false)) rfl rfl rfl) rfl <| sM (vb false) rfl rfl <| sK rfl rfl rfl <| sK rfl rfl rfl <| sK rfl rfl rfl <| sK rfl rfl rfl <| sK rfl rfl rfl <| sE' (e_pkf (z := (vb false)) rfl rfl rfl) rfl <| sM (vb false) rfl rfl <| sNil rfl rfl
      · skip
        refine sE' (e_fldr (q := 0) rfl rfl fo28_0 rfl) rfl <| sR (e_lda (cs := (bx (encG a))) (y := (.d (encR a.lo))) rfl rfl sh26 rfl rfl) rfl rfl rfl rfl <| sR (e_lda (cs := (bx (encR x))) (y := (.d (encR x))) rfl rfl sh26 rfl rfl) rfl rfl rfl rfl <| sE' (e_cl (f_compare a.lo x (toQ a.lo) p (qok_up ha.1 (by decide)) (qok_up hx (by decide))) rfl rfl rfl) rfl <| sE' (e_leq rfl rfl rfl) rfl <| sE' (e_pkta rfl rfl rfl) rfl <| sM (vb (true && decide ((cmpQ (toQ a.lo) p) ≤ 0))) rfl rfl <| ?_
        rcases hb3 : (true && decide ((cmpQ (toQ a.lo) p) ≤ 0)) with _ | _
        · skip
          exact sK rfl rfl rfl <| sK rfl rfl rfl <| sK rfl rfl rfl <| sK rfl rfl rfl <| sK rfl rfl rfl <| sE' (e_pkf (z := (vb false)) rfl rfl rfl) rfl <| sM (vb false) rfl rfl <| sNil rfl rfl
        · skip
          exact sR (e_lda (cs := (bx (encR x))) (y := (.d (encR x))) rfl rfl sh26 rfl rfl) rfl rfl rfl rfl <| sE' (e_fldr (q := 4) rfl rfl fo28_1 rfl) rfl <| sR (e_lda (cs := (bx (encG a))) (y := (.d (encR a.hi))) rfl rfl sh26 rfl rfl) rfl rfl rfl rfl <| sE' (e_cl (f_compare x a.hi p (toQ a.hi) (qok_up hx (by decide)) (qok_up ha.2 (by decide))) rfl rfl rfl) rfl <| sE' (e_leq rfl rfl rfl) rfl <| sE' (e_pkta rfl rfl rfl) rfl <| sM (vb (true && decide ((cmpQ p (toQ a.hi)) ≤ 0))) rfl rfl <| sNil rfl rfl
  refine pwp_ret ⟨_, (.tmp (d := (.val (.bool (((((validG a) && (validR x)) && decide ((cmpQ (toQ a.lo) p) ≤ 0)) && decide ((cmpQ p (toQ a.hi)) ≤ 0)))))) rfl .nil), ?_⟩
  rw [hv]; rfl
theorem i_insideT (a : RRng) (p : Rat) (q : Rat) (hp : QOk a.lo p 4294967296) (hq : QOk a.hi q 4294967296) (b : RRng) (r : Rat) (s : Rat) (hr : QOk b.lo r 4294967296) (hs : QOk b.hi s 4294967296) (hv : List.all [a, b] validG = true) : Takes Tryz.prog 18 [(encG a), (encG b)] (.val (.bool ((insQ p q r s)))) := by
  refine fn_intro Tryz.func18 rfl cb18 rfl ?_
  show PWp _ _ _ _ ⟨[(0, (.d (encG a))), (1, (.d (encG b)))], []⟩
  refine pwp_seq ?_
  refine pwp_S (S' := [(2, (.ref 0 0)), (3, (.ref 1 0))]) (B' := [(0, some (bx (encG a))), (1, some (bx (encG b)))]) ?_ ?_
  · skip
    exact sN (n_bx (d := (encG a)) (cs := (bx (encG a))) 0 rfl rfl rfl rfl) rfl rfl rfl rfl <| sN (n_bx (d := (encG b)) (cs := (bx (encG b))) 1 rfl rfl rfl rfl) rfl rfl rfl rfl <| sM (vb false) rfl rfl <| sNil rfl rfl
  refine pwp_seq ?_
  refine pwp_S (S' := [(4, (vb ((true && decide ((cmpQ r p) ≤ 0)) && decide ((cmpQ q s) ≤ 0))))]) (B' := []) ?_ ?_
  · skip
    refine sR (e_lda (cs := (bx (encG a))) (y := (.d (encG a))) rfl rfl sh28 rfl rfl) rfl rfl rfl rfl <| sR (e_lda (cs := (bx (encG b))) (y := (.d (encG b))) rfl rfl sh28 rfl rfl) rfl rfl rfl rfl <| sE' (e_bsl (pd := [(0, (encG a)), (1, (encG b))]) (es := List.map encG [a, b]) rfl el57 ze28 zo28 rfl rfl rfl rfl rfl rfl rfl rfl) rfl <| sE' (e_cl (by have h := i_valids [a, b] (List.forall_mem_cons.2 ⟨⟨qok_self (qok_up hp (by decide : 4294967296 ≤ 4294967296)), qok_self (qok_up hq (by decide : 4294967296 ≤ 4294967296))⟩, (List.forall_mem_cons.2 ⟨⟨qok_self (qok_up hr (by decide : 4294967296 ≤ 4294967296)), qok_self (qok_up hs (by decide : 4294967296 ≤ 4294967296))⟩, (fun a h => by cases h)⟩)⟩) (by simp); rw [show List.all [a, b] validG = true from hv] at h; exact h) rfl rfl rfl) rfl <| sM (vb true) rfl rfl <| sE' (e_fldr (q := 0) rfl rfl fo28_0 rfl) rfl <| sR (e_lda (cs := (bx (encG b))) (y := (.d (encR b.lo))) rfl rfl sh26 rfl rfl) rfl rfl rfl rfl <| sE' (e_fldr (q := 0) rfl rfl fo28_0 rfl) rfl <| sR (e_lda (cs := (bx (encG a))) (y := (.d (encR a.lo))) rfl rfl sh26 rfl rfl) rfl rfl rfl rfl <| sE' (e_cl (f_compare b.lo a.lo r p (qok_up hr (by decide)) (qok_up hp (by decide))) rfl rfl rfl) rfl <| sE' (e_leq rfl rfl rfl) rfl <| sE' (e_pkta rfl rfl rfl) rfl <| sM (vb (true && decide ((cmpQ r p) ≤ 0))) rfl rfl <| ?_
    rcases hb1 : (true && decide ((cmpQ r p) ≤ 0)) with _ | _
    · skip
      exact sK rfl rfl rfl <| sK rfl rfl rfl <| sK rfl rfl rfl <| sK rfl rfl rfl <| sK rfl rfl rfl <| sK rfl rfl rfl <| sE' (e_pkf (z := (vb false)) rfl rfl rfl) rfl <| sM (vb false) rfl rfl <| sNil rfl rfl
    · skip
      exact sE' (e_fldr (q := 4) rfl rfl fo28_1 rfl) rfl <| sR (e_lda (cs := (bx (encG a))) (y := (.d (encR a.hi))) rfl rfl sh26 rfl rfl) rfl rfl rfl rfl <| sE' (e_fldr (q := 4) rfl rfl fo28_1 rfl) rfl <| sR (e_lda (cs := (bx (encG b))) (y := (.d (encR b.hi))) rfl rfl sh26 rfl rfl) rfl rfl rfl rfl <| sE' (e_cl (f_compare a.hi b.hi q s (qok_up hq (by decide)) (qok_up hs (by decide))) rfl rfl rfl) rfl <| sE' (e_leq rfl rfl rfl) rfl <| sE' (e_pkta rfl rfl rfl) rfl <| sM (vb (true && decide ((cmpQ q s) ≤ 0))) rfl rfl <| sNil rfl rfl
  refine pwp_ret ⟨_, (.tmp (d := (.val (.bool (((true && decide ((cmpQ r p) ≤ 0)) && decide ((cmpQ q s) ≤ 0)))))) rfl .nil), ?_⟩
  rw [← insQ_eq]; rfl
theorem i_insideF (a : RRng) (ha : GOk 4294967296 a) (b : RRng) (hb : GOk 4294967296 b) (hv : List.all [a, b] validG = false) : Takes Tryz.prog 18 [(encG a), (encG b)] (.val (.bool (false))) := by
  refine fn_intro Tryz.func18 rfl cb18 rfl ?_
  show PWp _ _ _ _ ⟨[(0, (.d (encG a))), (1, (.d (encG b)))], []⟩
  refine pwp_seq ?_
  refine pwp_S (S' := [(2, (.ref 0 0)), (3, (.ref 1 0))]) (B' := [(0, some (bx (encG a))), (1, some (bx (encG b)))]) ?_ ?_
  · skip
    exact sN (n_bx (d := (encG a)) (cs := (bx (encG a))) 0 rfl rfl rfl rfl) rfl rfl rfl rfl <| sN (n_bx (d := (encG b)) (cs := (bx (encG b))) 1 rfl rfl rfl rfl) rfl rfl rfl rfl <| sM (vb false) rfl rfl <| sNil rfl rfl
  refine pwp_seq ?_
  refine pwp_S (S' := [(4, (vb false))]) (B' := []) ?_ ?_
  · skip
    exact sR (e_lda (cs := (bx (encG a))) (y := (.d (encG a))) rfl rfl sh28 rfl rfl) rfl rfl rfl rfl <| sR (e_lda (cs := (bx (encG b))) (y := (.d (encG b))) rfl rfl sh28 rfl rfl) rfl rfl rfl rfl <| sE' (e_bsl (pd := [(0, (encG a)), (1, (encG b))]) (es := List.map encG [a, b]) rfl el57 ze28 zo28 rfl rfl rfl rfl rfl rfl rfl rfl) rfl <| sE' (e_cl (by have h := i_valids [a, b] (List.forall_mem_cons.2 ⟨ha, (List.forall_mem_cons.2 ⟨hb, (fun a h => by cases h)⟩)⟩) (by simp); rw [show List.all [a, b] validG = false from hv] at h; exact h) rfl rfl rfl) rfl <| sM (vb false) rfl rfl <| sK rfl rfl rfl <| sK rfl rfl rfl <| sK rfl rfl rfl <| sK rfl rfl rfl <| sK rfl rfl rfl <| sK rfl rfl rfl <| sE' (e_pkf (z := (vb false)) rfl rfl rfl) rfl <| sM (vb false) rfl rfl <| sK rfl rfl rfl <| sK rfl rfl rfl <| sK rfl rfl rfl <| sK rfl rfl rfl <| sK rfl rfl rfl <| sK rfl rfl rfl <| sE' (e_pkf (z := (vb false)) rfl rfl rfl) rfl <| sM (vb false) rfl rfl <| sNil rfl rfl
  refine pwp_ret ⟨_, (.tmp (d := (.val (.bool (false)))) rfl .nil), ?_⟩
  rfl
theorem i_strictT (a : RRng) (p : Rat) (q : Rat) (hp : QOk a.lo p 4294967296) (hq : QOk a.hi q 4294967296) (b : RRng) (r : Rat) (s : Rat) (hr : QOk b.lo r 4294967296) (hs : QOk b.hi s 4294967296) (hv : List.all [a, b] validG = true) : Takes Tryz.prog 30 [(encG a), (encG b)] (.val (.bool ((decide (cmpQ r p < 0) && decide (cmpQ q s < 0))))) := by
  refine fn_intro Tryz.func30 rfl cb30 rfl ?_
  show PWp _ _ _ _ ⟨[(0, (.d (encG a))), (1, (.d (encG b)))], []⟩
  refine pwp_seq ?_
  refine pwp_S (S' := [(2, (.ref 0 0)), (3, (.ref 1 0))]) (B' := [(0, some (bx (encG a))), (1, some (bx (encG b)))]) ?_ ?_
  · skip
    exact sN (n_bx (d := (encG a)) (cs := (bx (encG a))) 0 rfl rfl rfl rfl) rfl rfl rfl rfl <| sN (n_bx (d := (encG b)) (cs := (bx (encG b))) 1 rfl rfl rfl rfl) rfl rfl rfl rfl <| sM (vb false) rfl rfl <| sNil rfl rfl
  refine pwp_seq ?_
  refine pwp_S (S' := [(4, (vb ((true && decide ((cmpQ r p) < 0)) && decide ((cmpQ q s) < 0))))]) (B' := []) ?_ ?_
  · skip
    refine sR (e_lda (cs := (bx (encG a))) (y := (.d (encG a))) rfl rfl sh28 rfl rfl) rfl rfl rfl rfl <| sR (e_lda (cs := (bx (encG b))) (y := (.d (encG b))) rfl rfl sh28 rfl rfl) rfl rfl rfl rfl <| sE' (e_bsl (pd := [(0, (encG a)), (1, (encG b))]) (es := List.map encG [a, b]) rfl el57 ze28 zo28 rfl rfl rfl rfl rfl rfl rfl rfl) rfl <| sE' (e_cl (by have h := i_valids [a, b] (List.forall_mem_cons.2 ⟨⟨qok_self (qok_up hp (by decide : 4294967296 ≤ 4294967296)), qok_self (qok_up hq (by decide : 4294967296 ≤ 4294967296))⟩, (List.forall_mem_cons.2 ⟨⟨qok_self (qok_up hr (by decide : 4294967296 ≤ 4294967296)), qok_self (qok_up hs (by decide : 4294967296 ≤ 4294967296))⟩, (fun a h => by cases h)⟩)⟩) (by simp); rw [show List.all [a, b] validG = true from hv] at h; exact h) rfl rfl rfl) rfl <| sM (vb true) rfl rfl <| sE' (e_fldr (q := 0) rfl rfl fo28_0 rfl) rfl <| sR (e_lda (cs := (bx (encG b))) (y := (.d (encR b.lo))) rfl rfl sh26 rfl rfl) rfl rfl rfl rfl <| sE' (e_fldr (q := 0) rfl rfl fo28_0 rfl) rfl <| sR (e_lda (cs := (bx (encG a))) (y := (.d (encR a.lo))) rfl rfl sh26 rfl rfl) rfl rfl rfl rfl <| sE' (e_cl (f_compare b.lo a.lo r p (qok_up hr (by decide)) (qok_up hp (by decide))) rfl rfl rfl) rfl <| sE' (e_lss rfl rfl rfl) rfl <| sE' (e_pkta rfl rfl rfl) rfl <| sM (vb (true && decide ((cmpQ r p) < 0))) rfl rfl <| ?_
    rcases hb1 : (true && decide ((cmpQ r p) < 0)) with _ | _
    · skip
      exact sK rfl rfl rfl <| sK rfl rfl rfl <| sK rfl rfl rfl <| sK rfl rfl rfl <| sK rfl rfl rfl <| sK rfl rfl rfl <| sE' (e_pkf (z := (vb false)) rfl rfl rfl) rfl <| sM (vb false) rfl rfl <| sNil rfl rfl
    · skip
      exact sE' (e_fldr (q := 4) rfl rfl fo28_1 rfl) rfl <| sR (e_lda (cs := (bx (encG a))) (y := (.d (encR a.hi))) rfl rfl sh26 rfl rfl) rfl rfl rfl rfl <| sE' (e_fldr (q := 4) rfl rfl fo28_1 rfl) rfl <| sR (e_lda (cs := (bx (encG b))) (y := (.d (encR b.hi))) rfl rfl sh26 rfl rfl) rfl rfl rfl rfl <| sE' (e_cl (f_compare a.hi b.hi q s (qok_up hq (by decide)) (qok_up hs (by decide))) rfl rfl rfl) rfl <| sE' (e_lss rfl rfl rfl) rfl <| sE' (e_pkta rfl rfl rfl) rfl <| sM (vb (true && decide ((cmpQ q s) < 0))) rfl rfl <| sNil rfl rfl
  refine pwp_ret ⟨_, (.tmp (d := (.val (.bool (((true && decide ((cmpQ r p) < 0)) && decide ((cmpQ q s) < 0)))))) rfl .nil), ?_⟩
  rfl
theorem i_strictF (a : RRng) (ha : GOk 4294967296 a) (b : RRng) (hb : GOk 4294967296 b) (hv : List.all [a, b] validG = false) : Takes Tryz.prog 30 [(encG a), (encG b)] (.val (.bool (false))) := by
  refine fn_intro Tryz.func30 rfl cb30 rfl ?_
  show PWp _ _ _ _ ⟨[(0, (.d (encG a))), (1, (.d (encG b)))], []⟩
  refine pwp_seq ?_
  refine pwp_S (S' := [(2, (.ref 0 0)), (3, (.ref 1 0))]) (B' := [(0, some (bx (encG a))), (1, some (bx (encG b)))]) ?_ ?_
  · skip
    exact sN (n_bx (d := (encG a)) (cs := (bx (encG a))) 0 rfl rfl rfl rfl) rfl rfl rfl rfl <| sN (n_bx (d := (encG b)) (cs := (bx (encG b))) 1 rfl rfl rfl rfl) rfl rfl rfl rfl <| sM (vb false) rfl rfl <| sNil rfl rfl
  refine pwp_seq ?_
  refine pwp_S (S' := [(4, (vb false))]) (B' := []) ?_ ?_
  · skip
    exact sR (e_lda (cs := (bx (encG a))) (y := (.d (encG a))) rfl rfl sh28 rfl rfl) rfl rfl rfl rfl <| sR (e_lda (cs := (bx (encG b))) (y := (.d (encG b))) rfl rfl sh28 rfl rfl) rfl rfl rfl rfl <| sE' (e_bsl (pd := [(0, (encG a)), (1, (encG b))]) (es := List.map encG [a, b]) rfl el57 ze28 zo28 rfl rfl rfl rfl rfl rfl rfl rfl) rfl <| sE' (e_cl (by have h := i_valids [a, b] (List.forall_mem_cons.2 ⟨ha, (List.forall_mem_cons.2 ⟨hb, (fun a h => by cases h)⟩)⟩) (by simp); rw [show List.all [a, b] validG = false from hv] at h; exact h) rfl rfl rfl) rfl <| sM (vb false) rfl rfl <| sK rfl rfl rfl <| sK rfl rfl rfl <| sK rfl rfl rfl <| sK rfl rfl rfl <| sK rfl rfl rfl <| sK rfl rfl rfl <| sE' (e_pkf (z := (vb false)) rfl rfl rfl) rfl <| sM (vb false) rfl rfl <| sK rfl rfl rfl <| sK rfl rfl rfl <| sK rfl rfl rfl <| sK rfl rfl rfl <| sK rfl rfl rfl <| sK rfl rfl rfl <| sE' (e_pkf (z := (vb false)) rfl rfl rfl) rfl <| sM (vb false) rfl rfl <| sNil rfl rfl
  refine pwp_ret ⟨_, (.tmp (d := (.val (.bool (false)))) rfl .nil), ?_⟩
  rfl
theorem i_apartT (a : RRng) (p : Rat) (q : Rat) (hp : QOk a.lo p 4294967296) (hq : QOk a.hi q 4294967296) (b : RRng) (r : Rat) (s : Rat) (hr : QOk b.lo r 4294967296) (hs : QOk b.hi s 4294967296) (hv : List.all [a, b] validG = true) : Takes Tryz.prog 32 [(encG a), (encG b)] (.val (.bool ((decide (cmpQ q r < 0) || decide (cmpQ s p < 0))))) := by
  refine fn_intro Tryz.func32 rfl cb32 rfl ?_
  show PWp _ _ _ _ ⟨[(0, (.d (encG a))), (1, (.d (encG b)))], []⟩
  refine pwp_seq ?_
  refine pwp_S (S' := [(2, (.ref 0 0)), (3, (.ref 1 0))]) (B' := [(0, some (bx (encG a))), (1, some (bx (encG b)))]) ?_ ?_
  · skip
    exact sN (n_bx (d := (encG a)) (cs := (bx (encG a))) 0 rfl rfl rfl rfl) rfl rfl rfl rfl <| sN (n_bx (d := (encG b)) (cs := (bx (encG b))) 1 rfl rfl rfl rfl) rfl rfl rfl rfl <| sM (vb false) rfl rfl <| sNil rfl rfl
  refine pwp_seq ?_
  refine pwp_S (S' := [(4, (vb (true && (decide ((cmpQ q r) < 0) || decide ((cmpQ s p) < 0)))))]) (B' := []) ?_ ?_
  · skip
    refine sR (e_lda (cs := (bx (encG a))) (y := (.d (encG a))) rfl rfl sh28 rfl rfl) rfl rfl rfl rfl <| sR (e_lda (cs := (bx (encG b))) (y := (.d (encG b))) rfl rfl sh28 rfl rfl) rfl rfl rfl rfl <| sE' (e_bsl (pd := [(0, (encG a)), (1, (encG b))]) (es := List.map encG [a, b]) rfl el57 ze28 zo28 rfl rfl rfl rfl rfl rfl rfl rfl) rfl <| sE' (e_cl (by have h := i_valids [a, b] (List.forall_mem_cons.2 ⟨⟨qok_self (qok_up hp (by decide : 4294967296 ≤ 4294967296)), qok_self (qok_up hq (by decide : 4294967296 ≤ 4294967296))⟩, (List.forall_mem_cons.2 ⟨⟨qok_self (qok_up hr (by decide : 4294967296 ≤ 4294967296)), qok_self (qok_up hs (by decide : 4294967296 ≤ 4294967296))⟩, (fun a h => by cases h)⟩)⟩) (by simp); rw [show List.all [a, b] validG = true from hv] at h; exact h) rfl rfl rfl) rfl <| sM (vb true) rfl rfl <| sE' (e_fldr (q := 4) rfl rfl fo28_1 rfl) rfl <| sR (e_lda (cs := (bx (encG a))) (y := (.d (encR a.hi))) rfl rfl sh26 rfl rfl) rfl rfl rfl rfl <| sE' (e_fldr (q := 0) rfl rfl fo28_0 rfl) rfl <| sR (e_lda (cs := (bx (encG b))) (y := (.d (encR b.lo))) rfl rfl sh26 rfl rfl) rfl rfl rfl rfl <| sE' (e_cl (f_compare a.hi b.lo q r (qok_up hq (by decide)) (qok_up hr (by decide))) rfl rfl rfl) rfl <| sE' (e_lss rfl rfl rfl) rfl <| sM (vb (decide ((cmpQ q r) < 0))) rfl rfl <| ?_
    rcases hb1 : (decide ((cmpQ q r) < 0)) with _ | _
    · skip
      replace hb1 := of_decide_eq_false hb1
      exact sE' (e_fldr (q := 4) rfl rfl fo28_1 rfl) rfl <| sR (e_lda (cs := (bx (encG b))) (y := (.d (encR b.hi))) rfl rfl sh26 rfl rfl) rfl rfl rfl rfl <| sE' (e_fldr (q := 0) rfl rfl fo28_0 rfl) rfl <| sR (e_lda (cs := (bx (encG a))) (y := (.d (encR a.lo))) rfl rfl sh26 rfl rfl) rfl rfl rfl rfl <| sE' (e_cl (f_compare b.hi a.lo s p (qok_up hs (by decide)) (qok_up hp (by decide))) rfl rfl rfl) rfl <| sE' (e_lss rfl rfl rfl) rfl <| sE' (e_pkfo rfl rfl rfl) rfl <| sE' (e_pkta rfl rfl rfl) rfl <| sM (vb (true && (false || decide ((cmpQ s p) < 0)))) rfl rfl <| sNil rfl rfl
    · skip
      replace hb1 := of_decide_eq_true hb1
      exact sK rfl rfl rfl <| sK rfl rfl rfl <| sK rfl rfl rfl <| sK rfl rfl rfl <| sK rfl rfl rfl <| sK rfl rfl rfl <| sE' (e_pkt (z := (vb true)) rfl rfl rfl) rfl <| sE' (e_pkt (z := (vb true)) rfl rfl rfl) rfl <| sM (vb true) rfl rfl <| sNil rfl rfl
  refine pwp_ret ⟨_, (.tmp (d := (.val (.bool ((true && (decide ((cmpQ q r) < 0) || decide ((cmpQ s p) < 0))))))) rfl .nil), ?_⟩
  rfl
theorem i_apartF (a : RRng) (ha : GOk 4294967296 a) (b : RRng) (hb : GOk 4294967296 b) (hv : List.all [a, b] validG = false) : Takes Tryz.prog 32 [(encG a), (encG b)] (.val (.bool (false))) := by
  refine fn_intro Tryz.func32 rfl cb32 rfl ?_
  show PWp _ _ _ _ ⟨[(0, (.d (encG a))), (1, (.d (encG b)))], []⟩
  refine pwp_seq ?_
  refine pwp_S (S' := [(2, (.ref 0 0)), (3, (.ref 1 0))]) (B' := [(0, some (bx (encG a))), (1, some (bx (encG b)))]) ?_ ?_
  · skip
    exact sN (n_bx (d := (encG a)) (cs := (bx (encG a))) 0 rfl rfl rfl rfl) rfl rfl rfl rfl <| sN (n_bx (d := (encG b)) (cs := (bx (encG b))) 1 rfl rfl rfl rfl) rfl rfl rfl rfl <| sM (vb false) rfl rfl <| sNil rfl rfl
  refine pwp_seq ?_
  refine pwp_S (S' := [(4, (vb false))]) (B' := []) ?_ ?_
  · skip
    exact sR (e_lda (cs := (bx (encG a))) (y := (.d (encG a))) rfl rfl sh28 rfl rfl) rfl rfl rfl rfl <| sR (e_lda (cs := (bx (encG b))) (y := (.d (encG b))) rfl rfl sh28 rfl rfl) rfl rfl rfl rfl <| sE' (e_bsl (pd := [(0, (encG a)), (1, (encG b))]) (es := List.map encG [a, b]) rfl el57 ze28 zo28 rfl rfl rfl rfl rfl rfl rfl rfl) rfl <| sE' (e_cl (by have h := i_valids [a, b] (List.forall_mem_cons.2 ⟨ha, (List.forall_mem_cons.2 ⟨hb, (fun a h => by cases h)⟩)⟩) (by simp); rw [show List.all [a, b] validG = false from hv] at h; exact h) rfl rfl rfl) rfl <| sM (vb false) rfl rfl <| sK rfl rfl rfl <| sK rfl rfl rfl <| sK rfl rfl rfl <| sK rfl rfl rfl <| sK rfl rfl rfl <| sK rfl rfl rfl <| sK rfl rfl rfl <| sK rfl rfl rfl <| sK rfl rfl rfl <| sK rfl rfl rfl <| sK rfl rfl rfl <| sK rfl rfl rfl <| sK rfl rfl rfl <| sK rfl rfl rfl <| sE' (e_pkf (z := (vb false)) rfl rfl rfl) rfl <| sM (vb false) rfl rfl <| sNil rfl rfl
  refine pwp_ret ⟨_, (.tmp (d := (.val (.bool (false)))) rfl .nil), ?_⟩
  rfl
theorem h_insideT (a : RRng) (p : Rat) (q : Rat) (hp : QOk a.lo p 4294967296) (hq : QOk a.hi q 4294967296) (b : RRng) (r : Rat) (s : Rat) (hr : QOk b.lo r 4294967296) (hs : QOk b.hi s 4294967296) (hpq : p ≤ q) : Takes Tryz.prog 29 [(encG a), (encG b)] (.val (.bool ((insQ p q r s)))) := by
  refine fn_intro Tryz.func29 rfl cb29 rfl ?_
  show PWp _ _ _ _ ⟨[(0, (.d (encG a))), (1, (.d (encG b)))], []⟩
  refine pwp_seq ?_
  refine pwp_S (S' := [(2, (.ref 0 0)), (3, (.ref 1 0))]) (B' := [(0, some (bx (encG a))), (1, some (bx (encG b)))]) ?_ ?_
  · skip
    exact sN (n_bx (d := (encG a)) (cs := (bx (encG a))) 0 rfl rfl rfl rfl) rfl rfl rfl rfl <| sN (n_bx (d := (encG b)) (cs := (bx (encG b))) 1 rfl rfl rfl rfl) rfl rfl rfl rfl <| sM (vb false) rfl rfl <| sNil rfl rfl
  refine pwp_seq ?_
  refine pwp_S (S' := [(4, (vb ((hasQ r s p) && (hasQ r s q))))]) (B' := []) ?_ ?_
  · skip
    refine sR (e_lda (cs := (bx (encG b))) (y := (.d (encG b))) rfl rfl sh28 rfl rfl) rfl rfl rfl rfl <| sE' (e_fldr (q := 0) rfl rfl fo28_0 rfl) rfl <| sR (e_lda (cs := (bx (encG a))) (y := (.d (encR a.lo))) rfl rfl sh26 rfl rfl) rfl rfl rfl rfl <| sE' (e_cl (h_hasR b r s hr hs a.lo p hp) rfl rfl rfl) rfl <| sM (vb (hasQ r s p)) rfl rfl <| ?_
    rcases hb1 : (hasQ r s p) with _ | _
    · skip
      exact sK rfl rfl rfl <| sK rfl rfl rfl <| sK rfl rfl rfl <| sK rfl rfl rfl <| sE' (e_pkf (z := (vb false)) rfl rfl rfl) rfl <| sM (vb false) rfl rfl <| sNil rfl rfl
    · skip
      exact sR (e_lda (cs := (bx (encG b))) (y := (.d (encG b))) rfl rfl sh28 rfl rfl) rfl rfl rfl rfl <| sE' (e_fldr (q := 4) rfl rfl fo28_1 rfl) rfl <| sR (e_lda (cs := (bx (encG a))) (y := (.d (encR a.hi))) rfl rfl sh26 rfl rfl) rfl rfl rfl rfl <| sE' (e_cl (h_hasR b r s hr hs a.hi q hq) rfl rfl rfl) rfl <| sE' (e_pkta rfl rfl rfl) rfl <| sM (vb (true && (hasQ r s q))) rfl rfl <| sNil rfl rfl
  refine pwp_ret ⟨_, (.tmp (d := (.val (.bool (((hasQ r s p) && (hasQ r s q)))))) rfl .nil), ?_⟩
  rw [← ins_has hpq]; rfl
theorem h_strictR (a : RRng) (p : Rat) (q : Rat) (hp : QOk a.lo p 4294967296) (hq : QOk a.hi q 4294967296) (b : RRng) (r : Rat) (s : Rat) (hr : QOk b.lo r 4294967296) (hs : QOk b.hi s 4294967296) : Takes Tryz.prog 31 [(encG a), (encG b)] (.val (.bool ((decide (cmpQ r p < 0) && decide (cmpQ q s < 0))))) := by
  refine fn_intro Tryz.func31 rfl cb31 rfl ?_
  show PWp _ _ _ _ ⟨[(0, (.d (encG a))), (1, (.d (encG b)))], []⟩
  refine pwp_seq ?_
  refine pwp_S (S' := [(2, (.ref 0 0)), (3, (.ref 1 0))]) (B' := [(0, some (bx (encG a))), (1, some (bx (encG b)))]) ?_ ?_
  · skip
    exact sN (n_bx (d := (encG a)) (cs := (bx (encG a))) 0 rfl rfl rfl rfl) rfl rfl rfl rfl <| sN (n_bx (d := (encG b)) (cs := (bx (encG b))) 1 rfl rfl rfl rfl) rfl rfl rfl rfl <| sM (vb false) rfl rfl <| sNil rfl rfl
  refine pwp_seq ?_
  refine pwp_S (S' := [(4, (vb (decide ((cmpQ r p) < 0) && decide ((cmpQ q s) < 0))))]) (B' := []) ?_ ?_
  · skip
    refine sE' (e_fldr (q := 0) rfl rfl fo28_0 rfl) rfl <| sR (e_lda (cs := (bx (encG b))) (y := (.d (encR b.lo))) rfl rfl sh26 rfl rfl) rfl rfl rfl rfl <| sE' (e_fldr (q := 0) rfl rfl fo28_0 rfl) rfl <| sR (e_lda (cs := (bx (encG a))) (y := (.d (encR a.lo))) rfl rfl sh26 rfl rfl) rfl rfl rfl rfl <| sE' (e_cl (g_compare b.lo a.lo r p hr hp) rfl rfl rfl) rfl <| sE' (e_lss rfl rfl rfl) rfl <| sM (vb (decide ((cmpQ r p) < 0))) rfl rfl <| ?_
    rcases hb1 : (decide ((cmpQ r p) < 0)) with _ | _
    · skip
      replace hb1 := of_decide_eq_false hb1
      exact sK rfl rfl rfl <| sK rfl rfl rfl <| sK rfl rfl rfl <| sK rfl rfl rfl <| sK rfl rfl rfl <| sK rfl rfl rfl <| sE' (e_pkf (z := (vb false)) rfl rfl rfl) rfl <| sM (vb false) rfl rfl <| sNil rfl rfl
    · skip
      replace hb1 := of_decide_eq_true hb1
      exact sE' (e_fldr (q := 4) rfl rfl fo28_1 rfl) rfl <| sR (e_lda (cs := (bx (encG a))) (y := (.d (encR a.hi))) rfl rfl sh26 rfl rfl) rfl rfl rfl rfl <| sE' (e_fldr (q := 4) rfl rfl fo28_1 rfl) rfl <| sR (e_lda (cs := (bx (encG b))) (y := (.d (encR b.hi))) rfl rfl sh26 rfl rfl) rfl rfl rfl rfl <| sE' (e_cl (g_compare a.hi b.hi q s hq hs) rfl rfl rfl) rfl <| sE' (e_lss rfl rfl rfl) rfl <| sE' (e_pkta rfl rfl rfl) rfl <| sM (vb (true && decide ((cmpQ q s) < 0))) rfl rfl <| sNil rfl rfl
  refine pwp_ret ⟨_, (.tmp (d := (.val (.bool ((decide ((cmpQ r p) < 0) && decide ((cmpQ q s) < 0)))))) rfl .nil), ?_⟩
  rfl
theorem h_apartR (a : RRng) (p : Rat) (q : Rat) (hp : QOk a.lo p 4294967296) (hq : QOk a.hi q 4294967296) (b : RRng) (r : Rat) (s : Rat) (hr : QOk b.lo r 4294967296) (hs : QOk b.hi s 4294967296) : Takes Tryz.prog 33 [(encG a), (encG b)] (.val (.bool ((decide (cmpQ q r < 0) || decide (cmpQ s p < 0))))) := by
  refine fn_intro Tryz.func33 rfl cb33 rfl ?_
  show PWp _ _ _ _ ⟨[(0, (.d (encG a))), (1, (.d (encG b)))], []⟩
  refine pwp_seq ?_
  refine pwp_S (S' := [(2, (.ref 0 0)), (3, (.ref 1 0))]) (B' := [(0, some (bx (encG a))), (1, some (bx (encG b)))]) ?_ ?_
  · skip
    exact sN (n_bx (d := (encG a)) (cs := (bx (encG a))) 0 rfl rfl rfl rfl) rfl rfl rfl rfl <| sN (n_bx (d := (encG b)) (cs := (bx (encG b))) 1 rfl rfl rfl rfl) rfl rfl rfl rfl <| sM (vb false) rfl rfl <| sNil rfl rfl
  refine pwp_seq ?_
  refine pwp_S (S' := [(4, (vb (decide ((cmpQ q r) < 0) || decide ((cmpQ s p) < 0))))]) (B' := []) ?_ ?_
  · skip
    refine sE' (e_fldr (q := 4) rfl rfl fo28_1 rfl) rfl <| sR (e_lda (cs := (bx (encG a))) (y := (.d (encR a.hi))) rfl rfl sh26 rfl rfl) rfl rfl rfl rfl <| sE' (e_fldr (q := 0) rfl rfl fo28_0 rfl) rfl <| sR (e_lda (cs := (bx (encG b))) (y := (.d (encR b.lo))) rfl rfl sh26 rfl rfl) rfl rfl rfl rfl <| sE' (e_cl (g_compare a.hi b.lo q r hq hr) rfl rfl rfl) rfl <| sE' (e_lss rfl rfl rfl) rfl <| sM (vb (decide ((cmpQ q r) < 0))) rfl rfl <| ?_
    rcases hb1 : (decide ((cmpQ q r) < 0)) with _ | _
    · skip
      replace hb1 := of_decide_eq_false hb1
      exact sE' (e_fldr (q := 4) rfl rfl fo28_1 rfl) rfl <| sR (e_lda (cs := (bx (encG b))) (y := (.d (encR b.hi))) rfl rfl sh26 rfl rfl) rfl rfl rfl rfl <| sE' (e_fldr (q := 0) rfl rfl fo28_0 rfl) rfl <| sR (e_lda (cs := (bx (encG a))) (y := (.d (encR a.lo))) rfl rfl sh26 rfl rfl) rfl rfl rfl rfl <| sE' (e_cl (g_compare b.hi a.lo s p hs hp) rfl rfl rfl) rfl <| sE' (e_lss rfl rfl rfl) rfl <| sE' (e_pkfo rfl rfl rfl) rfl <| sM (vb (false || decide ((cmpQ s p) < 0))) rfl rfl <| sNil rfl rfl
    · skip
      replace hb1 := of_decide_eq_true hb1
      exact sK rfl rfl rfl <| sK rfl rfl rfl <| sK rfl rfl rfl <| sK rfl rfl rfl <| sK rfl rfl rfl <| sK rfl rfl rfl <| sE' (e_pkt (z := (vb true)) rfl rfl rfl) rfl <| sM (vb true) rfl rfl <| sNil rfl rfl
  refine pwp_ret ⟨_, (.tmp (d := (.val (.bool ((decide ((cmpQ q r) < 0) || decide ((cmpQ s p) < 0)))))) rfl .nil), ?_⟩
  rfl
theorem l_brief (l : List RRat) (hl : ∀ a ∈ l, QOk a (toQ a) 140737488355328) (hb : l.length ≤ 1000000) : Takes Tryz.prog 19 [(.sl 26 4 (List.map encR l))] (.val (.bool ((l.all briefR)))) := by
  refine fn_intro Tryz.func19 rfl cb19 rfl ?_
  show PWp _ _ _ _ ⟨[(0, (vl 26 4 encR l))], []⟩
  refine pwp_seq ?_
  refine pwp_S (S' := [(0, (vl 26 4 encR l))]) (B' := []) ?_ ?_
  · skip
    exact sM (vb false) rfl rfl <| sNil rfl rfl
  refine pwp_seq ?_
  refine pwp_seq ?_
  refine pwp_S (S' := [(5, (vl 26 4 encR l)), (6, (vin l.length)), (7, (vin 0))]) (B' := []) ?_ ?_
  · skip
    exact sM (vl 26 4 encR l) rfl rfl <| sE' (e_ln (r := ((l.length : Nat) : Int)) rfl el69 rfl (by simp)) rfl <| sM (vin 0) rfl rfl <| sNil rfl rfl
  refine pwp_block ?_
  refine pwp_loop (α := Nat) (fun i => ⟨[(5, (vl 26 4 encR l)), (6, (vin l.length)), (7, (vin i))], []⟩) (fun i => i ≤ l.length ∧ (l.take i).all briefR = true) (fun i => l.length - i) 0 (weak rfl rfl) ⟨Nat.zero_le _, by simp⟩ ?_
  rintro i ⟨hi, hv⟩
  refine pwp_seq ?_
  refine pwp_S (S' := [(5, (vl 26 4 encR l)), (6, (vin l.length)), (7, (vin i)), (8, (vb (decide (((i : Nat) : Int) < ((l.length : Nat) : Int)))))]) (B' := []) ?_ ?_
  · skip
    exact sE' (e_lss rfl rfl rfl) rfl <| sNil rfl rfl
  refine pwp_seq ?_
  refine pwp_cond (b := decide (((i : Nat) : Int) < ((l.length : Nat) : Int))) rfl (fun h1 => ?_) (fun h1 => ?_)
  · skip
    replace h1 := of_decide_eq_true h1
    refine pwp_skip ?_
    refine pwp_seq ?_
    refine pwp_block ?_
    refine pwp_seq ?_
    refine pwp_S (S' := [(4, (.ref 0 0)), (5, (vl 26 4 encR l)), (6, (vin l.length)), (7, (vin i))]) (B' := [(0, some (bx (encR (l.getD i (RRat.mk (RInt.mk false []) (RInt.mk false []))))))]) ?_ ?_
    · skip
      exact sE' (e_ixs (j := i) (cs := (Dat.cells (encR (l.getD i (RRat.mk (RInt.mk false []) (RInt.mk false [])))))) rfl el69 rfl rfl (by omega) (ixm _ _ _ _ (by omega))) rfl <| sE' (e_lca (cs := (Dat.cells (encR (l.getD i (RRat.mk (RInt.mk false []) (RInt.mk false [])))))) (y := (.d (encR (l.getD i (RRat.mk (RInt.mk false []) (RInt.mk false [])))))) rfl rfl sh26 rfl rfl) rfl <| sN (n_al (cs := (bx (encR (RRat.mk (RInt.mk false []) (RInt.mk false []))))) 0 rfl ze26 zo26 rfl) rfl rfl rfl rfl <| sT (t_std (d := (encR (l.getD i (RRat.mk (RInt.mk false []) (RInt.mk false []))))) (cs := (bx (encR (l.getD i (RRat.mk (RInt.mk false []) (RInt.mk false [])))))) rfl rfl rfl sh26 rfl rfl rfl rfl) rfl rfl rfl <| sNil rfl rfl
    refine pwp_seq ?_
    refine pwp_S (S' := [(5, (vl 26 4 encR l)), (6, (vin l.length)), (7, (vin i)), (13, (vb (decide (16 < (((digR (l.getD i (RRat.mk (RInt.mk false []) (RInt.mk false [])))) : Nat) : Int)))))]) (B' := []) ?_ ?_
    · skip
      exact sR (e_lda (cs := (bx (encR (l.getD i (RRat.mk (RInt.mk false []) (RInt.mk false [])))))) (y := (.d (encR (l.getD i (RRat.mk (RInt.mk false []) (RInt.mk false [])))))) rfl rfl sh26 rfl rfl) rfl rfl rfl rfl <| sE' (e_cl (g_digits (l.getD i (RRat.mk (RInt.mk false []) (RInt.mk false []))) (toQ (l.getD i (RRat.mk (RInt.mk false []) (RInt.mk false [])))) (qok_get hl (show i < l.length by omega))) rfl rfl rfl) rfl <| sE' (e_gtr rfl rfl rfl) rfl <| sNil rfl rfl
    refine pwp_cond (b := decide (16 < (((digR (l.getD i (RRat.mk (RInt.mk false []) (RInt.mk false [])))) : Nat) : Int))) rfl (fun h2 => ?_) (fun h2 => ?_)
    · skip
      replace h2 := of_decide_eq_true h2
      refine pwp_seq ?_
      refine pwp_S (S' := [(2, (vb false))]) (B' := []) ?_ ?_
      · skip
        exact sM (vb false) rfl rfl <| sNil rfl rfl
      refine pwp_ret ⟨_, (.tmp (d := (.val (.bool (false)))) rfl .nil), ?_⟩
      rw [all_not (f := briefR) (l := l) (i := i) (d := (RRat.mk (RInt.mk false []) (RInt.mk false []))) (by omega) (by unfold briefR; rw [decide_eq_false_iff_not]; omega)]; rfl
    · skip
      replace h2 := of_decide_eq_false h2
      refine pwp_skip ?_
      refine pwp_S (S' := [(5, (vl 26 4 encR l)), (6, (vin l.length)), (7, (vin (i + 1)))]) (B' := []) ?_ ?_
      · skip
        exact sE' (e_add (r := (((i + 1) : Nat) : Int)) rfl rfl rfl (wi64 (by omega) (by omega) (by omega))) rfl <| sM (vin (i + 1)) rfl rfl <| sNil rfl rfl
      exact ⟨(i + 1), (weak rfl rfl), ⟨by omega, all_take (d := (RRat.mk (RInt.mk false []) (RInt.mk false []))) (by omega) hv (by unfold briefR; rw [decide_eq_true_eq]; omega)⟩, (by first | omega | (dsimp only; omega))⟩
  · skip
    replace h1 := of_decide_eq_false h1
    have hie : i = l.length := by omega
    rw [hie, List.take_length] at hv
    refine pwp_exit ?_
    refine pwp_seq ?_
    refine pwp_S (S' := [(2, (vb true))]) (B' := []) ?_ ?_
    · skip
      exact sM (vb true) rfl rfl <| sNil rfl rfl
    refine pwp_ret ⟨_, (.tmp (d := (.val (.bool (true)))) rfl .nil), ?_⟩
    rw [hv]; rfl
end Go.Proofs.YtcdgmcfkhkikbaaGreat
