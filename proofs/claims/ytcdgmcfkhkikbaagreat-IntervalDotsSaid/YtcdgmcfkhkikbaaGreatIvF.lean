/-
  Functions walked: each takes its data to what is said. Printed by a program of ours.
-/
import Derived.Test.YtcdgmcfkhkikbaaGreatIvD
import Derived.Test.YtcdgmcfkhkikbaaGreatImg
namespace Go.Proofs.YtcdgmcfkhkikbaaGreat
open Go.Fid
set_option maxRecDepth 4000
set_option linter.unusedVariables false
set_option linter.unusedSimpArgs false
theorem cb47 : callB Tryz.prog 47 = true := by kernel_rfl
theorem cb48 : callB Tryz.prog 48 = true := by kernel_rfl
theorem cb49 : callB Tryz.prog 49 = true := by kernel_rfl
theorem cb50 : callB Tryz.prog 50 = true := by kernel_rfl
theorem cb51 : callB Tryz.prog 51 = true := by kernel_rfl
theorem cb52 : callB Tryz.prog 52 = true := by kernel_rfl
theorem cb53 : callB Tryz.prog 53 = true := by kernel_rfl
theorem l_resE4 (b : RRng) (hb : GOk 4294967296 b) : Takes Tryz.prog 15 [(encG (RRng.mk (RRat.mk (RInt.mk false []) (RInt.mk false [])) (RRat.mk (RInt.mk false []) (RInt.mk false [])))), (.val (.int .i64 (4))), (encG b), (.val (.int .i64 (4)))] (.val (.bool (true))) := by
  refine fn_intro Tryz.func15 rfl cb15 rfl ?_
  show PWp _ _ _ _ ⟨[(0, (.d (encG (RRng.mk (RRat.mk (RInt.mk false []) (RInt.mk false [])) (RRat.mk (RInt.mk false []) (RInt.mk false [])))))), (1, (vi 4)), (2, (.d (encG b))), (3, (vi 4))], []⟩
  refine pwp_seq ?_
  refine pwp_S (S' := [(1, (vi 4)), (3, (vi 4)), (4, (.ref 0 0)), (6, (.ref 1 0))]) (B' := [(0, some (bx (encG (RRng.mk (RRat.mk (RInt.mk false []) (RInt.mk false [])) (RRat.mk (RInt.mk false []) (RInt.mk false [])))))), (1, some (bx (encG b)))]) ?_ ?_
  · skip
    exact sN (n_bx (d := (encG (RRng.mk (RRat.mk (RInt.mk false []) (RInt.mk false [])) (RRat.mk (RInt.mk false []) (RInt.mk false []))))) (cs := (bx (encG (RRng.mk (RRat.mk (RInt.mk false []) (RInt.mk false [])) (RRat.mk (RInt.mk false []) (RInt.mk false [])))))) 0 rfl rfl rfl rfl) rfl rfl rfl rfl <| sN (n_bx (d := (encG b)) (cs := (bx (encG b))) 1 rfl rfl rfl rfl) rfl rfl rfl rfl <| sM (vb false) rfl rfl <| sNil rfl rfl
  refine pwp_seq ?_
  refine pwp_seq ?_
  refine pwp_S (S' := [(1, (vi 4)), (3, (vi 4)), (4, (.ref 0 0)), (6, (.ref 1 0)), (10, (vb true))]) (B' := [(0, some (bx (encG (RRng.mk (RRat.mk (RInt.mk false []) (RInt.mk false [])) (RRat.mk (RInt.mk false []) (RInt.mk false [])))))), (1, some (bx (encG b)))]) ?_ ?_
  · skip
    exact sM (vi 4) rfl rfl <| sE' (e_neq rfl rfl rfl) rfl <| sNil rfl rfl
  refine pwp_cond (b := true) rfl (fun _ => ?_) (fun h => by cases h)
  refine pwp_seq ?_
  refine pwp_S (S' := [(8, (vb true))]) (B' := []) ?_ ?_
  · skip
    exact sM (vi 4) rfl rfl <| sM (vi 4) rfl rfl <| sE' (e_eql rfl rfl rfl) rfl <| sM (vb true) rfl rfl <| sR (e_lda (cs := (bx (encG (RRng.mk (RRat.mk (RInt.mk false []) (RInt.mk false [])) (RRat.mk (RInt.mk false []) (RInt.mk false [])))))) (y := (.d (encG (RRng.mk (RRat.mk (RInt.mk false []) (RInt.mk false [])) (RRat.mk (RInt.mk false []) (RInt.mk false [])))))) rfl rfl sh28 rfl rfl) rfl rfl rfl rfl <| sE' (e_cl (h_zero (RRng.mk (RRat.mk (RInt.mk false []) (RInt.mk false [])) (RRat.mk (RInt.mk false []) (RInt.mk false []))) (gok_up gok_none (by decide))) rfl rfl rfl) rfl <| sE' (e_pkt (z := (vb true)) rfl rfl rfl) rfl <| sM (vb true) rfl rfl <| sNil rfl rfl
  refine pwp_ret ⟨_, (.tmp (d := (.val (.bool (true)))) rfl .nil), ?_⟩
  rfl

theorem l_resE5 (b : RRng) (hb : GOk 4294967296 b) : Takes Tryz.prog 15 [(encG (RRng.mk (RRat.mk (RInt.mk false []) (RInt.mk false [])) (RRat.mk (RInt.mk false []) (RInt.mk false [])))), (.val (.int .i64 (5))), (encG b), (.val (.int .i64 (5)))] (.val (.bool (true))) := by
  refine fn_intro Tryz.func15 rfl cb15 rfl ?_
  show PWp _ _ _ _ ⟨[(0, (.d (encG (RRng.mk (RRat.mk (RInt.mk false []) (RInt.mk false [])) (RRat.mk (RInt.mk false []) (RInt.mk false [])))))), (1, (vi 5)), (2, (.d (encG b))), (3, (vi 5))], []⟩
  refine pwp_seq ?_
  refine pwp_S (S' := [(1, (vi 5)), (3, (vi 5)), (4, (.ref 0 0)), (6, (.ref 1 0))]) (B' := [(0, some (bx (encG (RRng.mk (RRat.mk (RInt.mk false []) (RInt.mk false [])) (RRat.mk (RInt.mk false []) (RInt.mk false [])))))), (1, some (bx (encG b)))]) ?_ ?_
  · skip
    exact sN (n_bx (d := (encG (RRng.mk (RRat.mk (RInt.mk false []) (RInt.mk false [])) (RRat.mk (RInt.mk false []) (RInt.mk false []))))) (cs := (bx (encG (RRng.mk (RRat.mk (RInt.mk false []) (RInt.mk false [])) (RRat.mk (RInt.mk false []) (RInt.mk false [])))))) 0 rfl rfl rfl rfl) rfl rfl rfl rfl <| sN (n_bx (d := (encG b)) (cs := (bx (encG b))) 1 rfl rfl rfl rfl) rfl rfl rfl rfl <| sM (vb false) rfl rfl <| sNil rfl rfl
  refine pwp_seq ?_
  refine pwp_seq ?_
  refine pwp_S (S' := [(1, (vi 5)), (3, (vi 5)), (4, (.ref 0 0)), (6, (.ref 1 0)), (10, (vb true))]) (B' := [(0, some (bx (encG (RRng.mk (RRat.mk (RInt.mk false []) (RInt.mk false [])) (RRat.mk (RInt.mk false []) (RInt.mk false [])))))), (1, some (bx (encG b)))]) ?_ ?_
  · skip
    exact sM (vi 5) rfl rfl <| sE' (e_neq rfl rfl rfl) rfl <| sNil rfl rfl
  refine pwp_cond (b := true) rfl (fun _ => ?_) (fun h => by cases h)
  refine pwp_seq ?_
  refine pwp_S (S' := [(8, (vb true))]) (B' := []) ?_ ?_
  · skip
    exact sM (vi 5) rfl rfl <| sM (vi 5) rfl rfl <| sE' (e_eql rfl rfl rfl) rfl <| sM (vb true) rfl rfl <| sR (e_lda (cs := (bx (encG (RRng.mk (RRat.mk (RInt.mk false []) (RInt.mk false [])) (RRat.mk (RInt.mk false []) (RInt.mk false [])))))) (y := (.d (encG (RRng.mk (RRat.mk (RInt.mk false []) (RInt.mk false [])) (RRat.mk (RInt.mk false []) (RInt.mk false [])))))) rfl rfl sh28 rfl rfl) rfl rfl rfl rfl <| sE' (e_cl (h_zero (RRng.mk (RRat.mk (RInt.mk false []) (RInt.mk false [])) (RRat.mk (RInt.mk false []) (RInt.mk false []))) (gok_up gok_none (by decide))) rfl rfl rfl) rfl <| sE' (e_pkt (z := (vb true)) rfl rfl rfl) rfl <| sM (vb true) rfl rfl <| sNil rfl rfl
  refine pwp_ret ⟨_, (.tmp (d := (.val (.bool (true)))) rfl .nil), ?_⟩
  rfl

theorem l_resE14 (b : RRng) (hb : GOk 4294967296 b) : Takes Tryz.prog 15 [(encG (RRng.mk (RRat.mk (RInt.mk false []) (RInt.mk false [])) (RRat.mk (RInt.mk false []) (RInt.mk false [])))), (.val (.int .i64 (14))), (encG b), (.val (.int .i64 (14)))] (.val (.bool (true))) := by
  refine fn_intro Tryz.func15 rfl cb15 rfl ?_
  show PWp _ _ _ _ ⟨[(0, (.d (encG (RRng.mk (RRat.mk (RInt.mk false []) (RInt.mk false [])) (RRat.mk (RInt.mk false []) (RInt.mk false [])))))), (1, (vi 14)), (2, (.d (encG b))), (3, (vi 14))], []⟩
  refine pwp_seq ?_
  refine pwp_S (S' := [(1, (vi 14)), (3, (vi 14)), (4, (.ref 0 0)), (6, (.ref 1 0))]) (B' := [(0, some (bx (encG (RRng.mk (RRat.mk (RInt.mk false []) (RInt.mk false [])) (RRat.mk (RInt.mk false []) (RInt.mk false [])))))), (1, some (bx (encG b)))]) ?_ ?_
  · skip
    exact sN (n_bx (d := (encG (RRng.mk (RRat.mk (RInt.mk false []) (RInt.mk false [])) (RRat.mk (RInt.mk false []) (RInt.mk false []))))) (cs := (bx (encG (RRng.mk (RRat.mk (RInt.mk false []) (RInt.mk false [])) (RRat.mk (RInt.mk false []) (RInt.mk false [])))))) 0 rfl rfl rfl rfl) rfl rfl rfl rfl <| sN (n_bx (d := (encG b)) (cs := (bx (encG b))) 1 rfl rfl rfl rfl) rfl rfl rfl rfl <| sM (vb false) rfl rfl <| sNil rfl rfl
  refine pwp_seq ?_
  refine pwp_seq ?_
  refine pwp_S (S' := [(1, (vi 14)), (3, (vi 14)), (4, (.ref 0 0)), (6, (.ref 1 0)), (10, (vb true))]) (B' := [(0, some (bx (encG (RRng.mk (RRat.mk (RInt.mk false []) (RInt.mk false [])) (RRat.mk (RInt.mk false []) (RInt.mk false [])))))), (1, some (bx (encG b)))]) ?_ ?_
  · skip
    exact sM (vi 14) rfl rfl <| sE' (e_neq rfl rfl rfl) rfl <| sNil rfl rfl
  refine pwp_cond (b := true) rfl (fun _ => ?_) (fun h => by cases h)
  refine pwp_seq ?_
  refine pwp_S (S' := [(8, (vb true))]) (B' := []) ?_ ?_
  · skip
    exact sM (vi 14) rfl rfl <| sM (vi 14) rfl rfl <| sE' (e_eql rfl rfl rfl) rfl <| sM (vb true) rfl rfl <| sR (e_lda (cs := (bx (encG (RRng.mk (RRat.mk (RInt.mk false []) (RInt.mk false [])) (RRat.mk (RInt.mk false []) (RInt.mk false [])))))) (y := (.d (encG (RRng.mk (RRat.mk (RInt.mk false []) (RInt.mk false [])) (RRat.mk (RInt.mk false []) (RInt.mk false [])))))) rfl rfl sh28 rfl rfl) rfl rfl rfl rfl <| sE' (e_cl (h_zero (RRng.mk (RRat.mk (RInt.mk false []) (RInt.mk false [])) (RRat.mk (RInt.mk false []) (RInt.mk false []))) (gok_up gok_none (by decide))) rfl rfl rfl) rfl <| sE' (e_pkt (z := (vb true)) rfl rfl rfl) rfl <| sM (vb true) rfl rfl <| sNil rfl rfl
  refine pwp_ret ⟨_, (.tmp (d := (.val (.bool (true)))) rfl .nil), ?_⟩
  rfl

theorem h_hasR (a : RRng) (p : Rat) (q : Rat) (hp : QOk a.lo p 4294967296) (hq : QOk a.hi q 4294967296) (x : RRat) (v : Rat) (hx : QOk x v 4294967296) : Takes Tryz.prog 28 [(encG a), (encR x)] (.val (.bool ((hasQ p q v)))) := by
  refine fn_intro Tryz.func28 rfl cb28 rfl ?_
  show PWp _ _ _ _ ⟨[(0, (.d (encG a))), (1, (.d (encR x)))], []⟩
  refine pwp_seq ?_
  refine pwp_S (S' := [(2, (.ref 0 0)), (3, (.ref 1 0))]) (B' := [(0, some (bx (encG a))), (1, some (bx (encR x)))]) ?_ ?_
  · skip
    exact sN (n_bx (d := (encG a)) (cs := (bx (encG a))) 0 rfl rfl rfl rfl) rfl rfl rfl rfl <| sN (n_bx (d := (encR x)) (cs := (bx (encR x))) 1 rfl rfl rfl rfl) rfl rfl rfl rfl <| sM (vb false) rfl rfl <| sNil rfl rfl
  refine pwp_seq ?_
  refine pwp_S (S' := [(4, (vb (decide ((cmpQ p v) ≤ 0) && decide ((cmpQ v q) ≤ 0))))]) (B' := []) ?_ ?_
  · skip
    refine sE' (e_fldr (q := 0) rfl rfl fo28_0 rfl) rfl <| sR (e_lda (cs := (bx (encG a))) (y := (.d (encR a.lo))) rfl rfl sh26 rfl rfl) rfl rfl rfl rfl <| sR (e_lda (cs := (bx (encR x))) (y := (.d (encR x))) rfl rfl sh26 rfl rfl) rfl rfl rfl rfl <| sE' (e_cl (g_compare a.lo x p v hp hx) rfl rfl rfl) rfl <| sE' (e_leq rfl rfl rfl) rfl <| sM (vb (decide ((cmpQ p v) ≤ 0))) rfl rfl <| ?_
    rcases hb1 : (decide ((cmpQ p v) ≤ 0)) with _ | _
    · skip
      replace hb1 := of_decide_eq_false hb1
      exact sK rfl rfl rfl <| sK rfl rfl rfl <| sK rfl rfl rfl <| sK rfl rfl rfl <| sK rfl rfl rfl <| sE' (e_pkf (z := (vb false)) rfl rfl rfl) rfl <| sM (vb false) rfl rfl <| sNil rfl rfl
    · skip
      replace hb1 := of_decide_eq_true hb1
      exact sR (e_lda (cs := (bx (encR x))) (y := (.d (encR x))) rfl rfl sh26 rfl rfl) rfl rfl rfl rfl <| sE' (e_fldr (q := 4) rfl rfl fo28_1 rfl) rfl <| sR (e_lda (cs := (bx (encG a))) (y := (.d (encR a.hi))) rfl rfl sh26 rfl rfl) rfl rfl rfl rfl <| sE' (e_cl (g_compare x a.hi v q hx hq) rfl rfl rfl) rfl <| sE' (e_leq rfl rfl rfl) rfl <| sE' (e_pkta rfl rfl rfl) rfl <| sM (vb (true && decide ((cmpQ v q) ≤ 0))) rfl rfl <| sNil rfl rfl
  refine pwp_ret ⟨_, (.tmp (d := (.val (.bool ((decide ((cmpQ p v) ≤ 0) && decide ((cmpQ v q) ≤ 0)))))) rfl .nil), ?_⟩
  rw [← hasQ_eq]; rfl

theorem h_neg (a : RRng) (p : Rat) (q : Rat) (hp : QOk a.lo p 4294967296) (hq : QOk a.hi q 4294967296) : Takes Tryz.prog 48 [(encG a)] (encG (RRng.mk (ofQ (-q)) (ofQ (-p)))) := by
  refine fn_intro Tryz.func48 rfl cb48 rfl ?_
  show PWp _ _ _ _ ⟨[(0, (.d (encG a)))], []⟩
  refine pwp_seq ?_
  refine pwp_S (S' := [(1, (.ref 0 0)), (2, (.ref 1 0))]) (B' := [(0, some (bx (encG a))), (1, some (bx (encG (RRng.mk (RRat.mk (RInt.mk false []) (RInt.mk false [])) (RRat.mk (RInt.mk false []) (RInt.mk false []))))))]) ?_ ?_
  · skip
    exact sN (n_bx (d := (encG a)) (cs := (bx (encG a))) 0 rfl rfl rfl rfl) rfl rfl rfl rfl <| sN (n_al (cs := (bx (encG (RRng.mk (RRat.mk (RInt.mk false []) (RInt.mk false [])) (RRat.mk (RInt.mk false []) (RInt.mk false [])))))) 1 rfl ze28 zo28 rfl) rfl rfl rfl rfl <| sNil rfl rfl
  refine pwp_seq ?_
  refine pwp_D (S' := [(2, (.ref 1 0))]) (B' := [(1, some (bx (encG (RRng.mk (ofQ (-q)) (ofQ (-p))))))]) mo (by kernel_rfl) ?_ ?_
  · skip
    exact dE' (e_fldr (q := 4) rfl rfl fo28_1 rfl) rfl rfl <| dR (e_lda (cs := (bx (encG a))) (y := (.d (encR a.hi))) rfl rfl sh26 rfl rfl) rfl rfl rfl rfl rfl <| dE' (e_cl (g_neg a.hi q (qok_up hq (by decide))) rfl rfl rfl) rfl rfl <| dE' (e_fldr (q := 0) rfl rfl fo28_0 rfl) rfl rfl <| dR (e_lda (cs := (bx (encG a))) (y := (.d (encR a.lo))) rfl rfl sh26 rfl rfl) rfl rfl rfl rfl rfl <| dE' (e_cl (g_neg a.lo p (qok_up hp (by decide))) rfl rfl rfl) rfl rfl <| dE' (e_bld (pd := [(0, (encR (ofQ (-q)))), (1, (encR (ofQ (-p))))]) (y := (encG (RRng.mk (ofQ (-q)) (ofQ (-p))))) rfl pl28 ze28 zo28 rfl rfl rfl rfl) rfl rfl <| dT (t_std (d := (encG (RRng.mk (ofQ (-q)) (ofQ (-p))))) (cs := (bx (encG (RRng.mk (ofQ (-q)) (ofQ (-p)))))) rfl rfl rfl sh28 rfl rfl rfl rfl) rfl rfl rfl rfl <| dNil rfl rfl (by kernel_rfl)
  refine pwp_ret ⟨_, (res_a (cs := (bx (encG (RRng.mk (ofQ (-q)) (ofQ (-p)))))) (d := (encG (RRng.mk (ofQ (-q)) (ofQ (-p))))) rfl rfl sh28 rfl rfl .nil), ?_⟩
  rfl

theorem h_add (a : RRng) (p : Rat) (q : Rat) (hp : QOk a.lo p 1073741824) (hq : QOk a.hi q 1073741824) (b : RRng) (r : Rat) (s : Rat) (hr : QOk b.lo r 1073741824) (hs : QOk b.hi s 1073741824) : Takes Tryz.prog 50 [(encG a), (encG b)] (encG (RRng.mk (ofQ (p + r)) (ofQ (q + s)))) := by
  refine fn_intro Tryz.func50 rfl cb50 rfl ?_
  show PWp _ _ _ _ ⟨[(0, (.d (encG a))), (1, (.d (encG b)))], []⟩
  refine pwp_seq ?_
  refine pwp_S (S' := [(2, (.ref 0 0)), (3, (.ref 1 0)), (4, (.ref 2 0))]) (B' := [(0, some (bx (encG a))), (1, some (bx (encG b))), (2, some (bx (encG (RRng.mk (RRat.mk (RInt.mk false []) (RInt.mk false [])) (RRat.mk (RInt.mk false []) (RInt.mk false []))))))]) ?_ ?_
  · skip
    exact sN (n_bx (d := (encG a)) (cs := (bx (encG a))) 0 rfl rfl rfl rfl) rfl rfl rfl rfl <| sN (n_bx (d := (encG b)) (cs := (bx (encG b))) 1 rfl rfl rfl rfl) rfl rfl rfl rfl <| sN (n_al (cs := (bx (encG (RRng.mk (RRat.mk (RInt.mk false []) (RInt.mk false [])) (RRat.mk (RInt.mk false []) (RInt.mk false [])))))) 2 rfl ze28 zo28 rfl) rfl rfl rfl rfl <| sNil rfl rfl
  refine pwp_seq ?_
  refine pwp_D (S' := [(4, (.ref 2 0))]) (B' := [(2, some (bx (encG (RRng.mk (ofQ (p + r)) (ofQ (q + s))))))]) mo (by kernel_rfl) ?_ ?_
  · skip
    exact dE' (e_fldr (q := 0) rfl rfl fo28_0 rfl) rfl rfl <| dR (e_lda (cs := (bx (encG a))) (y := (.d (encR a.lo))) rfl rfl sh26 rfl rfl) rfl rfl rfl rfl rfl <| dE' (e_fldr (q := 0) rfl rfl fo28_0 rfl) rfl rfl <| dR (e_lda (cs := (bx (encG b))) (y := (.d (encR b.lo))) rfl rfl sh26 rfl rfl) rfl rfl rfl rfl rfl <| dE' (e_cl (g_add a.lo b.lo p r (qok_up hp (by decide)) (qok_up hr (by decide))) rfl rfl rfl) rfl rfl <| dE' (e_fldr (q := 4) rfl rfl fo28_1 rfl) rfl rfl <| dR (e_lda (cs := (bx (encG a))) (y := (.d (encR a.hi))) rfl rfl sh26 rfl rfl) rfl rfl rfl rfl rfl <| dE' (e_fldr (q := 4) rfl rfl fo28_1 rfl) rfl rfl <| dR (e_lda (cs := (bx (encG b))) (y := (.d (encR b.hi))) rfl rfl sh26 rfl rfl) rfl rfl rfl rfl rfl <| dE' (e_cl (g_add a.hi b.hi q s (qok_up hq (by decide)) (qok_up hs (by decide))) rfl rfl rfl) rfl rfl <| dE' (e_bld (pd := [(0, (encR (ofQ (p + r)))), (1, (encR (ofQ (q + s))))]) (y := (encG (RRng.mk (ofQ (p + r)) (ofQ (q + s))))) rfl pl28 ze28 zo28 rfl rfl rfl rfl) rfl rfl <| dT (t_std (d := (encG (RRng.mk (ofQ (p + r)) (ofQ (q + s))))) (cs := (bx (encG (RRng.mk (ofQ (p + r)) (ofQ (q + s)))))) rfl rfl rfl sh28 rfl rfl rfl rfl) rfl rfl rfl rfl <| dNil rfl rfl (by kernel_rfl)
  refine pwp_ret ⟨_, (res_a (cs := (bx (encG (RRng.mk (ofQ (p + r)) (ofQ (q + s)))))) (d := (encG (RRng.mk (ofQ (p + r)) (ofQ (q + s))))) rfl rfl sh28 rfl rfl .nil), ?_⟩
  rfl

theorem h_sub (a : RRng) (p : Rat) (q : Rat) (hp : QOk a.lo p 1073741824) (hq : QOk a.hi q 1073741824) (b : RRng) (r : Rat) (s : Rat) (hr : QOk b.lo r 1073741824) (hs : QOk b.hi s 1073741824) : Takes Tryz.prog 51 [(encG a), (encG b)] (encG (RRng.mk (ofQ (p - s)) (ofQ (q - r)))) := by
  refine fn_intro Tryz.func51 rfl cb51 rfl ?_
  show PWp _ _ _ _ ⟨[(0, (.d (encG a))), (1, (.d (encG b)))], []⟩
  refine pwp_seq ?_
  refine pwp_S (S' := [(2, (.ref 0 0)), (3, (.ref 1 0)), (4, (.ref 2 0))]) (B' := [(0, some (bx (encG a))), (1, some (bx (encG b))), (2, some (bx (encG (RRng.mk (RRat.mk (RInt.mk false []) (RInt.mk false [])) (RRat.mk (RInt.mk false []) (RInt.mk false []))))))]) ?_ ?_
  · skip
    exact sN (n_bx (d := (encG a)) (cs := (bx (encG a))) 0 rfl rfl rfl rfl) rfl rfl rfl rfl <| sN (n_bx (d := (encG b)) (cs := (bx (encG b))) 1 rfl rfl rfl rfl) rfl rfl rfl rfl <| sN (n_al (cs := (bx (encG (RRng.mk (RRat.mk (RInt.mk false []) (RInt.mk false [])) (RRat.mk (RInt.mk false []) (RInt.mk false [])))))) 2 rfl ze28 zo28 rfl) rfl rfl rfl rfl <| sNil rfl rfl
  refine pwp_seq ?_
  refine pwp_D (S' := [(4, (.ref 2 0))]) (B' := [(2, some (bx (encG (RRng.mk (ofQ (p + (-s))) (ofQ (q + (-r)))))))]) mo (by kernel_rfl) ?_ ?_
  · skip
    exact dR (e_lda (cs := (bx (encG a))) (y := (.d (encG a))) rfl rfl sh28 rfl rfl) rfl rfl rfl rfl rfl <| dR (e_lda (cs := (bx (encG b))) (y := (.d (encG b))) rfl rfl sh28 rfl rfl) rfl rfl rfl rfl rfl <| dE' (e_cl (h_neg b r s (qok_up hr (by decide)) (qok_up hs (by decide))) rfl rfl rfl) rfl rfl <| dE' (e_cl (h_add a p q hp hq (RRng.mk (ofQ (-s)) (ofQ (-r))) (-s) (-r) (qok_of (ql_neg hs.ql)) (qok_of (ql_neg hr.ql))) rfl rfl rfl) rfl rfl <| dT (t_std (d := (encG (RRng.mk (ofQ (p + (-s))) (ofQ (q + (-r)))))) (cs := (bx (encG (RRng.mk (ofQ (p + (-s))) (ofQ (q + (-r))))))) rfl rfl rfl sh28 rfl rfl rfl rfl) rfl rfl rfl rfl <| dNil rfl rfl (by kernel_rfl)
  refine pwp_ret ⟨_, (res_a (cs := (bx (encG (RRng.mk (ofQ (p + (-s))) (ofQ (q + (-r))))))) (d := (encG (RRng.mk (ofQ (p + (-s))) (ofQ (q + (-r)))))) rfl rfl sh28 rfl rfl .nil), ?_⟩
  rw [Rat.sub_eq_add_neg, Rat.sub_eq_add_neg]; rfl

theorem h_mul (a : RRng) (p : Rat) (q : Rat) (hp : QOk a.lo p 2147483648) (hq : QOk a.hi q 2147483648) (b : RRng) (r : Rat) (s : Rat) (hr : QOk b.lo r 2147483648) (hs : QOk b.hi s 2147483648) : Takes Tryz.prog 52 [(encG a), (encG b)] (encG (RRng.mk (ofQ (mnL (p * r) [(p * s), (q * r), (q * s)])) (ofQ (mxL (p * r) [(p * s), (q * r), (q * s)])))) := by
  refine fn_intro Tryz.func52 rfl cb52 rfl ?_
  show PWp _ _ _ _ ⟨[(0, (.d (encG a))), (1, (.d (encG b)))], []⟩
  refine pwp_seq ?_
  refine pwp_S (S' := [(2, (.ref 0 0)), (3, (.ref 1 0)), (4, (.ref 2 0))]) (B' := [(0, some (bx (encG a))), (1, some (bx (encG b))), (2, some (bx (encG (RRng.mk (RRat.mk (RInt.mk false []) (RInt.mk false [])) (RRat.mk (RInt.mk false []) (RInt.mk false []))))))]) ?_ ?_
  · skip
    exact sN (n_bx (d := (encG a)) (cs := (bx (encG a))) 0 rfl rfl rfl rfl) rfl rfl rfl rfl <| sN (n_bx (d := (encG b)) (cs := (bx (encG b))) 1 rfl rfl rfl rfl) rfl rfl rfl rfl <| sN (n_al (cs := (bx (encG (RRng.mk (RRat.mk (RInt.mk false []) (RInt.mk false [])) (RRat.mk (RInt.mk false []) (RInt.mk false [])))))) 2 rfl ze28 zo28 rfl) rfl rfl rfl rfl <| sNil rfl rfl
  refine pwp_seq ?_
  refine pwp_D (S' := [(4, (.ref 2 0))]) (B' := [(2, some (bx (encG (RRng.mk (ofQ (mnL (p * r) [(p * s), (q * r), (q * s)])) (ofQ (mxL (p * r) [(p * s), (q * r), (q * s)]))))))]) mo (by kernel_rfl) ?_ ?_
  · skip
    exact dE' (e_fldr (q := 0) rfl rfl fo28_0 rfl) rfl rfl <| dR (e_lda (cs := (bx (encG a))) (y := (.d (encR a.lo))) rfl rfl sh26 rfl rfl) rfl rfl rfl rfl rfl <| dE' (e_fldr (q := 0) rfl rfl fo28_0 rfl) rfl rfl <| dR (e_lda (cs := (bx (encG b))) (y := (.d (encR b.lo))) rfl rfl sh26 rfl rfl) rfl rfl rfl rfl rfl <| dE' (e_cl (g_mul a.lo b.lo p r (qok_up hp (by decide)) (qok_up hr (by decide))) rfl rfl rfl) rfl rfl <| dE' (e_fldr (q := 0) rfl rfl fo28_0 rfl) rfl rfl <| dR (e_lda (cs := (bx (encG a))) (y := (.d (encR a.lo))) rfl rfl sh26 rfl rfl) rfl rfl rfl rfl rfl <| dE' (e_fldr (q := 4) rfl rfl fo28_1 rfl) rfl rfl <| dR (e_lda (cs := (bx (encG b))) (y := (.d (encR b.hi))) rfl rfl sh26 rfl rfl) rfl rfl rfl rfl rfl <| dE' (e_cl (g_mul a.lo b.hi p s (qok_up hp (by decide)) (qok_up hs (by decide))) rfl rfl rfl) rfl rfl <| dE' (e_fldr (q := 4) rfl rfl fo28_1 rfl) rfl rfl <| dR (e_lda (cs := (bx (encG a))) (y := (.d (encR a.hi))) rfl rfl sh26 rfl rfl) rfl rfl rfl rfl rfl <| dE' (e_fldr (q := 0) rfl rfl fo28_0 rfl) rfl rfl <| dR (e_lda (cs := (bx (encG b))) (y := (.d (encR b.lo))) rfl rfl sh26 rfl rfl) rfl rfl rfl rfl rfl <| dE' (e_cl (g_mul a.hi b.lo q r (qok_up hq (by decide)) (qok_up hr (by decide))) rfl rfl rfl) rfl rfl <| dE' (e_fldr (q := 4) rfl rfl fo28_1 rfl) rfl rfl <| dR (e_lda (cs := (bx (encG a))) (y := (.d (encR a.hi))) rfl rfl sh26 rfl rfl) rfl rfl rfl rfl rfl <| dE' (e_fldr (q := 4) rfl rfl fo28_1 rfl) rfl rfl <| dR (e_lda (cs := (bx (encG b))) (y := (.d (encR b.hi))) rfl rfl sh26 rfl rfl) rfl rfl rfl rfl rfl <| dE' (e_cl (g_mul a.hi b.hi q s (qok_up hq (by decide)) (qok_up hs (by decide))) rfl rfl rfl) rfl rfl <| dE' (e_bsl (pd := [(0, (encR (ofQ (p * r)))), (1, (encR (ofQ (p * s)))), (2, (encR (ofQ (q * r)))), (3, (encR (ofQ (q * s))))]) (es := List.map encR [(ofQ (p * r)), (ofQ (p * s)), (ofQ (q * r)), (ofQ (q * s))]) rfl el69 ze26 zo26 rfl rfl rfl rfl rfl rfl rfl rfl) rfl rfl <| dE' (e_cl (h_spanned (p * r) [(p * s), (q * r), (q * s)] (List.forall_mem_cons.2 ⟨(ql_mul (k := 4294967296) hp.ql hr.ql (by decide)), (List.forall_mem_cons.2 ⟨(ql_mul (k := 4294967296) hp.ql hs.ql (by decide)), (List.forall_mem_cons.2 ⟨(ql_mul (k := 4294967296) hq.ql hr.ql (by decide)), (List.forall_mem_cons.2 ⟨(ql_mul (k := 4294967296) hq.ql hs.ql (by decide)), (fun a h => by cases h)⟩)⟩)⟩)⟩) (by simp)) rfl rfl rfl) rfl rfl <| dT (t_std (d := (encG (RRng.mk (ofQ (mnL (p * r) [(p * s), (q * r), (q * s)])) (ofQ (mxL (p * r) [(p * s), (q * r), (q * s)]))))) (cs := (bx (encG (RRng.mk (ofQ (mnL (p * r) [(p * s), (q * r), (q * s)])) (ofQ (mxL (p * r) [(p * s), (q * r), (q * s)])))))) rfl rfl rfl sh28 rfl rfl rfl rfl) rfl rfl rfl rfl <| dNil rfl rfl (by kernel_rfl)
  refine pwp_ret ⟨_, (res_a (cs := (bx (encG (RRng.mk (ofQ (mnL (p * r) [(p * s), (q * r), (q * s)])) (ofQ (mxL (p * r) [(p * s), (q * r), (q * s)])))))) (d := (encG (RRng.mk (ofQ (mnL (p * r) [(p * s), (q * r), (q * s)])) (ofQ (mxL (p * r) [(p * s), (q * r), (q * s)]))))) rfl rfl sh28 rfl rfl .nil), ?_⟩
  rfl

theorem h_square (a : RRng) (p : Rat) (q : Rat) (hp : QOk a.lo p 1073741824) (hq : QOk a.hi q 1073741824) : Takes Tryz.prog 49 [(encG a)] (encG (RRng.mk (ofQ (sqL p q)) (ofQ (sqH p q)))) := by
  refine fn_intro Tryz.func49 rfl cb49 rfl ?_
  show PWp _ _ _ _ ⟨[(0, (.d (encG a)))], []⟩
  refine pwp_seq ?_
  refine pwp_S (S' := [(1, (.ref 0 0)), (2, (.ref 1 0))]) (B' := [(0, some (bx (encG a))), (1, some (bx (encG (RRng.mk (RRat.mk (RInt.mk false []) (RInt.mk false [])) (RRat.mk (RInt.mk false []) (RInt.mk false []))))))]) ?_ ?_
  · skip
    exact sN (n_bx (d := (encG a)) (cs := (bx (encG a))) 0 rfl rfl rfl rfl) rfl rfl rfl rfl <| sN (n_al (cs := (bx (encG (RRng.mk (RRat.mk (RInt.mk false []) (RInt.mk false [])) (RRat.mk (RInt.mk false []) (RInt.mk false [])))))) 1 rfl ze28 zo28 rfl) rfl rfl rfl rfl <| sNil rfl rfl
  refine pwp_seq ?_
  refine pwp_D (S' := [(1, (.ref 0 0)), (2, (.ref 1 0)), (3, (.own 2 26 4 2))]) (B' := [(0, some (bx (encG a))), (1, some (bx (encG (RRng.mk (RRat.mk (RInt.mk false []) (RInt.mk false [])) (RRat.mk (RInt.mk false []) (RInt.mk false [])))))), (2, some (bxs encR [(ofQ (p * p)), (ofQ (q * q))]))]) mo (by kernel_rfl) ?_ ?_
  · skip
    exact dE' (e_fldr (q := 0) rfl rfl fo28_0 rfl) rfl rfl <| dR (e_lda (cs := (bx (encG a))) (y := (.d (encR a.lo))) rfl rfl sh26 rfl rfl) rfl rfl rfl rfl rfl <| dE' (e_fldr (q := 0) rfl rfl fo28_0 rfl) rfl rfl <| dR (e_lda (cs := (bx (encG a))) (y := (.d (encR a.lo))) rfl rfl sh26 rfl rfl) rfl rfl rfl rfl rfl <| dE' (e_cl (g_mul a.lo a.lo p p (qok_up hp (by decide)) (qok_up hp (by decide))) rfl rfl rfl) rfl rfl <| dE' (e_fldr (q := 4) rfl rfl fo28_1 rfl) rfl rfl <| dR (e_lda (cs := (bx (encG a))) (y := (.d (encR a.hi))) rfl rfl sh26 rfl rfl) rfl rfl rfl rfl rfl <| dE' (e_fldr (q := 4) rfl rfl fo28_1 rfl) rfl rfl <| dR (e_lda (cs := (bx (encG a))) (y := (.d (encR a.hi))) rfl rfl sh26 rfl rfl) rfl rfl rfl rfl rfl <| dE' (e_cl (g_mul a.hi a.hi q q (qok_up hq (by decide)) (qok_up hq (by decide))) rfl rfl rfl) rfl rfl <| dN (n_bso (pd := [(0, (encR (ofQ (p * p)))), (1, (encR (ofQ (q * q))))]) (es := List.map encR [(ofQ (p * p)), (ofQ (q * q))]) (cs := (bxs encR [(ofQ (p * p)), (ofQ (q * q))])) 2 rfl el69 ze26 zo26 rfl rfl rfl rfl rfl rfl rfl rfl rfl) rfl rfl rfl rfl rfl (clearL_map _ _ _) <| dM (.own 2 26 4 2) rfl rfl rfl <| dNil rfl rfl (by kernel_rfl)
  refine pwp_seq ?_
  refine pwp_seq ?_
  refine pwp_D (S' := [(2, (.ref 1 0)), (3, (.own 2 26 4 2)), (17, (vb (hasQ p q ((0 : Int) : Rat))))]) (B' := [(1, some (bx (encG (RRng.mk (RRat.mk (RInt.mk false []) (RInt.mk false [])) (RRat.mk (RInt.mk false []) (RInt.mk false [])))))), (2, some (bxs encR [(ofQ (p * p)), (ofQ (q * q))]))]) mo (by kernel_rfl) ?_ ?_
  · skip
    exact dR (e_lda (cs := (bx (encG a))) (y := (.d (encG a))) rfl rfl sh28 rfl rfl) rfl rfl rfl rfl rfl <| dE' (e_cl (g_whole 0 (by decide) (by decide)) rfl rfl rfl) rfl rfl <| dE' (e_cl (h_hasR a p q (qok_up hp (by decide)) (qok_up hq (by decide)) (ofQ ((0 : Int) : Rat)) ((0 : Int) : Rat) (qok_up (qok_of (ql_int (z := 0) (lenZ_one (by decide)) (by decide))) (by decide))) rfl rfl rfl) rfl rfl <| dNil rfl rfl (by kernel_rfl)
  refine pwp_cond (b := (hasQ p q ((0 : Int) : Rat))) rfl (fun h1 => ?_) (fun h1 => ?_)
  · skip
    refine pwp_S (S' := [(2, (.ref 1 0)), (3, (.own 2 26 4 ([(ofQ (p * p)), (ofQ (q * q)), (ofQ ((0 : Int) : Rat))].length)))]) (B' := [(1, some (bx (encG (RRng.mk (RRat.mk (RInt.mk false []) (RInt.mk false [])) (RRat.mk (RInt.mk false []) (RInt.mk false [])))))), (2, some (bxs encR [(ofQ (p * p)), (ofQ (q * q)), (ofQ ((0 : Int) : Rat))]))]) ?_ ?_
    · skip
      exact sM (.own 2 26 4 2) rfl rfl <| sE' (e_cl (g_whole 0 (by decide) (by decide)) rfl rfl rfl) rfl <| sE' (e_bsl (pd := [(0, (encR (ofQ ((0 : Int) : Rat))))]) (es := List.map encR [(ofQ ((0 : Int) : Rat))]) rfl el69 ze26 zo26 rfl rfl rfl rfl rfl rfl rfl rfl) rfl <| sAppS (m2 := [(ofQ (p * p)), (ofQ (q * q)), (ofQ ((0 : Int) : Rat))].length) encR [(ofQ (p * p)), (ofQ (q * q))] [(ofQ ((0 : Int) : Rat))] (fun _ => rfl) rfl rfl rfl rfl el69 ze26 rfl by26 rfl rfl rfl rfl (by simp only [List.length_cons, List.length_nil, maxLen]; omega) (by first | omega | (simp only [List.length_cons, List.length_nil]; omega)) (by repeat first | exact clr_nil _ | refine clr_self ?_ | refine clr_map ?_ | refine clr_bx ?_ | refine clr_d ?_) (by simp; try omega) <| sM (.own 2 26 4 ([(ofQ (p * p)), (ofQ (q * q)), (ofQ ((0 : Int) : Rat))].length)) rfl rfl <| sNil rfl rfl
    refine pwp_seq ?_
    refine pwp_sim (publish (t := 3) (k := 2) (es := List.map encR [(ofQ (p * p)), (ofQ (q * q)), (ofQ ((0 : Int) : Rat))]) rfl rfl (pubs_cells _ _ (fun _ => rfl)) (map_len _ _ rfl) (pubs_take encR [(ofQ (p * p)), (ofQ (q * q)), (ofQ ((0 : Int) : Rat))] (fun _ => rfl) rfl)) ?_
    refine pwp_sim (weak (l := [(2, (.ref 1 0)), (3, (vl 26 4 encR [(ofQ (p * p)), (ofQ (q * q)), (ofQ ((0 : Int) : Rat))]))]) (b := [(1, some (bx (encG (RRng.mk (RRat.mk (RInt.mk false []) (RInt.mk false [])) (RRat.mk (RInt.mk false []) (RInt.mk false []))))))]) rfl rfl) ?_
    refine pwp_S (S' := [(2, (.ref 1 0))]) (B' := [(1, some (bx (encG (RRng.mk (ofQ (mnL (p * p) [(q * q), ((0 : Int) : Rat)])) (ofQ (mxL (p * p) [(q * q), ((0 : Int) : Rat)]))))))]) ?_ ?_
    · skip
      exact sM (vl 26 4 encR [(ofQ (p * p)), (ofQ (q * q)), (ofQ ((0 : Int) : Rat))]) rfl rfl <| sE' (e_cl (h_spanned (p * p) [(q * q), ((0 : Int) : Rat)] (List.forall_mem_cons.2 ⟨(ql_up (ql_mul (k := 2147483648) hp.ql hp.ql (by decide)) (by decide)), (List.forall_mem_cons.2 ⟨(ql_up (ql_mul (k := 2147483648) hq.ql hq.ql (by decide)) (by decide)), (List.forall_mem_cons.2 ⟨(ql_up (ql_int (z := 0) (lenZ_one (by decide)) (by decide)) (by decide)), (fun a h => by cases h)⟩)⟩)⟩) (by simp)) rfl rfl rfl) rfl <| sT (t_std (d := (encG (RRng.mk (ofQ (mnL (p * p) [(q * q), ((0 : Int) : Rat)])) (ofQ (mxL (p * p) [(q * q), ((0 : Int) : Rat)]))))) (cs := (bx (encG (RRng.mk (ofQ (mnL (p * p) [(q * q), ((0 : Int) : Rat)])) (ofQ (mxL (p * p) [(q * q), ((0 : Int) : Rat)])))))) rfl rfl rfl sh28 rfl rfl rfl rfl) rfl rfl rfl <| sNil rfl rfl
    refine pwp_ret ⟨_, (res_a (cs := (bx (encG (RRng.mk (ofQ (mnL (p * p) [(q * q), ((0 : Int) : Rat)])) (ofQ (mxL (p * p) [(q * q), ((0 : Int) : Rat)])))))) (d := (encG (RRng.mk (ofQ (mnL (p * p) [(q * q), ((0 : Int) : Rat)])) (ofQ (mxL (p * p) [(q * q), ((0 : Int) : Rat)]))))) rfl rfl sh28 rfl rfl .nil), ?_⟩
    rw [sq_hasL h1, sq_hasH]; rfl
  · skip
    refine pwp_skip ?_
    refine pwp_seq ?_
    refine pwp_sim (publish (t := 3) (k := 2) (es := List.map encR [(ofQ (p * p)), (ofQ (q * q))]) rfl rfl (pubs_cells _ _ (fun _ => rfl)) (map_len _ _ rfl) (pubs_take encR [(ofQ (p * p)), (ofQ (q * q))] (fun _ => rfl) rfl)) ?_
    refine pwp_sim (weak (l := [(2, (.ref 1 0)), (3, (vl 26 4 encR [(ofQ (p * p)), (ofQ (q * q))])), (17, (vb (hasQ p q ((0 : Int) : Rat))))]) (b := [(1, some (bx (encG (RRng.mk (RRat.mk (RInt.mk false []) (RInt.mk false [])) (RRat.mk (RInt.mk false []) (RInt.mk false []))))))]) rfl rfl) ?_
    refine pwp_S (S' := [(2, (.ref 1 0))]) (B' := [(1, some (bx (encG (RRng.mk (ofQ (mnL (p * p) [(q * q)])) (ofQ (mxL (p * p) [(q * q)]))))))]) ?_ ?_
    · skip
      exact sM (vl 26 4 encR [(ofQ (p * p)), (ofQ (q * q))]) rfl rfl <| sE' (e_cl (h_spanned (p * p) [(q * q)] (List.forall_mem_cons.2 ⟨(ql_up (ql_mul (k := 2147483648) hp.ql hp.ql (by decide)) (by decide)), (List.forall_mem_cons.2 ⟨(ql_up (ql_mul (k := 2147483648) hq.ql hq.ql (by decide)) (by decide)), (fun a h => by cases h)⟩)⟩) (by simp)) rfl rfl rfl) rfl <| sT (t_std (d := (encG (RRng.mk (ofQ (mnL (p * p) [(q * q)])) (ofQ (mxL (p * p) [(q * q)]))))) (cs := (bx (encG (RRng.mk (ofQ (mnL (p * p) [(q * q)])) (ofQ (mxL (p * p) [(q * q)])))))) rfl rfl rfl sh28 rfl rfl rfl rfl) rfl rfl rfl <| sNil rfl rfl
    refine pwp_ret ⟨_, (res_a (cs := (bx (encG (RRng.mk (ofQ (mnL (p * p) [(q * q)])) (ofQ (mxL (p * p) [(q * q)])))))) (d := (encG (RRng.mk (ofQ (mnL (p * p) [(q * q)])) (ofQ (mxL (p * p) [(q * q)]))))) rfl rfl sh28 rfl rfl .nil), ?_⟩
    rw [sq_noL h1]; rfl

theorem h_divideZ (p : Rat) (q : Rat) (hp : QL p 1073741824) (hq : QL q 1073741824) (hpq : p ≤ q) (r : Rat) (s : Rat) (hr : QL r 1073741824) (hs : QL s 1073741824) (hrs : r ≤ s) (hz : zeroG r s = true) : Takes Tryz.prog 53 [(encG (RRng.mk (ofQ p) (ofQ q))), (encG (RRng.mk (ofQ r) (ofQ s)))] (.tup [(encG (RRng.mk (RRat.mk (RInt.mk false []) (RInt.mk false [])) (RRat.mk (RInt.mk false []) (RInt.mk false [])))), (.val (.int .i64 (14)))]) := by
  refine fn_intro Tryz.func53 rfl cb53 rfl ?_
  show PWp _ _ _ _ ⟨[(0, (.d (encG (RRng.mk (ofQ p) (ofQ q))))), (1, (.d (encG (RRng.mk (ofQ r) (ofQ s)))))], []⟩
  refine pwp_seq ?_
  refine pwp_S (S' := [(2, (.ref 0 0)), (3, (.ref 1 0)), (4, (.ref 2 0))]) (B' := [(0, some (bx (encG (RRng.mk (ofQ p) (ofQ q))))), (1, some (bx (encG (RRng.mk (ofQ r) (ofQ s))))), (2, some (bx (encG (RRng.mk (RRat.mk (RInt.mk false []) (RInt.mk false [])) (RRat.mk (RInt.mk false []) (RInt.mk false []))))))]) ?_ ?_
  · skip
    exact sN (n_bx (d := (encG (RRng.mk (ofQ p) (ofQ q)))) (cs := (bx (encG (RRng.mk (ofQ p) (ofQ q))))) 0 rfl rfl rfl rfl) rfl rfl rfl rfl <| sN (n_bx (d := (encG (RRng.mk (ofQ r) (ofQ s)))) (cs := (bx (encG (RRng.mk (ofQ r) (ofQ s))))) 1 rfl rfl rfl rfl) rfl rfl rfl rfl <| sN (n_al (cs := (bx (encG (RRng.mk (RRat.mk (RInt.mk false []) (RInt.mk false [])) (RRat.mk (RInt.mk false []) (RInt.mk false [])))))) 2 rfl ze28 zo28 rfl) rfl rfl rfl rfl <| sM (vin 0) rfl rfl <| sNil rfl rfl
  refine pwp_seq ?_
  refine pwp_seq ?_
  refine pwp_D (S' := [(2, (.ref 0 0)), (3, (.ref 1 0)), (4, (.ref 2 0)), (12, (vb true))]) (B' := [(0, some (bx (encG (RRng.mk (ofQ p) (ofQ q))))), (1, some (bx (encG (RRng.mk (ofQ r) (ofQ s))))), (2, some (bx (encG (RRng.mk (RRat.mk (RInt.mk false []) (RInt.mk false [])) (RRat.mk (RInt.mk false []) (RInt.mk false []))))))]) mo (by kernel_rfl) ?_ ?_
  · skip
    exact dR (e_lda (cs := (bx (encG (RRng.mk (ofQ r) (ofQ s))))) (y := (.d (encG (RRng.mk (ofQ r) (ofQ s))))) rfl rfl sh28 rfl rfl) rfl rfl rfl rfl rfl <| dE' (e_cl (g_whole 0 (by decide) (by decide)) rfl rfl rfl) rfl rfl <| dE' (e_bk (e_cl (h_hasR (RRng.mk (ofQ r) (ofQ s)) r s (qok_up (qok_of hr) (by decide)) (qok_up (qok_of hs) (by decide)) (ofQ ((0 : Int) : Rat)) ((0 : Int) : Rat) (qok_up (qok_of (ql_int (z := 0) (lenZ_one (by decide)) (by decide))) (by decide))) rfl rfl rfl) hz) rfl rfl <| dNil rfl rfl (by kernel_rfl)
  refine pwp_cond (b := true) rfl (fun _ => ?_) (fun h => by cases h)
  refine pwp_seq ?_
  refine pwp_S (S' := [(4, (.ref 2 0)), (5, (vin 14))]) (B' := [(2, some (bx (encG (RRng.mk (RRat.mk (RInt.mk false []) (RInt.mk false [])) (RRat.mk (RInt.mk false []) (RInt.mk false []))))))]) ?_ ?_
  · skip
    exact sE' (e_bld (pd := []) (y := (encG (RRng.mk (RRat.mk (RInt.mk false []) (RInt.mk false [])) (RRat.mk (RInt.mk false []) (RInt.mk false []))))) rfl pl28 ze28 zo28 rfl rfl rfl rfl) rfl <| sT (t_std (d := (encG (RRng.mk (RRat.mk (RInt.mk false []) (RInt.mk false [])) (RRat.mk (RInt.mk false []) (RInt.mk false []))))) (cs := (bx (encG (RRng.mk (RRat.mk (RInt.mk false []) (RInt.mk false [])) (RRat.mk (RInt.mk false []) (RInt.mk false [])))))) rfl rfl rfl sh28 rfl rfl rfl rfl) rfl rfl rfl <| sM (vin 14) rfl rfl <| sNil rfl rfl
  refine pwp_ret ⟨_, (res_a (cs := (bx (encG (RRng.mk (RRat.mk (RInt.mk false []) (RInt.mk false [])) (RRat.mk (RInt.mk false []) (RInt.mk false [])))))) (d := (encG (RRng.mk (RRat.mk (RInt.mk false []) (RInt.mk false [])) (RRat.mk (RInt.mk false []) (RInt.mk false []))))) rfl rfl sh28 rfl rfl (.tmp (d := (.val (.int .i64 (14)))) rfl .nil)), ?_⟩
  rfl

theorem h_divide (p : Rat) (q : Rat) (hp : QL p 1073741824) (hq : QL q 1073741824) (hpq : p ≤ q) (r : Rat) (s : Rat) (hr : QL r 1073741824) (hs : QL s 1073741824) (hrs : r ≤ s) (hz : zeroG r s = false) : Takes Tryz.prog 53 [(encG (RRng.mk (ofQ p) (ofQ q))), (encG (RRng.mk (ofQ r) (ofQ s)))] (.tup [(encG (RRng.mk (ofQ (mnL (p / r) [(p / s), (q / r), (q / s)])) (ofQ (mxL (p / r) [(p / s), (q / r), (q / s)])))), (.val (.int .i64 (0)))]) := by
  obtain ⟨hr0, hs0⟩ := zeroG_ne hrs hz
  refine fn_intro Tryz.func53 rfl cb53 rfl ?_
  show PWp _ _ _ _ ⟨[(0, (.d (encG (RRng.mk (ofQ p) (ofQ q))))), (1, (.d (encG (RRng.mk (ofQ r) (ofQ s)))))], []⟩
  refine pwp_seq ?_
  refine pwp_S (S' := [(2, (.ref 0 0)), (3, (.ref 1 0)), (4, (.ref 2 0))]) (B' := [(0, some (bx (encG (RRng.mk (ofQ p) (ofQ q))))), (1, some (bx (encG (RRng.mk (ofQ r) (ofQ s))))), (2, some (bx (encG (RRng.mk (RRat.mk (RInt.mk false []) (RInt.mk false [])) (RRat.mk (RInt.mk false []) (RInt.mk false []))))))]) ?_ ?_
  · skip
    exact sN (n_bx (d := (encG (RRng.mk (ofQ p) (ofQ q)))) (cs := (bx (encG (RRng.mk (ofQ p) (ofQ q))))) 0 rfl rfl rfl rfl) rfl rfl rfl rfl <| sN (n_bx (d := (encG (RRng.mk (ofQ r) (ofQ s)))) (cs := (bx (encG (RRng.mk (ofQ r) (ofQ s))))) 1 rfl rfl rfl rfl) rfl rfl rfl rfl <| sN (n_al (cs := (bx (encG (RRng.mk (RRat.mk (RInt.mk false []) (RInt.mk false [])) (RRat.mk (RInt.mk false []) (RInt.mk false [])))))) 2 rfl ze28 zo28 rfl) rfl rfl rfl rfl <| sM (vin 0) rfl rfl <| sNil rfl rfl
  refine pwp_seq ?_
  refine pwp_seq ?_
  refine pwp_D (S' := [(2, (.ref 0 0)), (3, (.ref 1 0)), (4, (.ref 2 0)), (12, (vb false))]) (B' := [(0, some (bx (encG (RRng.mk (ofQ p) (ofQ q))))), (1, some (bx (encG (RRng.mk (ofQ r) (ofQ s))))), (2, some (bx (encG (RRng.mk (RRat.mk (RInt.mk false []) (RInt.mk false [])) (RRat.mk (RInt.mk false []) (RInt.mk false []))))))]) mo (by kernel_rfl) ?_ ?_
  · skip
    exact dR (e_lda (cs := (bx (encG (RRng.mk (ofQ r) (ofQ s))))) (y := (.d (encG (RRng.mk (ofQ r) (ofQ s))))) rfl rfl sh28 rfl rfl) rfl rfl rfl rfl rfl <| dE' (e_cl (g_whole 0 (by decide) (by decide)) rfl rfl rfl) rfl rfl <| dE' (e_bk (e_cl (h_hasR (RRng.mk (ofQ r) (ofQ s)) r s (qok_up (qok_of hr) (by decide)) (qok_up (qok_of hs) (by decide)) (ofQ ((0 : Int) : Rat)) ((0 : Int) : Rat) (qok_up (qok_of (ql_int (z := 0) (lenZ_one (by decide)) (by decide))) (by decide))) rfl rfl rfl) hz) rfl rfl <| dNil rfl rfl (by kernel_rfl)
  refine pwp_cond (b := false) rfl (fun h => by cases h) (fun _ => ?_)
  refine pwp_skip ?_
  refine pwp_seq ?_
  refine pwp_D (S' := [(2, (.ref 0 0)), (3, (.ref 1 0)), (4, (.ref 2 0)), (6, (.ref 3 0))]) (B' := [(0, some (bx (encG (RRng.mk (ofQ p) (ofQ q))))), (1, some (bx (encG (RRng.mk (ofQ r) (ofQ s))))), (2, some (bx (encG (RRng.mk (RRat.mk (RInt.mk false []) (RInt.mk false [])) (RRat.mk (RInt.mk false []) (RInt.mk false [])))))), (3, some (bx (encR (ofQ (((1 : Int) : Rat) / s)))))]) mo (by kernel_rfl) ?_ ?_
  · skip
    exact dE' (e_cl (g_whole 1 (by decide) (by decide)) rfl rfl rfl) rfl rfl <| dE' (e_fldr (q := 4) rfl rfl fo28_1 rfl) rfl rfl <| dR (e_lda (cs := (bx (encG (RRng.mk (ofQ r) (ofQ s))))) (y := (.d (encR (ofQ s)))) rfl rfl sh26 rfl rfl) rfl rfl rfl rfl rfl <| dE' (e_cl (by have h := g_divide (ofQ ((1 : Int) : Rat)) (ofQ s) ((1 : Int) : Rat) s (qok_up (qok_of (ql_int (z := 1) (lenZ_one (by decide)) (by decide))) (by decide)) (qok_up (qok_of hs) (by decide)); rw [divR_ne hs0, divC_ne hs0] at h; exact h) rfl rfl rfl) rfl rfl <| dM (.d (.tup [(encR (ofQ (((1 : Int) : Rat) / s))), (.val (.int .i64 (0)))])) rfl rfl rfl <| dE' (e_exD (d := (encR (ofQ (((1 : Int) : Rat) / s)))) rfl rfl rfl) rfl rfl <| dE' (e_exD (d := (.val (.int .i64 (0)))) rfl rfl rfl) rfl rfl <| dN (n_al (cs := (bx (encR (RRat.mk (RInt.mk false []) (RInt.mk false []))))) 3 rfl ze26 zo26 rfl) rfl rfl rfl rfl rfl rfl <| dT (t_std (d := (encR (ofQ (((1 : Int) : Rat) / s)))) (cs := (bx (encR (ofQ (((1 : Int) : Rat) / s))))) rfl rfl rfl sh26 rfl rfl rfl rfl) rfl rfl rfl rfl <| dM (vi 0) rfl rfl rfl <| dNil rfl rfl (by kernel_rfl)
  refine pwp_seq ?_
  refine pwp_D (S' := [(2, (.ref 0 0)), (4, (.ref 2 0)), (6, (.ref 3 0)), (8, (.ref 4 0))]) (B' := [(0, some (bx (encG (RRng.mk (ofQ p) (ofQ q))))), (2, some (bx (encG (RRng.mk (RRat.mk (RInt.mk false []) (RInt.mk false [])) (RRat.mk (RInt.mk false []) (RInt.mk false [])))))), (3, some (bx (encR (ofQ (((1 : Int) : Rat) / s))))), (4, some (bx (encR (ofQ (((1 : Int) : Rat) / r)))))]) mo (by kernel_rfl) ?_ ?_
  · skip
    exact dE' (e_cl (g_whole 1 (by decide) (by decide)) rfl rfl rfl) rfl rfl <| dE' (e_fldr (q := 0) rfl rfl fo28_0 rfl) rfl rfl <| dR (e_lda (cs := (bx (encG (RRng.mk (ofQ r) (ofQ s))))) (y := (.d (encR (ofQ r)))) rfl rfl sh26 rfl rfl) rfl rfl rfl rfl rfl <| dE' (e_cl (by have h := g_divide (ofQ ((1 : Int) : Rat)) (ofQ r) ((1 : Int) : Rat) r (qok_up (qok_of (ql_int (z := 1) (lenZ_one (by decide)) (by decide))) (by decide)) (qok_up (qok_of hr) (by decide)); rw [divR_ne hr0, divC_ne hr0] at h; exact h) rfl rfl rfl) rfl rfl <| dM (.d (.tup [(encR (ofQ (((1 : Int) : Rat) / r))), (.val (.int .i64 (0)))])) rfl rfl rfl <| dE' (e_exD (d := (encR (ofQ (((1 : Int) : Rat) / r)))) rfl rfl rfl) rfl rfl <| dE' (e_exD (d := (.val (.int .i64 (0)))) rfl rfl rfl) rfl rfl <| dN (n_al (cs := (bx (encR (RRat.mk (RInt.mk false []) (RInt.mk false []))))) 4 rfl ze26 zo26 rfl) rfl rfl rfl rfl rfl rfl <| dT (t_std (d := (encR (ofQ (((1 : Int) : Rat) / r)))) (cs := (bx (encR (ofQ (((1 : Int) : Rat) / r))))) rfl rfl rfl sh26 rfl rfl rfl rfl) rfl rfl rfl rfl <| dM (vi 0) rfl rfl rfl <| dNil rfl rfl (by kernel_rfl)
  refine pwp_seq ?_
  refine pwp_S (S' := [(4, (.ref 2 0)), (5, (vin 0))]) (B' := [(2, some (bx (encG (RRng.mk (ofQ (mnL (p * (((1 : Int) : Rat) / s)) [(p * (((1 : Int) : Rat) / r)), (q * (((1 : Int) : Rat) / s)), (q * (((1 : Int) : Rat) / r))])) (ofQ (mxL (p * (((1 : Int) : Rat) / s)) [(p * (((1 : Int) : Rat) / r)), (q * (((1 : Int) : Rat) / s)), (q * (((1 : Int) : Rat) / r))]))))))]) ?_ ?_
  · skip
    exact sR (e_lda (cs := (bx (encG (RRng.mk (ofQ p) (ofQ q))))) (y := (.d (encG (RRng.mk (ofQ p) (ofQ q))))) rfl rfl sh28 rfl rfl) rfl rfl rfl rfl <| sR (e_lda (cs := (bx (encR (ofQ (((1 : Int) : Rat) / s))))) (y := (.d (encR (ofQ (((1 : Int) : Rat) / s))))) rfl rfl sh26 rfl rfl) rfl rfl rfl rfl <| sR (e_lda (cs := (bx (encR (ofQ (((1 : Int) : Rat) / r))))) (y := (.d (encR (ofQ (((1 : Int) : Rat) / r))))) rfl rfl sh26 rfl rfl) rfl rfl rfl rfl <| sE' (e_bld (pd := [(0, (encR (ofQ (((1 : Int) : Rat) / s)))), (1, (encR (ofQ (((1 : Int) : Rat) / r))))]) (y := (encG (RRng.mk (ofQ (((1 : Int) : Rat) / s)) (ofQ (((1 : Int) : Rat) / r))))) rfl pl28 ze28 zo28 rfl rfl rfl rfl) rfl <| sE' (e_cl (h_mul (RRng.mk (ofQ p) (ofQ q)) p q (qok_up (qok_of hp) (by decide)) (qok_up (qok_of hq) (by decide)) (RRng.mk (ofQ (((1 : Int) : Rat) / s)) (ofQ (((1 : Int) : Rat) / r))) (((1 : Int) : Rat) / s) (((1 : Int) : Rat) / r) (qok_up (qok_of (ql_div (k := 1073741825) (ql_int (z := 1) (lenZ_one (by decide)) (by decide)) hs (by decide))) (by decide)) (qok_up (qok_of (ql_div (k := 1073741825) (ql_int (z := 1) (lenZ_one (by decide)) (by decide)) hr (by decide))) (by decide))) rfl rfl rfl) rfl <| sT (t_std (d := (encG (RRng.mk (ofQ (mnL (p * (((1 : Int) : Rat) / s)) [(p * (((1 : Int) : Rat) / r)), (q * (((1 : Int) : Rat) / s)), (q * (((1 : Int) : Rat) / r))])) (ofQ (mxL (p * (((1 : Int) : Rat) / s)) [(p * (((1 : Int) : Rat) / r)), (q * (((1 : Int) : Rat) / s)), (q * (((1 : Int) : Rat) / r))]))))) (cs := (bx (encG (RRng.mk (ofQ (mnL (p * (((1 : Int) : Rat) / s)) [(p * (((1 : Int) : Rat) / r)), (q * (((1 : Int) : Rat) / s)), (q * (((1 : Int) : Rat) / r))])) (ofQ (mxL (p * (((1 : Int) : Rat) / s)) [(p * (((1 : Int) : Rat) / r)), (q * (((1 : Int) : Rat) / s)), (q * (((1 : Int) : Rat) / r))])))))) rfl rfl rfl sh28 rfl rfl rfl rfl) rfl rfl rfl <| sM (vin 0) rfl rfl <| sNil rfl rfl
  refine pwp_ret ⟨_, (res_a (cs := (bx (encG (RRng.mk (ofQ (mnL (p * (((1 : Int) : Rat) / s)) [(p * (((1 : Int) : Rat) / r)), (q * (((1 : Int) : Rat) / s)), (q * (((1 : Int) : Rat) / r))])) (ofQ (mxL (p * (((1 : Int) : Rat) / s)) [(p * (((1 : Int) : Rat) / r)), (q * (((1 : Int) : Rat) / s)), (q * (((1 : Int) : Rat) / r))])))))) (d := (encG (RRng.mk (ofQ (mnL (p * (((1 : Int) : Rat) / s)) [(p * (((1 : Int) : Rat) / r)), (q * (((1 : Int) : Rat) / s)), (q * (((1 : Int) : Rat) / r))])) (ofQ (mxL (p * (((1 : Int) : Rat) / s)) [(p * (((1 : Int) : Rat) / r)), (q * (((1 : Int) : Rat) / s)), (q * (((1 : Int) : Rat) / r))]))))) rfl rfl sh28 rfl rfl (.tmp (d := (.val (.int .i64 (0)))) rfl .nil)), ?_⟩
  rw [← recip_lo, ← recip_hi]; rfl

theorem i_neg (p : Rat) (q : Rat) (hp : QL p 1073741824) (hq : QL q 1073741824) (hpq : p ≤ q) : Takes Tryz.prog 47 [(encG (RRng.mk (ofQ p) (ofQ q)))] (.tup [(encG (RRng.mk (ofQ (-q)) (ofQ (-p)))), (.val (.int .i64 (0)))]) := by
  refine fn_intro Tryz.func47 rfl cb47 rfl ?_
  show PWp _ _ _ _ ⟨[(0, (.d (encG (RRng.mk (ofQ p) (ofQ q)))))], []⟩
  refine pwp_seq ?_
  refine pwp_S (S' := [(1, (.ref 0 0)), (2, (.ref 1 0))]) (B' := [(0, some (bx (encG (RRng.mk (ofQ p) (ofQ q))))), (1, some (bx (encG (RRng.mk (RRat.mk (RInt.mk false []) (RInt.mk false [])) (RRat.mk (RInt.mk false []) (RInt.mk false []))))))]) ?_ ?_
  · skip
    exact sN (n_bx (d := (encG (RRng.mk (ofQ p) (ofQ q)))) (cs := (bx (encG (RRng.mk (ofQ p) (ofQ q))))) 0 rfl rfl rfl rfl) rfl rfl rfl rfl <| sN (n_al (cs := (bx (encG (RRng.mk (RRat.mk (RInt.mk false []) (RInt.mk false [])) (RRat.mk (RInt.mk false []) (RInt.mk false [])))))) 1 rfl ze28 zo28 rfl) rfl rfl rfl rfl <| sM (vin 0) rfl rfl <| sNil rfl rfl
  refine pwp_seq ?_
  refine pwp_seq ?_
  refine pwp_S (S' := [(1, (.ref 0 0)), (2, (.ref 1 0)), (6, (vb false))]) (B' := [(0, some (bx (encG (RRng.mk (ofQ p) (ofQ q))))), (1, some (bx (encG (RRng.mk (RRat.mk (RInt.mk false []) (RInt.mk false [])) (RRat.mk (RInt.mk false []) (RInt.mk false []))))))]) ?_ ?_
  · skip
    exact sR (e_lda (cs := (bx (encG (RRng.mk (ofQ p) (ofQ q))))) (y := (.d (encG (RRng.mk (ofQ p) (ofQ q))))) rfl rfl sh28 rfl rfl) rfl rfl rfl rfl <| sE' (e_cl (by have h := i_valid (RRng.mk (ofQ p) (ofQ q)) (gok_up (⟨qok_self (qok_up (qok_of hp) (by decide : 1073741824 ≤ 1073741824)), qok_self (qok_up (qok_of hq) (by decide : 1073741824 ≤ 1073741824))⟩) (by decide)); rw [show validG (RRng.mk (ofQ p) (ofQ q)) = true from validG_of hpq] at h; exact h) rfl rfl rfl) rfl <| sE' (e_not (b := true) rfl rfl) rfl <| sNil rfl rfl
  refine pwp_cond (b := false) rfl (fun h => by cases h) (fun _ => ?_)
  refine pwp_skip ?_
  refine pwp_seq ?_
  refine pwp_D (S' := [(2, (.ref 1 0)), (3, (vin 0))]) (B' := [(1, some (bx (encG (RRng.mk (ofQ (-q)) (ofQ (-p))))))]) mo (by kernel_rfl) ?_ ?_
  · skip
    exact dE' (e_fldr (q := 4) rfl rfl fo28_1 rfl) rfl rfl <| dR (e_lda (cs := (bx (encG (RRng.mk (ofQ p) (ofQ q))))) (y := (.d (encR (ofQ q)))) rfl rfl sh26 rfl rfl) rfl rfl rfl rfl rfl <| dE' (e_cl (f_neg (ofQ q) q (qok_up (qok_of hq) (by decide))) rfl rfl rfl) rfl rfl <| dE' (e_fldr (q := 0) rfl rfl fo28_0 rfl) rfl rfl <| dR (e_lda (cs := (bx (encG (RRng.mk (ofQ p) (ofQ q))))) (y := (.d (encR (ofQ p)))) rfl rfl sh26 rfl rfl) rfl rfl rfl rfl rfl <| dE' (e_cl (f_neg (ofQ p) p (qok_up (qok_of hp) (by decide))) rfl rfl rfl) rfl rfl <| dE' (e_bld (pd := [(0, (encR (ofQ (-q)))), (1, (encR (ofQ (-p))))]) (y := (encG (RRng.mk (ofQ (-q)) (ofQ (-p))))) rfl pl28 ze28 zo28 rfl rfl rfl rfl) rfl rfl <| dT (t_std (d := (encG (RRng.mk (ofQ (-q)) (ofQ (-p))))) (cs := (bx (encG (RRng.mk (ofQ (-q)) (ofQ (-p)))))) rfl rfl rfl sh28 rfl rfl rfl rfl) rfl rfl rfl rfl <| dM (vin 0) rfl rfl rfl <| dNil rfl rfl (by kernel_rfl)
  refine pwp_ret ⟨_, (res_a (cs := (bx (encG (RRng.mk (ofQ (-q)) (ofQ (-p)))))) (d := (encG (RRng.mk (ofQ (-q)) (ofQ (-p))))) rfl rfl sh28 rfl rfl (.tmp (d := (.val (.int .i64 (0)))) rfl .nil)), ?_⟩
  rfl

theorem i_negV (a : RRng) (ha : GOk 4294967296 a) (hk : validG a = false) : Takes Tryz.prog 47 [(encG a)] (.tup [(encG (RRng.mk (RRat.mk (RInt.mk false []) (RInt.mk false [])) (RRat.mk (RInt.mk false []) (RInt.mk false [])))), (.val (.int .i64 (1)))]) := by
  refine fn_intro Tryz.func47 rfl cb47 rfl ?_
  show PWp _ _ _ _ ⟨[(0, (.d (encG a)))], []⟩
  refine pwp_seq ?_
  refine pwp_S (S' := [(1, (.ref 0 0)), (2, (.ref 1 0))]) (B' := [(0, some (bx (encG a))), (1, some (bx (encG (RRng.mk (RRat.mk (RInt.mk false []) (RInt.mk false [])) (RRat.mk (RInt.mk false []) (RInt.mk false []))))))]) ?_ ?_
  · skip
    exact sN (n_bx (d := (encG a)) (cs := (bx (encG a))) 0 rfl rfl rfl rfl) rfl rfl rfl rfl <| sN (n_al (cs := (bx (encG (RRng.mk (RRat.mk (RInt.mk false []) (RInt.mk false [])) (RRat.mk (RInt.mk false []) (RInt.mk false [])))))) 1 rfl ze28 zo28 rfl) rfl rfl rfl rfl <| sM (vin 0) rfl rfl <| sNil rfl rfl
  refine pwp_seq ?_
  refine pwp_seq ?_
  refine pwp_S (S' := [(1, (.ref 0 0)), (2, (.ref 1 0)), (6, (vb true))]) (B' := [(0, some (bx (encG a))), (1, some (bx (encG (RRng.mk (RRat.mk (RInt.mk false []) (RInt.mk false [])) (RRat.mk (RInt.mk false []) (RInt.mk false []))))))]) ?_ ?_
  · skip
    exact sR (e_lda (cs := (bx (encG a))) (y := (.d (encG a))) rfl rfl sh28 rfl rfl) rfl rfl rfl rfl <| sE' (e_bk (e_cl (i_valid a ha) rfl rfl rfl) hk) rfl <| sE' (e_not (b := false) rfl rfl) rfl <| sNil rfl rfl
  refine pwp_cond (b := true) rfl (fun _ => ?_) (fun h => by cases h)
  refine pwp_seq ?_
  refine pwp_S (S' := [(2, (.ref 1 0)), (3, (vin 1))]) (B' := [(1, some (bx (encG (RRng.mk (RRat.mk (RInt.mk false []) (RInt.mk false [])) (RRat.mk (RInt.mk false []) (RInt.mk false []))))))]) ?_ ?_
  · skip
    exact sE' (e_bld (pd := []) (y := (encG (RRng.mk (RRat.mk (RInt.mk false []) (RInt.mk false [])) (RRat.mk (RInt.mk false []) (RInt.mk false []))))) rfl pl28 ze28 zo28 rfl rfl rfl rfl) rfl <| sT (t_std (d := (encG (RRng.mk (RRat.mk (RInt.mk false []) (RInt.mk false [])) (RRat.mk (RInt.mk false []) (RInt.mk false []))))) (cs := (bx (encG (RRng.mk (RRat.mk (RInt.mk false []) (RInt.mk false [])) (RRat.mk (RInt.mk false []) (RInt.mk false [])))))) rfl rfl rfl sh28 rfl rfl rfl rfl) rfl rfl rfl <| sM (vin 1) rfl rfl <| sNil rfl rfl
  refine pwp_ret ⟨_, (res_a (cs := (bx (encG (RRng.mk (RRat.mk (RInt.mk false []) (RInt.mk false [])) (RRat.mk (RInt.mk false []) (RInt.mk false [])))))) (d := (encG (RRng.mk (RRat.mk (RInt.mk false []) (RInt.mk false [])) (RRat.mk (RInt.mk false []) (RInt.mk false []))))) rfl rfl sh28 rfl rfl (.tmp (d := (.val (.int .i64 (1)))) rfl .nil)), ?_⟩
  rfl

theorem i_squareV (a : RRng) (ha : GOk 4294967296 a) (hk : validG a = false) : Takes Tryz.prog 37 [(encG a)] (.tup [(encG (RRng.mk (RRat.mk (RInt.mk false []) (RInt.mk false [])) (RRat.mk (RInt.mk false []) (RInt.mk false [])))), (.val (.int .i64 (1)))]) := by
  refine fn_intro Tryz.func37 rfl cb37 rfl ?_
  show PWp _ _ _ _ ⟨[(0, (.d (encG a)))], []⟩
  refine pwp_seq ?_
  refine pwp_S (S' := [(1, (.ref 0 0)), (2, (.ref 1 0))]) (B' := [(0, some (bx (encG a))), (1, some (bx (encG (RRng.mk (RRat.mk (RInt.mk false []) (RInt.mk false [])) (RRat.mk (RInt.mk false []) (RInt.mk false []))))))]) ?_ ?_
  · skip
    exact sN (n_bx (d := (encG a)) (cs := (bx (encG a))) 0 rfl rfl rfl rfl) rfl rfl rfl rfl <| sN (n_al (cs := (bx (encG (RRng.mk (RRat.mk (RInt.mk false []) (RInt.mk false [])) (RRat.mk (RInt.mk false []) (RInt.mk false [])))))) 1 rfl ze28 zo28 rfl) rfl rfl rfl rfl <| sM (vin 0) rfl rfl <| sNil rfl rfl
  refine pwp_seq ?_
  refine pwp_seq ?_
  refine pwp_S (S' := [(1, (.ref 0 0)), (2, (.ref 1 0)), (7, (vb true))]) (B' := [(0, some (bx (encG a))), (1, some (bx (encG (RRng.mk (RRat.mk (RInt.mk false []) (RInt.mk false [])) (RRat.mk (RInt.mk false []) (RInt.mk false []))))))]) ?_ ?_
  · skip
    exact sR (e_lda (cs := (bx (encG a))) (y := (.d (encG a))) rfl rfl sh28 rfl rfl) rfl rfl rfl rfl <| sE' (e_bk (e_cl (i_valid a ha) rfl rfl rfl) hk) rfl <| sE' (e_not (b := false) rfl rfl) rfl <| sNil rfl rfl
  refine pwp_cond (b := true) rfl (fun _ => ?_) (fun h => by cases h)
  refine pwp_seq ?_
  refine pwp_S (S' := [(2, (.ref 1 0)), (3, (vin 1))]) (B' := [(1, some (bx (encG (RRng.mk (RRat.mk (RInt.mk false []) (RInt.mk false [])) (RRat.mk (RInt.mk false []) (RInt.mk false []))))))]) ?_ ?_
  · skip
    exact sE' (e_bld (pd := []) (y := (encG (RRng.mk (RRat.mk (RInt.mk false []) (RInt.mk false [])) (RRat.mk (RInt.mk false []) (RInt.mk false []))))) rfl pl28 ze28 zo28 rfl rfl rfl rfl) rfl <| sT (t_std (d := (encG (RRng.mk (RRat.mk (RInt.mk false []) (RInt.mk false [])) (RRat.mk (RInt.mk false []) (RInt.mk false []))))) (cs := (bx (encG (RRng.mk (RRat.mk (RInt.mk false []) (RInt.mk false [])) (RRat.mk (RInt.mk false []) (RInt.mk false [])))))) rfl rfl rfl sh28 rfl rfl rfl rfl) rfl rfl rfl <| sM (vin 1) rfl rfl <| sNil rfl rfl
  refine pwp_ret ⟨_, (res_a (cs := (bx (encG (RRng.mk (RRat.mk (RInt.mk false []) (RInt.mk false [])) (RRat.mk (RInt.mk false []) (RInt.mk false [])))))) (d := (encG (RRng.mk (RRat.mk (RInt.mk false []) (RInt.mk false [])) (RRat.mk (RInt.mk false []) (RInt.mk false []))))) rfl rfl sh28 rfl rfl (.tmp (d := (.val (.int .i64 (1)))) rfl .nil)), ?_⟩
  rfl

theorem i_addV (a : RRng) (ha : GOk 4294967296 a) (b : RRng) (hb : GOk 4294967296 b) (hk : List.all [a, b] validG = false) : Takes Tryz.prog 39 [(encG a), (encG b)] (.tup [(encG (RRng.mk (RRat.mk (RInt.mk false []) (RInt.mk false [])) (RRat.mk (RInt.mk false []) (RInt.mk false [])))), (.val (.int .i64 (1)))]) := by
  refine fn_intro Tryz.func39 rfl cb39 rfl ?_
  show PWp _ _ _ _ ⟨[(0, (.d (encG a))), (1, (.d (encG b)))], []⟩
  refine pwp_seq ?_
  refine pwp_S (S' := [(2, (.ref 0 0)), (3, (.ref 1 0)), (4, (.ref 2 0))]) (B' := [(0, some (bx (encG a))), (1, some (bx (encG b))), (2, some (bx (encG (RRng.mk (RRat.mk (RInt.mk false []) (RInt.mk false [])) (RRat.mk (RInt.mk false []) (RInt.mk false []))))))]) ?_ ?_
  · skip
    exact sN (n_bx (d := (encG a)) (cs := (bx (encG a))) 0 rfl rfl rfl rfl) rfl rfl rfl rfl <| sN (n_bx (d := (encG b)) (cs := (bx (encG b))) 1 rfl rfl rfl rfl) rfl rfl rfl rfl <| sN (n_al (cs := (bx (encG (RRng.mk (RRat.mk (RInt.mk false []) (RInt.mk false [])) (RRat.mk (RInt.mk false []) (RInt.mk false [])))))) 2 rfl ze28 zo28 rfl) rfl rfl rfl rfl <| sM (vin 0) rfl rfl <| sNil rfl rfl
  refine pwp_seq ?_
  refine pwp_seq ?_
  refine pwp_S (S' := [(2, (.ref 0 0)), (3, (.ref 1 0)), (4, (.ref 2 0)), (10, (vb true))]) (B' := [(0, some (bx (encG a))), (1, some (bx (encG b))), (2, some (bx (encG (RRng.mk (RRat.mk (RInt.mk false []) (RInt.mk false [])) (RRat.mk (RInt.mk false []) (RInt.mk false []))))))]) ?_ ?_
  · skip
    exact sR (e_lda (cs := (bx (encG a))) (y := (.d (encG a))) rfl rfl sh28 rfl rfl) rfl rfl rfl rfl <| sR (e_lda (cs := (bx (encG b))) (y := (.d (encG b))) rfl rfl sh28 rfl rfl) rfl rfl rfl rfl <| sE' (e_bsl (pd := [(0, (encG a)), (1, (encG b))]) (es := List.map encG [a, b]) rfl el57 ze28 zo28 rfl rfl rfl rfl rfl rfl rfl rfl) rfl <| sE' (e_cl (by have h := i_valids [a, b] (List.forall_mem_cons.2 ⟨ha, (List.forall_mem_cons.2 ⟨hb, (fun a h => by cases h)⟩)⟩) (by simp); rw [show List.all [a, b] validG = false from hk] at h; exact h) rfl rfl rfl) rfl <| sE' (e_not (b := false) rfl rfl) rfl <| sNil rfl rfl
  refine pwp_cond (b := true) rfl (fun _ => ?_) (fun h => by cases h)
  refine pwp_seq ?_
  refine pwp_S (S' := [(4, (.ref 2 0)), (5, (vin 1))]) (B' := [(2, some (bx (encG (RRng.mk (RRat.mk (RInt.mk false []) (RInt.mk false [])) (RRat.mk (RInt.mk false []) (RInt.mk false []))))))]) ?_ ?_
  · skip
    exact sE' (e_bld (pd := []) (y := (encG (RRng.mk (RRat.mk (RInt.mk false []) (RInt.mk false [])) (RRat.mk (RInt.mk false []) (RInt.mk false []))))) rfl pl28 ze28 zo28 rfl rfl rfl rfl) rfl <| sT (t_std (d := (encG (RRng.mk (RRat.mk (RInt.mk false []) (RInt.mk false [])) (RRat.mk (RInt.mk false []) (RInt.mk false []))))) (cs := (bx (encG (RRng.mk (RRat.mk (RInt.mk false []) (RInt.mk false [])) (RRat.mk (RInt.mk false []) (RInt.mk false [])))))) rfl rfl rfl sh28 rfl rfl rfl rfl) rfl rfl rfl <| sM (vin 1) rfl rfl <| sNil rfl rfl
  refine pwp_ret ⟨_, (res_a (cs := (bx (encG (RRng.mk (RRat.mk (RInt.mk false []) (RInt.mk false [])) (RRat.mk (RInt.mk false []) (RInt.mk false [])))))) (d := (encG (RRng.mk (RRat.mk (RInt.mk false []) (RInt.mk false [])) (RRat.mk (RInt.mk false []) (RInt.mk false []))))) rfl rfl sh28 rfl rfl (.tmp (d := (.val (.int .i64 (1)))) rfl .nil)), ?_⟩
  rfl

theorem i_subV (a : RRng) (ha : GOk 4294967296 a) (b : RRng) (hb : GOk 4294967296 b) (hk : List.all [a, b] validG = false) : Takes Tryz.prog 36 [(encG a), (encG b)] (.tup [(encG (RRng.mk (RRat.mk (RInt.mk false []) (RInt.mk false [])) (RRat.mk (RInt.mk false []) (RInt.mk false [])))), (.val (.int .i64 (1)))]) := by
  refine fn_intro Tryz.func36 rfl cb36 rfl ?_
  show PWp _ _ _ _ ⟨[(0, (.d (encG a))), (1, (.d (encG b)))], []⟩
  refine pwp_seq ?_
  refine pwp_S (S' := [(2, (.ref 0 0)), (3, (.ref 1 0)), (4, (.ref 2 0))]) (B' := [(0, some (bx (encG a))), (1, some (bx (encG b))), (2, some (bx (encG (RRng.mk (RRat.mk (RInt.mk false []) (RInt.mk false [])) (RRat.mk (RInt.mk false []) (RInt.mk false []))))))]) ?_ ?_
  · skip
    exact sN (n_bx (d := (encG a)) (cs := (bx (encG a))) 0 rfl rfl rfl rfl) rfl rfl rfl rfl <| sN (n_bx (d := (encG b)) (cs := (bx (encG b))) 1 rfl rfl rfl rfl) rfl rfl rfl rfl <| sN (n_al (cs := (bx (encG (RRng.mk (RRat.mk (RInt.mk false []) (RInt.mk false [])) (RRat.mk (RInt.mk false []) (RInt.mk false [])))))) 2 rfl ze28 zo28 rfl) rfl rfl rfl rfl <| sM (vin 0) rfl rfl <| sNil rfl rfl
  refine pwp_seq ?_
  refine pwp_seq ?_
  refine pwp_S (S' := [(2, (.ref 0 0)), (3, (.ref 1 0)), (4, (.ref 2 0)), (10, (vb true))]) (B' := [(0, some (bx (encG a))), (1, some (bx (encG b))), (2, some (bx (encG (RRng.mk (RRat.mk (RInt.mk false []) (RInt.mk false [])) (RRat.mk (RInt.mk false []) (RInt.mk false []))))))]) ?_ ?_
  · skip
    exact sR (e_lda (cs := (bx (encG a))) (y := (.d (encG a))) rfl rfl sh28 rfl rfl) rfl rfl rfl rfl <| sR (e_lda (cs := (bx (encG b))) (y := (.d (encG b))) rfl rfl sh28 rfl rfl) rfl rfl rfl rfl <| sE' (e_bsl (pd := [(0, (encG a)), (1, (encG b))]) (es := List.map encG [a, b]) rfl el57 ze28 zo28 rfl rfl rfl rfl rfl rfl rfl rfl) rfl <| sE' (e_cl (by have h := i_valids [a, b] (List.forall_mem_cons.2 ⟨ha, (List.forall_mem_cons.2 ⟨hb, (fun a h => by cases h)⟩)⟩) (by simp); rw [show List.all [a, b] validG = false from hk] at h; exact h) rfl rfl rfl) rfl <| sE' (e_not (b := false) rfl rfl) rfl <| sNil rfl rfl
  refine pwp_cond (b := true) rfl (fun _ => ?_) (fun h => by cases h)
  refine pwp_seq ?_
  refine pwp_S (S' := [(4, (.ref 2 0)), (5, (vin 1))]) (B' := [(2, some (bx (encG (RRng.mk (RRat.mk (RInt.mk false []) (RInt.mk false [])) (RRat.mk (RInt.mk false []) (RInt.mk false []))))))]) ?_ ?_
  · skip
    exact sE' (e_bld (pd := []) (y := (encG (RRng.mk (RRat.mk (RInt.mk false []) (RInt.mk false [])) (RRat.mk (RInt.mk false []) (RInt.mk false []))))) rfl pl28 ze28 zo28 rfl rfl rfl rfl) rfl <| sT (t_std (d := (encG (RRng.mk (RRat.mk (RInt.mk false []) (RInt.mk false [])) (RRat.mk (RInt.mk false []) (RInt.mk false []))))) (cs := (bx (encG (RRng.mk (RRat.mk (RInt.mk false []) (RInt.mk false [])) (RRat.mk (RInt.mk false []) (RInt.mk false [])))))) rfl rfl rfl sh28 rfl rfl rfl rfl) rfl rfl rfl <| sM (vin 1) rfl rfl <| sNil rfl rfl
  refine pwp_ret ⟨_, (res_a (cs := (bx (encG (RRng.mk (RRat.mk (RInt.mk false []) (RInt.mk false [])) (RRat.mk (RInt.mk false []) (RInt.mk false [])))))) (d := (encG (RRng.mk (RRat.mk (RInt.mk false []) (RInt.mk false [])) (RRat.mk (RInt.mk false []) (RInt.mk false []))))) rfl rfl sh28 rfl rfl (.tmp (d := (.val (.int .i64 (1)))) rfl .nil)), ?_⟩
  rfl

theorem i_mulV (a : RRng) (ha : GOk 4294967296 a) (b : RRng) (hb : GOk 4294967296 b) (hk : List.all [a, b] validG = false) : Takes Tryz.prog 35 [(encG a), (encG b)] (.tup [(encG (RRng.mk (RRat.mk (RInt.mk false []) (RInt.mk false [])) (RRat.mk (RInt.mk false []) (RInt.mk false [])))), (.val (.int .i64 (1)))]) := by
  refine fn_intro Tryz.func35 rfl cb35 rfl ?_
  show PWp _ _ _ _ ⟨[(0, (.d (encG a))), (1, (.d (encG b)))], []⟩
  refine pwp_seq ?_
  refine pwp_S (S' := [(2, (.ref 0 0)), (3, (.ref 1 0)), (4, (.ref 2 0))]) (B' := [(0, some (bx (encG a))), (1, some (bx (encG b))), (2, some (bx (encG (RRng.mk (RRat.mk (RInt.mk false []) (RInt.mk false [])) (RRat.mk (RInt.mk false []) (RInt.mk false []))))))]) ?_ ?_
  · skip
    exact sN (n_bx (d := (encG a)) (cs := (bx (encG a))) 0 rfl rfl rfl rfl) rfl rfl rfl rfl <| sN (n_bx (d := (encG b)) (cs := (bx (encG b))) 1 rfl rfl rfl rfl) rfl rfl rfl rfl <| sN (n_al (cs := (bx (encG (RRng.mk (RRat.mk (RInt.mk false []) (RInt.mk false [])) (RRat.mk (RInt.mk false []) (RInt.mk false [])))))) 2 rfl ze28 zo28 rfl) rfl rfl rfl rfl <| sM (vin 0) rfl rfl <| sNil rfl rfl
  refine pwp_seq ?_
  refine pwp_seq ?_
  refine pwp_S (S' := [(2, (.ref 0 0)), (3, (.ref 1 0)), (4, (.ref 2 0)), (10, (vb true))]) (B' := [(0, some (bx (encG a))), (1, some (bx (encG b))), (2, some (bx (encG (RRng.mk (RRat.mk (RInt.mk false []) (RInt.mk false [])) (RRat.mk (RInt.mk false []) (RInt.mk false []))))))]) ?_ ?_
  · skip
    exact sR (e_lda (cs := (bx (encG a))) (y := (.d (encG a))) rfl rfl sh28 rfl rfl) rfl rfl rfl rfl <| sR (e_lda (cs := (bx (encG b))) (y := (.d (encG b))) rfl rfl sh28 rfl rfl) rfl rfl rfl rfl <| sE' (e_bsl (pd := [(0, (encG a)), (1, (encG b))]) (es := List.map encG [a, b]) rfl el57 ze28 zo28 rfl rfl rfl rfl rfl rfl rfl rfl) rfl <| sE' (e_cl (by have h := i_valids [a, b] (List.forall_mem_cons.2 ⟨ha, (List.forall_mem_cons.2 ⟨hb, (fun a h => by cases h)⟩)⟩) (by simp); rw [show List.all [a, b] validG = false from hk] at h; exact h) rfl rfl rfl) rfl <| sE' (e_not (b := false) rfl rfl) rfl <| sNil rfl rfl
  refine pwp_cond (b := true) rfl (fun _ => ?_) (fun h => by cases h)
  refine pwp_seq ?_
  refine pwp_S (S' := [(4, (.ref 2 0)), (5, (vin 1))]) (B' := [(2, some (bx (encG (RRng.mk (RRat.mk (RInt.mk false []) (RInt.mk false [])) (RRat.mk (RInt.mk false []) (RInt.mk false []))))))]) ?_ ?_
  · skip
    exact sE' (e_bld (pd := []) (y := (encG (RRng.mk (RRat.mk (RInt.mk false []) (RInt.mk false [])) (RRat.mk (RInt.mk false []) (RInt.mk false []))))) rfl pl28 ze28 zo28 rfl rfl rfl rfl) rfl <| sT (t_std (d := (encG (RRng.mk (RRat.mk (RInt.mk false []) (RInt.mk false [])) (RRat.mk (RInt.mk false []) (RInt.mk false []))))) (cs := (bx (encG (RRng.mk (RRat.mk (RInt.mk false []) (RInt.mk false [])) (RRat.mk (RInt.mk false []) (RInt.mk false [])))))) rfl rfl rfl sh28 rfl rfl rfl rfl) rfl rfl rfl <| sM (vin 1) rfl rfl <| sNil rfl rfl
  refine pwp_ret ⟨_, (res_a (cs := (bx (encG (RRng.mk (RRat.mk (RInt.mk false []) (RInt.mk false [])) (RRat.mk (RInt.mk false []) (RInt.mk false [])))))) (d := (encG (RRng.mk (RRat.mk (RInt.mk false []) (RInt.mk false [])) (RRat.mk (RInt.mk false []) (RInt.mk false []))))) rfl rfl sh28 rfl rfl (.tmp (d := (.val (.int .i64 (1)))) rfl .nil)), ?_⟩
  rfl

theorem i_divideV (a : RRng) (ha : GOk 4294967296 a) (b : RRng) (hb : GOk 4294967296 b) (hk : List.all [a, b] validG = false) : Takes Tryz.prog 38 [(encG a), (encG b)] (.tup [(encG (RRng.mk (RRat.mk (RInt.mk false []) (RInt.mk false [])) (RRat.mk (RInt.mk false []) (RInt.mk false [])))), (.val (.int .i64 (1)))]) := by
  refine fn_intro Tryz.func38 rfl cb38 rfl ?_
  show PWp _ _ _ _ ⟨[(0, (.d (encG a))), (1, (.d (encG b)))], []⟩
  refine pwp_seq ?_
  refine pwp_S (S' := [(2, (.ref 0 0)), (3, (.ref 1 0)), (4, (.ref 2 0))]) (B' := [(0, some (bx (encG a))), (1, some (bx (encG b))), (2, some (bx (encG (RRng.mk (RRat.mk (RInt.mk false []) (RInt.mk false [])) (RRat.mk (RInt.mk false []) (RInt.mk false []))))))]) ?_ ?_
  · skip
    exact sN (n_bx (d := (encG a)) (cs := (bx (encG a))) 0 rfl rfl rfl rfl) rfl rfl rfl rfl <| sN (n_bx (d := (encG b)) (cs := (bx (encG b))) 1 rfl rfl rfl rfl) rfl rfl rfl rfl <| sN (n_al (cs := (bx (encG (RRng.mk (RRat.mk (RInt.mk false []) (RInt.mk false [])) (RRat.mk (RInt.mk false []) (RInt.mk false [])))))) 2 rfl ze28 zo28 rfl) rfl rfl rfl rfl <| sM (vin 0) rfl rfl <| sNil rfl rfl
  refine pwp_seq ?_
  refine pwp_seq ?_
  refine pwp_S (S' := [(2, (.ref 0 0)), (3, (.ref 1 0)), (4, (.ref 2 0)), (11, (vb true))]) (B' := [(0, some (bx (encG a))), (1, some (bx (encG b))), (2, some (bx (encG (RRng.mk (RRat.mk (RInt.mk false []) (RInt.mk false [])) (RRat.mk (RInt.mk false []) (RInt.mk false []))))))]) ?_ ?_
  · skip
    exact sR (e_lda (cs := (bx (encG a))) (y := (.d (encG a))) rfl rfl sh28 rfl rfl) rfl rfl rfl rfl <| sR (e_lda (cs := (bx (encG b))) (y := (.d (encG b))) rfl rfl sh28 rfl rfl) rfl rfl rfl rfl <| sE' (e_bsl (pd := [(0, (encG a)), (1, (encG b))]) (es := List.map encG [a, b]) rfl el57 ze28 zo28 rfl rfl rfl rfl rfl rfl rfl rfl) rfl <| sE' (e_cl (by have h := i_valids [a, b] (List.forall_mem_cons.2 ⟨ha, (List.forall_mem_cons.2 ⟨hb, (fun a h => by cases h)⟩)⟩) (by simp); rw [show List.all [a, b] validG = false from hk] at h; exact h) rfl rfl rfl) rfl <| sE' (e_not (b := false) rfl rfl) rfl <| sNil rfl rfl
  refine pwp_cond (b := true) rfl (fun _ => ?_) (fun h => by cases h)
  refine pwp_seq ?_
  refine pwp_S (S' := [(4, (.ref 2 0)), (5, (vin 1))]) (B' := [(2, some (bx (encG (RRng.mk (RRat.mk (RInt.mk false []) (RInt.mk false [])) (RRat.mk (RInt.mk false []) (RInt.mk false []))))))]) ?_ ?_
  · skip
    exact sE' (e_bld (pd := []) (y := (encG (RRng.mk (RRat.mk (RInt.mk false []) (RInt.mk false [])) (RRat.mk (RInt.mk false []) (RInt.mk false []))))) rfl pl28 ze28 zo28 rfl rfl rfl rfl) rfl <| sT (t_std (d := (encG (RRng.mk (RRat.mk (RInt.mk false []) (RInt.mk false [])) (RRat.mk (RInt.mk false []) (RInt.mk false []))))) (cs := (bx (encG (RRng.mk (RRat.mk (RInt.mk false []) (RInt.mk false [])) (RRat.mk (RInt.mk false []) (RInt.mk false [])))))) rfl rfl rfl sh28 rfl rfl rfl rfl) rfl rfl rfl <| sM (vin 1) rfl rfl <| sNil rfl rfl
  refine pwp_ret ⟨_, (res_a (cs := (bx (encG (RRng.mk (RRat.mk (RInt.mk false []) (RInt.mk false [])) (RRat.mk (RInt.mk false []) (RInt.mk false [])))))) (d := (encG (RRng.mk (RRat.mk (RInt.mk false []) (RInt.mk false [])) (RRat.mk (RInt.mk false []) (RInt.mk false []))))) rfl rfl sh28 rfl rfl (.tmp (d := (.val (.int .i64 (1)))) rfl .nil)), ?_⟩
  rfl

end Go.Proofs.YtcdgmcfkhkikbaaGreat
