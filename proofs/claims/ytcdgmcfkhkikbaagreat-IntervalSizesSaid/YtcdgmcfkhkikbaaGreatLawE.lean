/-
  Functions walked: each takes its data to what is said. Printed by a program of ours.
-/
import Derived.Test.YtcdgmcfkhkikbaaGreatIvE
namespace Go.Proofs.YtcdgmcfkhkikbaaGreat
open Go.Fid
set_option maxRecDepth 4000
theorem cb9 : callB Tryz.prog 9 = true := by kernel_rfl
theorem w_size (p q : Rat) (hp : QL p 16) (hq : QL q 16) (hpq : p ≤ q) (hsh : List.all [(RRng.mk (ofQ p) (ofQ q))] shortG = true) : Takes Tryz.prog 9 [(encG (RRng.mk (ofQ p) (ofQ q)))] (.val (.bool (true))) := by
  refine fn_intro Tryz.func9 rfl cb9 rfl ?_
  show PWp _ _ _ _ ⟨[(0, (.d (encG (RRng.mk (ofQ p) (ofQ q)))))], []⟩
  refine pwp_seq ?_
  refine pwp_S (S' := [(1, (.ref 0 0))]) (B' := [(0, some (bx (encG (RRng.mk (ofQ p) (ofQ q)))))]) ?_ ?_
  · skip
    exact sN (n_bx (d := (encG (RRng.mk (ofQ p) (ofQ q)))) (cs := (bx (encG (RRng.mk (ofQ p) (ofQ q))))) 0 rfl rfl rfl rfl) rfl rfl rfl rfl <| sM (vb false) rfl rfl <| sNil rfl rfl
  refine pwp_seq ?_
  refine pwp_seq ?_
  refine pwp_S (S' := [(1, (.ref 0 0)), (11, (vb false))]) (B' := [(0, some (bx (encG (RRng.mk (ofQ p) (ofQ q)))))]) ?_ ?_
  · skip
    exact sE' (e_cl l_known rfl rfl rfl) rfl <| sE' (e_not (b := true) rfl rfl) rfl <| sNil rfl rfl
  refine pwp_cond (b := false) rfl (fun h => by cases h) (fun _ => ?_)
  refine pwp_skip ?_
  refine pwp_seq ?_
  refine pwp_seq ?_
  refine pwp_S (S' := [(1, (.ref 0 0)), (15, (vb false))]) (B' := [(0, some (bx (encG (RRng.mk (ofQ p) (ofQ q)))))]) ?_ ?_
  · skip
    exact sR (e_lda (cs := (bx (encG (RRng.mk (ofQ p) (ofQ q))))) (y := (.d (encG (RRng.mk (ofQ p) (ofQ q))))) rfl rfl sh28 rfl rfl) rfl rfl rfl rfl <| sE' (e_bsl (pd := [(0, (encG (RRng.mk (ofQ p) (ofQ q))))]) (es := List.map encG [(RRng.mk (ofQ p) (ofQ q))]) rfl el57 ze28 zo28 rfl rfl rfl rfl rfl rfl rfl rfl) rfl <| sE' (e_cl (by have h := l_short [(RRng.mk (ofQ p) (ofQ q))] (List.forall_mem_cons.2 ⟨(gok_up (⟨qok_self (qok_up (qok_of hp) (by decide : 16 ≤ 16)), qok_self (qok_up (qok_of hq) (by decide : 16 ≤ 16))⟩) (by decide)), (fun a h => by cases h)⟩) (by simp); rw [show List.all [(RRng.mk (ofQ p) (ofQ q))] shortG = true from hsh] at h; exact h) rfl rfl rfl) rfl <| sE' (e_not (b := true) rfl rfl) rfl <| sNil rfl rfl
  refine pwp_cond (b := false) rfl (fun h => by cases h) (fun _ => ?_)
  refine pwp_skip ?_
  refine pwp_seq ?_
  refine pwp_S (S' := [(1, (.ref 0 0)), (3, (.ref 1 0)), (4, (vi 0))]) (B' := [(0, some (bx (encG (RRng.mk (ofQ p) (ofQ q))))), (1, some (bx (encR (ofQ (q - p)))))]) ?_ ?_
  · skip
    exact sR (e_lda (cs := (bx (encG (RRng.mk (ofQ p) (ofQ q))))) (y := (.d (encG (RRng.mk (ofQ p) (ofQ q))))) rfl rfl sh28 rfl rfl) rfl rfl rfl rfl <| sE' (e_cl (i_width p q (ql_up hp (by decide)) (ql_up hq (by decide)) hpq) rfl rfl rfl) rfl <| sM (.d (.tup [(encR (ofQ (q - p))), (.val (.int .i64 (0)))])) rfl rfl <| sE' (e_exD (d := (encR (ofQ (q - p)))) rfl rfl rfl) rfl <| sE' (e_exD (d := (.val (.int .i64 (0)))) rfl rfl rfl) rfl <| sN (n_al (cs := (bx (encR (RRat.mk (RInt.mk false []) (RInt.mk false []))))) 1 rfl ze26 zo26 rfl) rfl rfl rfl rfl <| sT (t_std (d := (encR (ofQ (q - p)))) (cs := (bx (encR (ofQ (q - p))))) rfl rfl rfl sh26 rfl rfl rfl rfl) rfl rfl rfl <| sM (vi 0) rfl rfl <| sNil rfl rfl
  refine pwp_seq ?_
  refine pwp_S (S' := [(1, (.ref 0 0)), (3, (.ref 1 0)), (4, (vi 0)), (5, (.ref 2 0)), (6, (vi 0))]) (B' := [(0, some (bx (encG (RRng.mk (ofQ p) (ofQ q))))), (1, some (bx (encR (ofQ (q - p))))), (2, some (bx (encR (ofQ ((p + q) / ((2 : Int) : Rat))))))]) ?_ ?_
  · skip
    exact sR (e_lda (cs := (bx (encG (RRng.mk (ofQ p) (ofQ q))))) (y := (.d (encG (RRng.mk (ofQ p) (ofQ q))))) rfl rfl sh28 rfl rfl) rfl rfl rfl rfl <| sE' (e_cl (i_middle p q (ql_up hp (by decide)) (ql_up hq (by decide)) hpq) rfl rfl rfl) rfl <| sM (.d (.tup [(encR (ofQ ((p + q) / ((2 : Int) : Rat)))), (.val (.int .i64 (0)))])) rfl rfl <| sE' (e_exD (d := (encR (ofQ ((p + q) / ((2 : Int) : Rat))))) rfl rfl rfl) rfl <| sE' (e_exD (d := (.val (.int .i64 (0)))) rfl rfl rfl) rfl <| sN (n_al (cs := (bx (encR (RRat.mk (RInt.mk false []) (RInt.mk false []))))) 2 rfl ze26 zo26 rfl) rfl rfl rfl rfl <| sT (t_std (d := (encR (ofQ ((p + q) / ((2 : Int) : Rat))))) (cs := (bx (encR (ofQ ((p + q) / ((2 : Int) : Rat)))))) rfl rfl rfl sh26 rfl rfl rfl rfl) rfl rfl rfl <| sM (vi 0) rfl rfl <| sNil rfl rfl
  refine pwp_seq ?_
  refine pwp_S (S' := [(1, (.ref 0 0)), (3, (.ref 1 0)), (4, (vi 0)), (5, (.ref 2 0)), (6, (vi 0)), (7, (.ref 3 0)), (8, (vi 0))]) (B' := [(0, some (bx (encG (RRng.mk (ofQ p) (ofQ q))))), (1, some (bx (encR (ofQ (q - p))))), (2, some (bx (encR (ofQ ((p + q) / ((2 : Int) : Rat)))))), (3, some (bx (encR (ofQ (mxL (absQ p) [(absQ q)])))))]) ?_ ?_
  · skip
    exact sR (e_lda (cs := (bx (encG (RRng.mk (ofQ p) (ofQ q))))) (y := (.d (encG (RRng.mk (ofQ p) (ofQ q))))) rfl rfl sh28 rfl rfl) rfl rfl rfl rfl <| sE' (e_cl (i_magn p q (ql_up hp (by decide)) (ql_up hq (by decide)) hpq) rfl rfl rfl) rfl <| sM (.d (.tup [(encR (ofQ (mxL (absQ p) [(absQ q)]))), (.val (.int .i64 (0)))])) rfl rfl <| sE' (e_exD (d := (encR (ofQ (mxL (absQ p) [(absQ q)])))) rfl rfl rfl) rfl <| sE' (e_exD (d := (.val (.int .i64 (0)))) rfl rfl rfl) rfl <| sN (n_al (cs := (bx (encR (RRat.mk (RInt.mk false []) (RInt.mk false []))))) 3 rfl ze26 zo26 rfl) rfl rfl rfl rfl <| sT (t_std (d := (encR (ofQ (mxL (absQ p) [(absQ q)])))) (cs := (bx (encR (ofQ (mxL (absQ p) [(absQ q)]))))) rfl rfl rfl sh26 rfl rfl rfl rfl) rfl rfl rfl <| sM (vi 0) rfl rfl <| sNil rfl rfl
  refine pwp_seq ?_
  refine pwp_S (S' := [(1, (.ref 0 0)), (3, (.ref 1 0)), (4, (vi 0)), (5, (.ref 2 0)), (6, (vi 0)), (7, (.ref 3 0)), (8, (vi 0)), (9, (vi 0))]) (B' := [(0, some (bx (encG (RRng.mk (ofQ p) (ofQ q))))), (1, some (bx (encR (ofQ (q - p))))), (2, some (bx (encR (ofQ ((p + q) / ((2 : Int) : Rat)))))), (3, some (bx (encR (ofQ (mxL (absQ p) [(absQ q)])))))]) ?_ ?_
  · skip
    exact sR (e_lda (cs := (bx (encG (RRng.mk (ofQ p) (ofQ q))))) (y := (.d (encG (RRng.mk (ofQ p) (ofQ q))))) rfl rfl sh28 rfl rfl) rfl rfl rfl rfl <| sE' (e_bsl (pd := [(0, (encG (RRng.mk (ofQ p) (ofQ q))))]) (es := List.map encG [(RRng.mk (ofQ p) (ofQ q))]) rfl el57 ze28 zo28 rfl rfl rfl rfl rfl rfl rfl rfl) rfl <| sE' (e_cl (by have h := l_asked [(RRng.mk (ofQ p) (ofQ q))] (List.forall_mem_cons.2 ⟨(gok_up (⟨qok_self (qok_up (qok_of hp) (by decide : 16 ≤ 16)), qok_self (qok_up (qok_of hq) (by decide : 16 ≤ 16))⟩) (by decide)), (fun a h => by cases h)⟩) (by simp); rw [show List.all [(RRng.mk (ofQ p) (ofQ q))] validG = true from by simp [validG_of hpq]] at h; exact h) rfl rfl rfl) rfl <| sM (vi 0) rfl rfl <| sNil rfl rfl
  refine pwp_seq ?_
  refine pwp_seq ?_
  refine pwp_S (S' := [(1, (.ref 0 0)), (3, (.ref 1 0)), (4, (vi 0)), (5, (.ref 2 0)), (6, (vi 0)), (7, (.ref 3 0)), (8, (vi 0)), (9, (vi 0)), (35, (vb false))]) (B' := [(0, some (bx (encG (RRng.mk (ofQ p) (ofQ q))))), (1, some (bx (encR (ofQ (q - p))))), (2, some (bx (encR (ofQ ((p + q) / ((2 : Int) : Rat)))))), (3, some (bx (encR (ofQ (mxL (absQ p) [(absQ q)])))))]) ?_ ?_
  · skip
    exact sM (vi 0) rfl rfl <| sE' (e_neq rfl rfl rfl) rfl <| sNil rfl rfl
  refine pwp_cond (b := false) rfl (fun h => by cases h) (fun _ => ?_)
  refine pwp_skip ?_
  refine pwp_seq ?_
  refine pwp_D (S' := [(2, (vb (true && ((sgG p q) == (sgG p q)))))]) (B' := []) mo (by kernel_rfl) ?_ ?_
  · skip
    exact dR (e_lda (cs := (bx (encR (ofQ (q - p))))) (y := (.d (encR (ofQ (q - p))))) rfl rfl sh26 rfl rfl) rfl rfl rfl rfl rfl <| dM (vi 0) rfl rfl rfl <| dR (e_lda (cs := (bx (encG (RRng.mk (ofQ p) (ofQ q))))) (y := (.d (encG (RRng.mk (ofQ p) (ofQ q))))) rfl rfl sh28 rfl rfl) rfl rfl rfl rfl rfl <| dE' (e_cl (h_width p q (ql_up hp (by decide)) (ql_up hq (by decide))) rfl rfl rfl) rfl rfl <| dM (vi 0) rfl rfl rfl <| dE' (e_cl (by have h := l_numO (ofQ (q - p)) (ofQ (q - p)) (q - p) (q - p) (qok_up (qok_of (ql_sub (k := 33) hq hp (by decide))) (by decide)) (qok_up (qok_of (ql_sub (k := 33) hq hp (by decide))) (by decide)); rw [sameR_self] at h; exact h) rfl rfl rfl) rfl rfl <| dM (vb true) rfl rfl rfl <| dR (e_lda (cs := (bx (encR (ofQ ((p + q) / ((2 : Int) : Rat)))))) (y := (.d (encR (ofQ ((p + q) / ((2 : Int) : Rat)))))) rfl rfl sh26 rfl rfl) rfl rfl rfl rfl rfl <| dM (vi 0) rfl rfl rfl <| dR (e_lda (cs := (bx (encG (RRng.mk (ofQ p) (ofQ q))))) (y := (.d (encG (RRng.mk (ofQ p) (ofQ q))))) rfl rfl sh28 rfl rfl) rfl rfl rfl rfl rfl <| dE' (e_cl (h_middle p q (ql_up hp (by decide)) (ql_up hq (by decide))) rfl rfl rfl) rfl rfl <| dM (vi 0) rfl rfl rfl <| dE' (e_cl (by have h := l_numO (ofQ ((p + q) / ((2 : Int) : Rat))) (ofQ ((p + q) / ((2 : Int) : Rat))) ((p + q) / ((2 : Int) : Rat)) ((p + q) / ((2 : Int) : Rat)) (qok_up (qok_of (ql_div (k := 34) (ql_add (k := 33) hp hq (by decide)) (ql_int (z := 2) (lenZ_one (by decide)) (by decide)) (by decide))) (by decide)) (qok_up (qok_of (ql_div (k := 34) (ql_add (k := 33) hp hq (by decide)) (ql_int (z := 2) (lenZ_one (by decide)) (by decide)) (by decide))) (by decide)); rw [sameR_self] at h; exact h) rfl rfl rfl) rfl rfl <| dE' (e_pkt (z := (vb true)) rfl rfl rfl) rfl rfl <| dM (vb true) rfl rfl rfl <| dR (e_lda (cs := (bx (encR (ofQ (mxL (absQ p) [(absQ q)]))))) (y := (.d (encR (ofQ (mxL (absQ p) [(absQ q)]))))) rfl rfl sh26 rfl rfl) rfl rfl rfl rfl rfl <| dM (vi 0) rfl rfl rfl <| dR (e_lda (cs := (bx (encG (RRng.mk (ofQ p) (ofQ q))))) (y := (.d (encG (RRng.mk (ofQ p) (ofQ q))))) rfl rfl sh28 rfl rfl) rfl rfl rfl rfl rfl <| dE' (e_cl (h_magn p q (ql_up hp (by decide)) (ql_up hq (by decide))) rfl rfl rfl) rfl rfl <| dM (vi 0) rfl rfl rfl <| dE' (e_cl (by have h := l_numO (ofQ (mxL (absQ p) [(absQ q)])) (ofQ (mxL (absQ p) [(absQ q)])) (mxL (absQ p) [(absQ q)]) (mxL (absQ p) [(absQ q)]) (qok_up (qok_of (ql_mxL (ql_abs hp) (List.forall_mem_cons.2 ⟨ql_abs hq, (fun a h => by cases h)⟩))) (by decide)) (qok_up (qok_of (ql_mxL (ql_abs hp) (List.forall_mem_cons.2 ⟨ql_abs hq, (fun a h => by cases h)⟩))) (by decide)); rw [sameR_self] at h; exact h) rfl rfl rfl) rfl rfl <| dE' (e_pkt (z := (vb true)) rfl rfl rfl) rfl rfl <| dM (vb true) rfl rfl rfl <| dR (e_lda (cs := (bx (encG (RRng.mk (ofQ p) (ofQ q))))) (y := (.d (encG (RRng.mk (ofQ p) (ofQ q))))) rfl rfl sh28 rfl rfl) rfl rfl rfl rfl rfl <| dE' (e_cl (i_sign p q (ql_up hp (by decide)) (ql_up hq (by decide)) hpq) rfl rfl rfl) rfl rfl <| dR (e_lda (cs := (bx (encG (RRng.mk (ofQ p) (ofQ q))))) (y := (.d (encG (RRng.mk (ofQ p) (ofQ q))))) rfl rfl sh28 rfl rfl) rfl rfl rfl rfl rfl <| dE' (e_cl (h_sign p q (ql_up hp (by decide)) (ql_up hq (by decide))) rfl rfl rfl) rfl rfl <| dE' (e_eql rfl rfl rfl) rfl rfl <| dE' (e_pkta rfl rfl rfl) rfl rfl <| dM (vb (true && ((sgG p q) == (sgG p q)))) rfl rfl rfl <| dNil rfl rfl (by kernel_rfl)
  refine pwp_ret ⟨_, (.tmp (d := (.val (.bool ((true && ((sgG p q) == (sgG p q))))))) rfl .nil), ?_⟩
  simp; rfl

theorem w_sizeL (a : RRng) (ha : GOk 140737488355328 a) (hk : List.all [a] shortG = false) : Takes Tryz.prog 9 [(encG a)] (.val (.bool (true))) := by
  refine fn_intro Tryz.func9 rfl cb9 rfl ?_
  show PWp _ _ _ _ ⟨[(0, (.d (encG a)))], []⟩
  refine pwp_seq ?_
  refine pwp_S (S' := [(1, (.ref 0 0))]) (B' := [(0, some (bx (encG a)))]) ?_ ?_
  · skip
    exact sN (n_bx (d := (encG a)) (cs := (bx (encG a))) 0 rfl rfl rfl rfl) rfl rfl rfl rfl <| sM (vb false) rfl rfl <| sNil rfl rfl
  refine pwp_seq ?_
  refine pwp_seq ?_
  refine pwp_S (S' := [(1, (.ref 0 0)), (11, (vb false))]) (B' := [(0, some (bx (encG a)))]) ?_ ?_
  · skip
    exact sE' (e_cl l_known rfl rfl rfl) rfl <| sE' (e_not (b := true) rfl rfl) rfl <| sNil rfl rfl
  refine pwp_cond (b := false) rfl (fun h => by cases h) (fun _ => ?_)
  refine pwp_skip ?_
  refine pwp_seq ?_
  refine pwp_seq ?_
  refine pwp_S (S' := [(1, (.ref 0 0)), (15, (vb true))]) (B' := [(0, some (bx (encG a)))]) ?_ ?_
  · skip
    exact sR (e_lda (cs := (bx (encG a))) (y := (.d (encG a))) rfl rfl sh28 rfl rfl) rfl rfl rfl rfl <| sE' (e_bsl (pd := [(0, (encG a))]) (es := List.map encG [a]) rfl el57 ze28 zo28 rfl rfl rfl rfl rfl rfl rfl rfl) rfl <| sE' (e_cl (by have h := l_short [a] (List.forall_mem_cons.2 ⟨ha, (fun a h => by cases h)⟩) (by simp); rw [show List.all [a] shortG = false from hk] at h; exact h) rfl rfl rfl) rfl <| sE' (e_not (b := false) rfl rfl) rfl <| sNil rfl rfl
  refine pwp_cond (b := true) rfl (fun _ => ?_) (fun h => by cases h)
  refine pwp_seq ?_
  refine pwp_S (S' := [(2, (vb true))]) (B' := []) ?_ ?_
  · skip
    exact sM (vb true) rfl rfl <| sNil rfl rfl
  refine pwp_ret ⟨_, (.tmp (d := (.val (.bool (true)))) rfl .nil), ?_⟩
  rfl

theorem w_sizeV (a : RRng) (ha : GOk 16 a) (hs : List.all [a] shortG = true) (hk : List.all [a] validG = false) : Takes Tryz.prog 9 [(encG a)] (.val (.bool (true))) := by
  refine fn_intro Tryz.func9 rfl cb9 rfl ?_
  show PWp _ _ _ _ ⟨[(0, (.d (encG a)))], []⟩
  refine pwp_seq ?_
  refine pwp_S (S' := [(1, (.ref 0 0))]) (B' := [(0, some (bx (encG a)))]) ?_ ?_
  · skip
    exact sN (n_bx (d := (encG a)) (cs := (bx (encG a))) 0 rfl rfl rfl rfl) rfl rfl rfl rfl <| sM (vb false) rfl rfl <| sNil rfl rfl
  refine pwp_seq ?_
  refine pwp_seq ?_
  refine pwp_S (S' := [(1, (.ref 0 0)), (11, (vb false))]) (B' := [(0, some (bx (encG a)))]) ?_ ?_
  · skip
    exact sE' (e_cl l_known rfl rfl rfl) rfl <| sE' (e_not (b := true) rfl rfl) rfl <| sNil rfl rfl
  refine pwp_cond (b := false) rfl (fun h => by cases h) (fun _ => ?_)
  refine pwp_skip ?_
  refine pwp_seq ?_
  refine pwp_seq ?_
  refine pwp_S (S' := [(1, (.ref 0 0)), (15, (vb false))]) (B' := [(0, some (bx (encG a)))]) ?_ ?_
  · skip
    exact sR (e_lda (cs := (bx (encG a))) (y := (.d (encG a))) rfl rfl sh28 rfl rfl) rfl rfl rfl rfl <| sE' (e_bsl (pd := [(0, (encG a))]) (es := List.map encG [a]) rfl el57 ze28 zo28 rfl rfl rfl rfl rfl rfl rfl rfl) rfl <| sE' (e_cl (by have h := l_short [a] (List.forall_mem_cons.2 ⟨(gok_up ha (by decide)), (fun a h => by cases h)⟩) (by simp); rw [show List.all [a] shortG = true from hs] at h; exact h) rfl rfl rfl) rfl <| sE' (e_not (b := true) rfl rfl) rfl <| sNil rfl rfl
  refine pwp_cond (b := false) rfl (fun h => by cases h) (fun _ => ?_)
  refine pwp_skip ?_
  refine pwp_seq ?_
  refine pwp_S (S' := [(1, (.ref 0 0)), (3, (.ref 1 0)), (4, (vi 1))]) (B' := [(0, some (bx (encG a))), (1, some (bx (encR (RRat.mk (RInt.mk false []) (RInt.mk false [])))))]) ?_ ?_
  · skip
    exact sR (e_lda (cs := (bx (encG a))) (y := (.d (encG a))) rfl rfl sh28 rfl rfl) rfl rfl rfl rfl <| sE' (e_cl (i_widthV a (gok_up ha (by decide)) hk) rfl rfl rfl) rfl <| sM (.d (.tup [(encR (RRat.mk (RInt.mk false []) (RInt.mk false []))), (.val (.int .i64 (1)))])) rfl rfl <| sE' (e_exD (d := (encR (RRat.mk (RInt.mk false []) (RInt.mk false [])))) rfl rfl rfl) rfl <| sE' (e_exD (d := (.val (.int .i64 (1)))) rfl rfl rfl) rfl <| sN (n_al (cs := (bx (encR (RRat.mk (RInt.mk false []) (RInt.mk false []))))) 1 rfl ze26 zo26 rfl) rfl rfl rfl rfl <| sT (t_std (d := (encR (RRat.mk (RInt.mk false []) (RInt.mk false [])))) (cs := (bx (encR (RRat.mk (RInt.mk false []) (RInt.mk false []))))) rfl rfl rfl sh26 rfl rfl rfl rfl) rfl rfl rfl <| sM (vi 1) rfl rfl <| sNil rfl rfl
  refine pwp_seq ?_
  refine pwp_S (S' := [(1, (.ref 0 0)), (3, (.ref 1 0)), (4, (vi 1)), (5, (.ref 2 0)), (6, (vi 1))]) (B' := [(0, some (bx (encG a))), (1, some (bx (encR (RRat.mk (RInt.mk false []) (RInt.mk false []))))), (2, some (bx (encR (RRat.mk (RInt.mk false []) (RInt.mk false [])))))]) ?_ ?_
  · skip
    exact sR (e_lda (cs := (bx (encG a))) (y := (.d (encG a))) rfl rfl sh28 rfl rfl) rfl rfl rfl rfl <| sE' (e_cl (i_middleV a (gok_up ha (by decide)) hk) rfl rfl rfl) rfl <| sM (.d (.tup [(encR (RRat.mk (RInt.mk false []) (RInt.mk false []))), (.val (.int .i64 (1)))])) rfl rfl <| sE' (e_exD (d := (encR (RRat.mk (RInt.mk false []) (RInt.mk false [])))) rfl rfl rfl) rfl <| sE' (e_exD (d := (.val (.int .i64 (1)))) rfl rfl rfl) rfl <| sN (n_al (cs := (bx (encR (RRat.mk (RInt.mk false []) (RInt.mk false []))))) 2 rfl ze26 zo26 rfl) rfl rfl rfl rfl <| sT (t_std (d := (encR (RRat.mk (RInt.mk false []) (RInt.mk false [])))) (cs := (bx (encR (RRat.mk (RInt.mk false []) (RInt.mk false []))))) rfl rfl rfl sh26 rfl rfl rfl rfl) rfl rfl rfl <| sM (vi 1) rfl rfl <| sNil rfl rfl
  refine pwp_seq ?_
  refine pwp_S (S' := [(1, (.ref 0 0)), (3, (.ref 1 0)), (4, (vi 1)), (5, (.ref 2 0)), (6, (vi 1)), (7, (.ref 3 0)), (8, (vi 1))]) (B' := [(0, some (bx (encG a))), (1, some (bx (encR (RRat.mk (RInt.mk false []) (RInt.mk false []))))), (2, some (bx (encR (RRat.mk (RInt.mk false []) (RInt.mk false []))))), (3, some (bx (encR (RRat.mk (RInt.mk false []) (RInt.mk false [])))))]) ?_ ?_
  · skip
    exact sR (e_lda (cs := (bx (encG a))) (y := (.d (encG a))) rfl rfl sh28 rfl rfl) rfl rfl rfl rfl <| sE' (e_cl (i_magnV a (gok_up ha (by decide)) hk) rfl rfl rfl) rfl <| sM (.d (.tup [(encR (RRat.mk (RInt.mk false []) (RInt.mk false []))), (.val (.int .i64 (1)))])) rfl rfl <| sE' (e_exD (d := (encR (RRat.mk (RInt.mk false []) (RInt.mk false [])))) rfl rfl rfl) rfl <| sE' (e_exD (d := (.val (.int .i64 (1)))) rfl rfl rfl) rfl <| sN (n_al (cs := (bx (encR (RRat.mk (RInt.mk false []) (RInt.mk false []))))) 3 rfl ze26 zo26 rfl) rfl rfl rfl rfl <| sT (t_std (d := (encR (RRat.mk (RInt.mk false []) (RInt.mk false [])))) (cs := (bx (encR (RRat.mk (RInt.mk false []) (RInt.mk false []))))) rfl rfl rfl sh26 rfl rfl rfl rfl) rfl rfl rfl <| sM (vi 1) rfl rfl <| sNil rfl rfl
  refine pwp_seq ?_
  refine pwp_S (S' := [(1, (.ref 0 0)), (3, (.ref 1 0)), (4, (vi 1)), (5, (.ref 2 0)), (6, (vi 1)), (7, (.ref 3 0)), (8, (vi 1)), (9, (vi 1))]) (B' := [(0, some (bx (encG a))), (1, some (bx (encR (RRat.mk (RInt.mk false []) (RInt.mk false []))))), (2, some (bx (encR (RRat.mk (RInt.mk false []) (RInt.mk false []))))), (3, some (bx (encR (RRat.mk (RInt.mk false []) (RInt.mk false [])))))]) ?_ ?_
  · skip
    exact sR (e_lda (cs := (bx (encG a))) (y := (.d (encG a))) rfl rfl sh28 rfl rfl) rfl rfl rfl rfl <| sE' (e_bsl (pd := [(0, (encG a))]) (es := List.map encG [a]) rfl el57 ze28 zo28 rfl rfl rfl rfl rfl rfl rfl rfl) rfl <| sE' (e_cl (by have h := l_asked [a] (List.forall_mem_cons.2 ⟨(gok_up ha (by decide)), (fun a h => by cases h)⟩) (by simp); rw [show List.all [a] validG = false from hk] at h; exact h) rfl rfl rfl) rfl <| sM (vi 1) rfl rfl <| sNil rfl rfl
  refine pwp_seq ?_
  refine pwp_seq ?_
  refine pwp_S (S' := [(1, (.ref 0 0)), (3, (.ref 1 0)), (4, (vi 1)), (5, (.ref 2 0)), (6, (vi 1)), (7, (.ref 3 0)), (8, (vi 1)), (9, (vi 1)), (35, (vb true))]) (B' := [(0, some (bx (encG a))), (1, some (bx (encR (RRat.mk (RInt.mk false []) (RInt.mk false []))))), (2, some (bx (encR (RRat.mk (RInt.mk false []) (RInt.mk false []))))), (3, some (bx (encR (RRat.mk (RInt.mk false []) (RInt.mk false [])))))]) ?_ ?_
  · skip
    exact sM (vi 1) rfl rfl <| sE' (e_neq rfl rfl rfl) rfl <| sNil rfl rfl
  refine pwp_cond (b := true) rfl (fun _ => ?_) (fun h => by cases h)
  refine pwp_seq ?_
  refine pwp_S (S' := [(2, (vb true))]) (B' := []) ?_ ?_
  · skip
    exact sR (e_lda (cs := (bx (encR (RRat.mk (RInt.mk false []) (RInt.mk false []))))) (y := (.d (encR (RRat.mk (RInt.mk false []) (RInt.mk false []))))) rfl rfl sh26 rfl rfl) rfl rfl rfl rfl <| sM (vi 1) rfl rfl <| sR (e_lda (cs := (bx (encR (RRat.mk (RInt.mk false []) (RInt.mk false []))))) (y := (.d (encR (RRat.mk (RInt.mk false []) (RInt.mk false []))))) rfl rfl sh26 rfl rfl) rfl rfl rfl rfl <| sM (vi 1) rfl rfl <| sE' (e_cl (l_numE1 (RRat.mk (RInt.mk false []) (RInt.mk false [])) (toQ (RRat.mk (RInt.mk false []) (RInt.mk false []))) qok_nil) rfl rfl rfl) rfl <| sM (vb true) rfl rfl <| sR (e_lda (cs := (bx (encR (RRat.mk (RInt.mk false []) (RInt.mk false []))))) (y := (.d (encR (RRat.mk (RInt.mk false []) (RInt.mk false []))))) rfl rfl sh26 rfl rfl) rfl rfl rfl rfl <| sM (vi 1) rfl rfl <| sR (e_lda (cs := (bx (encR (RRat.mk (RInt.mk false []) (RInt.mk false []))))) (y := (.d (encR (RRat.mk (RInt.mk false []) (RInt.mk false []))))) rfl rfl sh26 rfl rfl) rfl rfl rfl rfl <| sM (vi 1) rfl rfl <| sE' (e_cl (l_numE1 (RRat.mk (RInt.mk false []) (RInt.mk false [])) (toQ (RRat.mk (RInt.mk false []) (RInt.mk false []))) qok_nil) rfl rfl rfl) rfl <| sE' (e_pkt (z := (vb true)) rfl rfl rfl) rfl <| sM (vb true) rfl rfl <| sR (e_lda (cs := (bx (encR (RRat.mk (RInt.mk false []) (RInt.mk false []))))) (y := (.d (encR (RRat.mk (RInt.mk false []) (RInt.mk false []))))) rfl rfl sh26 rfl rfl) rfl rfl rfl rfl <| sM (vi 1) rfl rfl <| sR (e_lda (cs := (bx (encR (RRat.mk (RInt.mk false []) (RInt.mk false []))))) (y := (.d (encR (RRat.mk (RInt.mk false []) (RInt.mk false []))))) rfl rfl sh26 rfl rfl) rfl rfl rfl rfl <| sM (vi 1) rfl rfl <| sE' (e_cl (l_numE1 (RRat.mk (RInt.mk false []) (RInt.mk false [])) (toQ (RRat.mk (RInt.mk false []) (RInt.mk false []))) qok_nil) rfl rfl rfl) rfl <| sE' (e_pkt (z := (vb true)) rfl rfl rfl) rfl <| sM (vb true) rfl rfl <| sR (e_lda (cs := (bx (encG a))) (y := (.d (encG a))) rfl rfl sh28 rfl rfl) rfl rfl rfl rfl <| sE' (e_cl (i_signV a (gok_up ha (by decide)) hk) rfl rfl rfl) rfl <| sE' (e_eql rfl rfl rfl) rfl <| sE' (e_pkt (z := (vb true)) rfl rfl rfl) rfl <| sM (vb true) rfl rfl <| sNil rfl rfl
  refine pwp_ret ⟨_, (.tmp (d := (.val (.bool (true)))) rfl .nil), ?_⟩
  rfl

end Go.Proofs.YtcdgmcfkhkikbaaGreat
