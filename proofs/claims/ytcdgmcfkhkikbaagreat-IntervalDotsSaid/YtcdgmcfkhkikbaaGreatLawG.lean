/-
  Functions walked: each takes its data to what is said. Printed by a program of ours.
-/
import Derived.Test.YtcdgmcfkhkikbaaGreatIvG
namespace Go.Proofs.YtcdgmcfkhkikbaaGreat
open Go.Fid
set_option maxRecDepth 4000
set_option linter.unusedVariables false
set_option linter.unusedSimpArgs false
theorem cb7 : callB Tryz.prog 7 = true := by kernel_rfl
theorem w_dotNa (l m : List RRng) (h8 : 8 < l.length) : Takes Tryz.prog 7 [(.sl 28 8 (List.map encG l)), (.sl 28 8 (List.map encG m))] (.val (.bool (true))) := by
  refine fn_intro Tryz.func7 rfl cb7 rfl ?_
  show PWp _ _ _ _ ⟨[(0, (vl 28 8 encG l)), (1, (vl 28 8 encG m))], []⟩
  refine pwp_seq ?_
  refine pwp_S (S' := [(0, (vl 28 8 encG l)), (1, (vl 28 8 encG m))]) (B' := []) ?_ ?_
  · skip
    exact sM (vb false) rfl rfl <| sNil rfl rfl
  refine pwp_seq ?_
  refine pwp_seq ?_
  refine pwp_S (S' := [(0, (vl 28 8 encG l)), (1, (vl 28 8 encG m)), (10, (vb false))]) (B' := []) ?_ ?_
  · skip
    exact sE' (e_cl l_known rfl rfl rfl) rfl <| sE' (e_not (b := true) rfl rfl) rfl <| sNil rfl rfl
  refine pwp_cond (b := false) rfl (fun h => by cases h) (fun _ => ?_)
  refine pwp_skip ?_
  refine pwp_seq ?_
  refine pwp_seq ?_
  refine pwp_S (S' := [(0, (vl 28 8 encG l)), (1, (vl 28 8 encG m)), (28, (vb true))]) (B' := []) ?_ ?_
  · skip
    exact sM (vl 28 8 encG l) rfl rfl <| sE' (e_ln (r := ((l.length : Nat) : Int)) rfl el57 rfl (by simp)) rfl <| sE' (e_bk (e_gtr rfl rfl rfl) (decide_eq_true (by omega))) rfl <| sM (vb true) rfl rfl <| sK rfl rfl rfl <| sK rfl rfl rfl <| sK rfl rfl rfl <| sE' (e_pkt (z := (vb true)) rfl rfl rfl) rfl <| sM (vb true) rfl rfl <| sK rfl rfl rfl <| sK rfl rfl rfl <| sK rfl rfl rfl <| sE' (e_pkt (z := (vb true)) rfl rfl rfl) rfl <| sM (vb true) rfl rfl <| sK rfl rfl rfl <| sK rfl rfl rfl <| sK rfl rfl rfl <| sE' (e_pkt (z := (vb true)) rfl rfl rfl) rfl <| sNil rfl rfl
  refine pwp_cond (b := true) rfl (fun _ => ?_) (fun h => by cases h)
  refine pwp_seq ?_
  refine pwp_S (S' := [(4, (vb true))]) (B' := []) ?_ ?_
  · skip
    exact sM (vb true) rfl rfl <| sNil rfl rfl
  refine pwp_ret ⟨_, (.tmp (d := (.val (.bool (true)))) rfl .nil), ?_⟩
  rfl

theorem w_dotNb (l m : List RRng) (h8 : ¬ 8 < l.length) (h9 : 8 < m.length) : Takes Tryz.prog 7 [(.sl 28 8 (List.map encG l)), (.sl 28 8 (List.map encG m))] (.val (.bool (true))) := by
  refine fn_intro Tryz.func7 rfl cb7 rfl ?_
  show PWp _ _ _ _ ⟨[(0, (vl 28 8 encG l)), (1, (vl 28 8 encG m))], []⟩
  refine pwp_seq ?_
  refine pwp_S (S' := [(0, (vl 28 8 encG l)), (1, (vl 28 8 encG m))]) (B' := []) ?_ ?_
  · skip
    exact sM (vb false) rfl rfl <| sNil rfl rfl
  refine pwp_seq ?_
  refine pwp_seq ?_
  refine pwp_S (S' := [(0, (vl 28 8 encG l)), (1, (vl 28 8 encG m)), (10, (vb false))]) (B' := []) ?_ ?_
  · skip
    exact sE' (e_cl l_known rfl rfl rfl) rfl <| sE' (e_not (b := true) rfl rfl) rfl <| sNil rfl rfl
  refine pwp_cond (b := false) rfl (fun h => by cases h) (fun _ => ?_)
  refine pwp_skip ?_
  refine pwp_seq ?_
  refine pwp_seq ?_
  refine pwp_S (S' := [(0, (vl 28 8 encG l)), (1, (vl 28 8 encG m)), (28, (vb true))]) (B' := []) ?_ ?_
  · skip
    exact sM (vl 28 8 encG l) rfl rfl <| sE' (e_ln (r := ((l.length : Nat) : Int)) rfl el57 rfl (by simp)) rfl <| sE' (e_bk (e_gtr rfl rfl rfl) (decide_eq_false (by omega))) rfl <| sM (vb false) rfl rfl <| sM (vl 28 8 encG m) rfl rfl <| sE' (e_ln (r := ((m.length : Nat) : Int)) rfl el57 rfl (by simp)) rfl <| sE' (e_bk (e_gtr rfl rfl rfl) (decide_eq_true (by omega))) rfl <| sE' (e_pkf (z := (vb true)) rfl rfl rfl) rfl <| sM (vb true) rfl rfl <| sK rfl rfl rfl <| sK rfl rfl rfl <| sK rfl rfl rfl <| sE' (e_pkt (z := (vb true)) rfl rfl rfl) rfl <| sM (vb true) rfl rfl <| sK rfl rfl rfl <| sK rfl rfl rfl <| sK rfl rfl rfl <| sE' (e_pkt (z := (vb true)) rfl rfl rfl) rfl <| sNil rfl rfl
  refine pwp_cond (b := true) rfl (fun _ => ?_) (fun h => by cases h)
  refine pwp_seq ?_
  refine pwp_S (S' := [(4, (vb true))]) (B' := []) ?_ ?_
  · skip
    exact sM (vb true) rfl rfl <| sNil rfl rfl
  refine pwp_ret ⟨_, (.tmp (d := (.val (.bool (true)))) rfl .nil), ?_⟩
  rfl

theorem w_dotLa (l : List RRng) (hl : ∀ a ∈ l, GOk 140737488355328 a) (hbl : l.length ≤ 8) (m : List RRng) (hm : ∀ a ∈ m, GOk 140737488355328 a) (hbm : m.length ≤ 8) (hsl : List.all l shortG = false) : Takes Tryz.prog 7 [(.sl 28 8 (List.map encG l)), (.sl 28 8 (List.map encG m))] (.val (.bool (true))) := by
  refine fn_intro Tryz.func7 rfl cb7 rfl ?_
  show PWp _ _ _ _ ⟨[(0, (vl 28 8 encG l)), (1, (vl 28 8 encG m))], []⟩
  refine pwp_seq ?_
  refine pwp_S (S' := [(0, (vl 28 8 encG l)), (1, (vl 28 8 encG m))]) (B' := []) ?_ ?_
  · skip
    exact sM (vb false) rfl rfl <| sNil rfl rfl
  refine pwp_seq ?_
  refine pwp_seq ?_
  refine pwp_S (S' := [(0, (vl 28 8 encG l)), (1, (vl 28 8 encG m)), (10, (vb false))]) (B' := []) ?_ ?_
  · skip
    exact sE' (e_cl l_known rfl rfl rfl) rfl <| sE' (e_not (b := true) rfl rfl) rfl <| sNil rfl rfl
  refine pwp_cond (b := false) rfl (fun h => by cases h) (fun _ => ?_)
  refine pwp_skip ?_
  refine pwp_seq ?_
  refine pwp_seq ?_
  refine pwp_S (S' := [(0, (vl 28 8 encG l)), (1, (vl 28 8 encG m)), (28, (vb true))]) (B' := []) ?_ ?_
  · skip
    exact sM (vl 28 8 encG l) rfl rfl <| sE' (e_ln (r := ((l.length : Nat) : Int)) rfl el57 rfl (by simp)) rfl <| sE' (e_bk (e_gtr rfl rfl rfl) (decide_eq_false (by omega))) rfl <| sM (vb false) rfl rfl <| sM (vl 28 8 encG m) rfl rfl <| sE' (e_ln (r := ((m.length : Nat) : Int)) rfl el57 rfl (by simp)) rfl <| sE' (e_bk (e_gtr rfl rfl rfl) (decide_eq_false (by omega))) rfl <| sE' (e_pkf (z := (vb false)) rfl rfl rfl) rfl <| sM (vb false) rfl rfl <| sM (vl 28 8 encG l) rfl rfl <| sE' (e_cl (by have h := l_short l hl (Nat.le_trans hbl (by decide)); rw [show List.all l shortG = false from hsl] at h; exact h) rfl rfl rfl) rfl <| sE' (e_not (b := false) rfl rfl) rfl <| sE' (e_pkf (z := (vb true)) rfl rfl rfl) rfl <| sM (vb true) rfl rfl <| sK rfl rfl rfl <| sK rfl rfl rfl <| sK rfl rfl rfl <| sE' (e_pkt (z := (vb true)) rfl rfl rfl) rfl <| sNil rfl rfl
  refine pwp_cond (b := true) rfl (fun _ => ?_) (fun h => by cases h)
  refine pwp_seq ?_
  refine pwp_S (S' := [(4, (vb true))]) (B' := []) ?_ ?_
  · skip
    exact sM (vb true) rfl rfl <| sNil rfl rfl
  refine pwp_ret ⟨_, (.tmp (d := (.val (.bool (true)))) rfl .nil), ?_⟩
  rfl

theorem w_dotLb (l : List RRng) (hl : ∀ a ∈ l, GOk 140737488355328 a) (hbl : l.length ≤ 8) (m : List RRng) (hm : ∀ a ∈ m, GOk 140737488355328 a) (hbm : m.length ≤ 8) (hsl : List.all l shortG = true) (hsm : List.all m shortG = false) : Takes Tryz.prog 7 [(.sl 28 8 (List.map encG l)), (.sl 28 8 (List.map encG m))] (.val (.bool (true))) := by
  refine fn_intro Tryz.func7 rfl cb7 rfl ?_
  show PWp _ _ _ _ ⟨[(0, (vl 28 8 encG l)), (1, (vl 28 8 encG m))], []⟩
  refine pwp_seq ?_
  refine pwp_S (S' := [(0, (vl 28 8 encG l)), (1, (vl 28 8 encG m))]) (B' := []) ?_ ?_
  · skip
    exact sM (vb false) rfl rfl <| sNil rfl rfl
  refine pwp_seq ?_
  refine pwp_seq ?_
  refine pwp_S (S' := [(0, (vl 28 8 encG l)), (1, (vl 28 8 encG m)), (10, (vb false))]) (B' := []) ?_ ?_
  · skip
    exact sE' (e_cl l_known rfl rfl rfl) rfl <| sE' (e_not (b := true) rfl rfl) rfl <| sNil rfl rfl
  refine pwp_cond (b := false) rfl (fun h => by cases h) (fun _ => ?_)
  refine pwp_skip ?_
  refine pwp_seq ?_
  refine pwp_seq ?_
  refine pwp_S (S' := [(0, (vl 28 8 encG l)), (1, (vl 28 8 encG m)), (28, (vb true))]) (B' := []) ?_ ?_
  · skip
    exact sM (vl 28 8 encG l) rfl rfl <| sE' (e_ln (r := ((l.length : Nat) : Int)) rfl el57 rfl (by simp)) rfl <| sE' (e_bk (e_gtr rfl rfl rfl) (decide_eq_false (by omega))) rfl <| sM (vb false) rfl rfl <| sM (vl 28 8 encG m) rfl rfl <| sE' (e_ln (r := ((m.length : Nat) : Int)) rfl el57 rfl (by simp)) rfl <| sE' (e_bk (e_gtr rfl rfl rfl) (decide_eq_false (by omega))) rfl <| sE' (e_pkf (z := (vb false)) rfl rfl rfl) rfl <| sM (vb false) rfl rfl <| sM (vl 28 8 encG l) rfl rfl <| sE' (e_cl (by have h := l_short l hl (Nat.le_trans hbl (by decide)); rw [show List.all l shortG = true from hsl] at h; exact h) rfl rfl rfl) rfl <| sE' (e_not (b := true) rfl rfl) rfl <| sE' (e_pkf (z := (vb false)) rfl rfl rfl) rfl <| sM (vb false) rfl rfl <| sM (vl 28 8 encG m) rfl rfl <| sE' (e_cl (by have h := l_short m hm (Nat.le_trans hbm (by decide)); rw [show List.all m shortG = false from hsm] at h; exact h) rfl rfl rfl) rfl <| sE' (e_not (b := false) rfl rfl) rfl <| sE' (e_pkf (z := (vb true)) rfl rfl rfl) rfl <| sNil rfl rfl
  refine pwp_cond (b := true) rfl (fun _ => ?_) (fun h => by cases h)
  refine pwp_seq ?_
  refine pwp_S (S' := [(4, (vb true))]) (B' := []) ?_ ?_
  · skip
    exact sM (vb true) rfl rfl <| sNil rfl rfl
  refine pwp_ret ⟨_, (.tmp (d := (.val (.bool (true)))) rfl .nil), ?_⟩
  rfl

theorem w_dotA (l : List RRng) (hl : ∀ a ∈ l, GOk 16 a) (hbl : l.length ≤ 8) (m : List RRng) (hm : ∀ a ∈ m, GOk 16 a) (hbm : m.length ≤ 8) (hsl : List.all l shortG = true) (hsm : List.all m shortG = true) (hk : List.all l validG = false) : Takes Tryz.prog 7 [(.sl 28 8 (List.map encG l)), (.sl 28 8 (List.map encG m))] (.val (.bool (true))) := by
  refine fn_intro Tryz.func7 rfl cb7 rfl ?_
  show PWp _ _ _ _ ⟨[(0, (vl 28 8 encG l)), (1, (vl 28 8 encG m))], []⟩
  refine pwp_seq ?_
  refine pwp_S (S' := [(0, (vl 28 8 encG l)), (1, (vl 28 8 encG m))]) (B' := []) ?_ ?_
  · skip
    exact sM (vb false) rfl rfl <| sNil rfl rfl
  refine pwp_seq ?_
  refine pwp_seq ?_
  refine pwp_S (S' := [(0, (vl 28 8 encG l)), (1, (vl 28 8 encG m)), (10, (vb false))]) (B' := []) ?_ ?_
  · skip
    exact sE' (e_cl l_known rfl rfl rfl) rfl <| sE' (e_not (b := true) rfl rfl) rfl <| sNil rfl rfl
  refine pwp_cond (b := false) rfl (fun h => by cases h) (fun _ => ?_)
  refine pwp_skip ?_
  refine pwp_seq ?_
  refine pwp_seq ?_
  refine pwp_S (S' := [(0, (vl 28 8 encG l)), (1, (vl 28 8 encG m)), (28, (vb false))]) (B' := []) ?_ ?_
  · skip
    exact sM (vl 28 8 encG l) rfl rfl <| sE' (e_ln (r := ((l.length : Nat) : Int)) rfl el57 rfl (by simp)) rfl <| sE' (e_bk (e_gtr rfl rfl rfl) (decide_eq_false (by omega))) rfl <| sM (vb false) rfl rfl <| sM (vl 28 8 encG m) rfl rfl <| sE' (e_ln (r := ((m.length : Nat) : Int)) rfl el57 rfl (by simp)) rfl <| sE' (e_bk (e_gtr rfl rfl rfl) (decide_eq_false (by omega))) rfl <| sE' (e_pkf (z := (vb false)) rfl rfl rfl) rfl <| sM (vb false) rfl rfl <| sM (vl 28 8 encG l) rfl rfl <| sE' (e_cl (by have h := l_short l (gokl_up hl (by decide)) (Nat.le_trans hbl (by decide)); rw [show List.all l shortG = true from hsl] at h; exact h) rfl rfl rfl) rfl <| sE' (e_not (b := true) rfl rfl) rfl <| sE' (e_pkf (z := (vb false)) rfl rfl rfl) rfl <| sM (vb false) rfl rfl <| sM (vl 28 8 encG m) rfl rfl <| sE' (e_cl (by have h := l_short m (gokl_up hm (by decide)) (Nat.le_trans hbm (by decide)); rw [show List.all m shortG = true from hsm] at h; exact h) rfl rfl rfl) rfl <| sE' (e_not (b := true) rfl rfl) rfl <| sE' (e_pkf (z := (vb false)) rfl rfl rfl) rfl <| sNil rfl rfl
  refine pwp_cond (b := false) rfl (fun h => by cases h) (fun _ => ?_)
  refine pwp_skip ?_
  refine pwp_seq ?_
  refine pwp_S (S' := [(0, (vl 28 8 encG l)), (1, (vl 28 8 encG m)), (5, (.ref 0 0)), (6, (vi 1))]) (B' := [(0, some (bx (encG (RRng.mk (RRat.mk (RInt.mk false []) (RInt.mk false [])) (RRat.mk (RInt.mk false []) (RInt.mk false []))))))]) ?_ ?_
  · skip
    exact sM (vl 28 8 encG l) rfl rfl <| sM (vl 28 8 encG m) rfl rfl <| sE' (e_cl (i_dotA l hl (Nat.le_trans hbl (by decide)) m hm (Nat.le_trans hbm (by decide)) hk) rfl rfl rfl) rfl <| sM (.d (.tup [(encG (RRng.mk (RRat.mk (RInt.mk false []) (RInt.mk false [])) (RRat.mk (RInt.mk false []) (RInt.mk false [])))), (.val (.int .i64 (1)))])) rfl rfl <| sE' (e_exD (d := (encG (RRng.mk (RRat.mk (RInt.mk false []) (RInt.mk false [])) (RRat.mk (RInt.mk false []) (RInt.mk false []))))) rfl rfl rfl) rfl <| sE' (e_exD (d := (.val (.int .i64 (1)))) rfl rfl rfl) rfl <| sN (n_al (cs := (bx (encG (RRng.mk (RRat.mk (RInt.mk false []) (RInt.mk false [])) (RRat.mk (RInt.mk false []) (RInt.mk false [])))))) 0 rfl ze28 zo28 rfl) rfl rfl rfl rfl <| sT (t_std (d := (encG (RRng.mk (RRat.mk (RInt.mk false []) (RInt.mk false [])) (RRat.mk (RInt.mk false []) (RInt.mk false []))))) (cs := (bx (encG (RRng.mk (RRat.mk (RInt.mk false []) (RInt.mk false [])) (RRat.mk (RInt.mk false []) (RInt.mk false [])))))) rfl rfl rfl sh28 rfl rfl rfl rfl) rfl rfl rfl <| sM (vi 1) rfl rfl <| sNil rfl rfl
  refine pwp_seq ?_
  refine pwp_S (S' := [(0, (vl 28 8 encG l)), (1, (vl 28 8 encG m)), (5, (.ref 0 0)), (6, (vi 1)), (7, (vi 1))]) (B' := [(0, some (bx (encG (RRng.mk (RRat.mk (RInt.mk false []) (RInt.mk false [])) (RRat.mk (RInt.mk false []) (RInt.mk false []))))))]) ?_ ?_
  · skip
    exact sM (vl 28 8 encG l) rfl rfl <| sE' (e_cl (by have h := l_asked l (gokl_up hl (by decide)) (Nat.le_trans hbl (by decide)); rw [show List.all l validG = false from hk] at h; exact h) rfl rfl rfl) rfl <| sM (vi 1) rfl rfl <| sNil rfl rfl
  refine pwp_seq ?_
  refine pwp_seq ?_
  refine pwp_S (S' := [(0, (vl 28 8 encG l)), (1, (vl 28 8 encG m)), (5, (.ref 0 0)), (6, (vi 1)), (7, (vi 1)), (38, (vb false))]) (B' := [(0, some (bx (encG (RRng.mk (RRat.mk (RInt.mk false []) (RInt.mk false [])) (RRat.mk (RInt.mk false []) (RInt.mk false []))))))]) ?_ ?_
  · skip
    exact sM (vi 1) rfl rfl <| sE' (e_eql rfl rfl rfl) rfl <| sNil rfl rfl
  refine pwp_cond (b := false) rfl (fun h => by cases h) (fun _ => ?_)
  refine pwp_skip ?_
  refine pwp_seq ?_
  refine pwp_S (S' := [(0, (vl 28 8 encG l)), (1, (vl 28 8 encG m)), (5, (.ref 0 0)), (6, (vi 1)), (7, (vi 1)), (8, (.ref 1 0))]) (B' := [(0, some (bx (encG (RRng.mk (RRat.mk (RInt.mk false []) (RInt.mk false [])) (RRat.mk (RInt.mk false []) (RInt.mk false [])))))), (1, some (bx (encG (RRng.mk (RRat.mk (RInt.mk false []) (RInt.mk false [])) (RRat.mk (RInt.mk false []) (RInt.mk false []))))))]) ?_ ?_
  · skip
    exact sE' (e_bld (pd := []) (y := (encG (RRng.mk (RRat.mk (RInt.mk false []) (RInt.mk false [])) (RRat.mk (RInt.mk false []) (RInt.mk false []))))) rfl pl28 ze28 zo28 rfl rfl rfl rfl) rfl <| sN (n_al (cs := (bx (encG (RRng.mk (RRat.mk (RInt.mk false []) (RInt.mk false [])) (RRat.mk (RInt.mk false []) (RInt.mk false [])))))) 1 rfl ze28 zo28 rfl) rfl rfl rfl rfl <| sT (t_std (d := (encG (RRng.mk (RRat.mk (RInt.mk false []) (RInt.mk false [])) (RRat.mk (RInt.mk false []) (RInt.mk false []))))) (cs := (bx (encG (RRng.mk (RRat.mk (RInt.mk false []) (RInt.mk false [])) (RRat.mk (RInt.mk false []) (RInt.mk false [])))))) rfl rfl rfl sh28 rfl rfl rfl rfl) rfl rfl rfl <| sNil rfl rfl
  refine pwp_seq ?_
  refine pwp_seq ?_
  refine pwp_S (S' := [(0, (vl 28 8 encG l)), (1, (vl 28 8 encG m)), (5, (.ref 0 0)), (6, (vi 1)), (7, (vi 1)), (8, (.ref 1 0)), (43, (vb false))]) (B' := [(0, some (bx (encG (RRng.mk (RRat.mk (RInt.mk false []) (RInt.mk false [])) (RRat.mk (RInt.mk false []) (RInt.mk false [])))))), (1, some (bx (encG (RRng.mk (RRat.mk (RInt.mk false []) (RInt.mk false [])) (RRat.mk (RInt.mk false []) (RInt.mk false []))))))]) ?_ ?_
  · skip
    exact sM (vi 1) rfl rfl <| sE' (e_eql rfl rfl rfl) rfl <| sNil rfl rfl
  refine pwp_cond (b := false) rfl (fun h => by cases h) (fun _ => ?_)
  refine pwp_skip ?_
  refine pwp_seq ?_
  refine pwp_S (S' := [(4, (vb true))]) (B' := []) ?_ ?_
  · skip
    exact sR (e_lda (cs := (bx (encG (RRng.mk (RRat.mk (RInt.mk false []) (RInt.mk false [])) (RRat.mk (RInt.mk false []) (RInt.mk false [])))))) (y := (.d (encG (RRng.mk (RRat.mk (RInt.mk false []) (RInt.mk false [])) (RRat.mk (RInt.mk false []) (RInt.mk false [])))))) rfl rfl sh28 rfl rfl) rfl rfl rfl rfl <| sM (vi 1) rfl rfl <| sR (e_lda (cs := (bx (encG (RRng.mk (RRat.mk (RInt.mk false []) (RInt.mk false [])) (RRat.mk (RInt.mk false []) (RInt.mk false [])))))) (y := (.d (encG (RRng.mk (RRat.mk (RInt.mk false []) (RInt.mk false [])) (RRat.mk (RInt.mk false []) (RInt.mk false [])))))) rfl rfl sh28 rfl rfl) rfl rfl rfl rfl <| sM (vi 1) rfl rfl <| sE' (e_cl (l_resE1 (RRng.mk (RRat.mk (RInt.mk false []) (RInt.mk false [])) (RRat.mk (RInt.mk false []) (RInt.mk false []))) gok_none) rfl rfl rfl) rfl <| sM (vb true) rfl rfl <| sNil rfl rfl
  refine pwp_ret ⟨_, (.tmp (d := (.val (.bool (true)))) rfl .nil), ?_⟩
  rfl

theorem w_dotB (L : List (Rat × Rat)) (hL : ∀ x ∈ L, GL 16 x) (hbL : L.length ≤ 8) (m : List RRng) (hm : ∀ a ∈ m, GOk 16 a) (hbm : m.length ≤ 8) (hsL : List.all (List.map ofG L) shortG = true) (hsm : List.all m shortG = true) (hk : List.all m validG = false) : Takes Tryz.prog 7 [(.sl 28 8 (List.map encG (List.map ofG L))), (.sl 28 8 (List.map encG m))] (.val (.bool (true))) := by
  refine fn_intro Tryz.func7 rfl cb7 rfl ?_
  show PWp _ _ _ _ ⟨[(0, (vl 28 8 encG (List.map ofG L))), (1, (vl 28 8 encG m))], []⟩
  refine pwp_seq ?_
  refine pwp_S (S' := [(0, (vl 28 8 encG (List.map ofG L))), (1, (vl 28 8 encG m))]) (B' := []) ?_ ?_
  · skip
    exact sM (vb false) rfl rfl <| sNil rfl rfl
  refine pwp_seq ?_
  refine pwp_seq ?_
  refine pwp_S (S' := [(0, (vl 28 8 encG (List.map ofG L))), (1, (vl 28 8 encG m)), (10, (vb false))]) (B' := []) ?_ ?_
  · skip
    exact sE' (e_cl l_known rfl rfl rfl) rfl <| sE' (e_not (b := true) rfl rfl) rfl <| sNil rfl rfl
  refine pwp_cond (b := false) rfl (fun h => by cases h) (fun _ => ?_)
  refine pwp_skip ?_
  refine pwp_seq ?_
  refine pwp_seq ?_
  refine pwp_S (S' := [(0, (vl 28 8 encG (List.map ofG L))), (1, (vl 28 8 encG m)), (28, (vb false))]) (B' := []) ?_ ?_
  · skip
    exact sM (vl 28 8 encG (List.map ofG L)) rfl rfl <| sE' (e_ln (r := ((L.length : Nat) : Int)) rfl el57 rfl (by simp)) rfl <| sE' (e_bk (e_gtr rfl rfl rfl) (decide_eq_false (by omega))) rfl <| sM (vb false) rfl rfl <| sM (vl 28 8 encG m) rfl rfl <| sE' (e_ln (r := ((m.length : Nat) : Int)) rfl el57 rfl (by simp)) rfl <| sE' (e_bk (e_gtr rfl rfl rfl) (decide_eq_false (by omega))) rfl <| sE' (e_pkf (z := (vb false)) rfl rfl rfl) rfl <| sM (vb false) rfl rfl <| sM (vl 28 8 encG (List.map ofG L)) rfl rfl <| sE' (e_cl (by have h := l_short (List.map ofG L) (gokl_up (gok_map hL) (by decide)) (by rw [List.length_map]; exact (Nat.le_trans hbL (by decide))); rw [show List.all (List.map ofG L) shortG = true from hsL] at h; exact h) rfl rfl rfl) rfl <| sE' (e_not (b := true) rfl rfl) rfl <| sE' (e_pkf (z := (vb false)) rfl rfl rfl) rfl <| sM (vb false) rfl rfl <| sM (vl 28 8 encG m) rfl rfl <| sE' (e_cl (by have h := l_short m (gokl_up hm (by decide)) (Nat.le_trans hbm (by decide)); rw [show List.all m shortG = true from hsm] at h; exact h) rfl rfl rfl) rfl <| sE' (e_not (b := true) rfl rfl) rfl <| sE' (e_pkf (z := (vb false)) rfl rfl rfl) rfl <| sNil rfl rfl
  refine pwp_cond (b := false) rfl (fun h => by cases h) (fun _ => ?_)
  refine pwp_skip ?_
  refine pwp_seq ?_
  refine pwp_S (S' := [(0, (vl 28 8 encG (List.map ofG L))), (1, (vl 28 8 encG m)), (5, (.ref 0 0)), (6, (vi 1))]) (B' := [(0, some (bx (encG (RRng.mk (RRat.mk (RInt.mk false []) (RInt.mk false [])) (RRat.mk (RInt.mk false []) (RInt.mk false []))))))]) ?_ ?_
  · skip
    exact sM (vl 28 8 encG (List.map ofG L)) rfl rfl <| sM (vl 28 8 encG m) rfl rfl <| sE' (e_cl (i_dotB L hL (Nat.le_trans hbL (by decide)) m hm (Nat.le_trans hbm (by decide)) hk) rfl rfl rfl) rfl <| sM (.d (.tup [(encG (RRng.mk (RRat.mk (RInt.mk false []) (RInt.mk false [])) (RRat.mk (RInt.mk false []) (RInt.mk false [])))), (.val (.int .i64 (1)))])) rfl rfl <| sE' (e_exD (d := (encG (RRng.mk (RRat.mk (RInt.mk false []) (RInt.mk false [])) (RRat.mk (RInt.mk false []) (RInt.mk false []))))) rfl rfl rfl) rfl <| sE' (e_exD (d := (.val (.int .i64 (1)))) rfl rfl rfl) rfl <| sN (n_al (cs := (bx (encG (RRng.mk (RRat.mk (RInt.mk false []) (RInt.mk false [])) (RRat.mk (RInt.mk false []) (RInt.mk false [])))))) 0 rfl ze28 zo28 rfl) rfl rfl rfl rfl <| sT (t_std (d := (encG (RRng.mk (RRat.mk (RInt.mk false []) (RInt.mk false [])) (RRat.mk (RInt.mk false []) (RInt.mk false []))))) (cs := (bx (encG (RRng.mk (RRat.mk (RInt.mk false []) (RInt.mk false [])) (RRat.mk (RInt.mk false []) (RInt.mk false [])))))) rfl rfl rfl sh28 rfl rfl rfl rfl) rfl rfl rfl <| sM (vi 1) rfl rfl <| sNil rfl rfl
  refine pwp_seq ?_
  refine pwp_S (S' := [(0, (vl 28 8 encG (List.map ofG L))), (1, (vl 28 8 encG m)), (5, (.ref 0 0)), (6, (vi 1)), (7, (vi 0))]) (B' := [(0, some (bx (encG (RRng.mk (RRat.mk (RInt.mk false []) (RInt.mk false [])) (RRat.mk (RInt.mk false []) (RInt.mk false []))))))]) ?_ ?_
  · skip
    exact sM (vl 28 8 encG (List.map ofG L)) rfl rfl <| sE' (e_cl (by have h := l_asked (List.map ofG L) (gokl_up (gok_map hL) (by decide)) (by rw [List.length_map]; exact (Nat.le_trans hbL (by decide))); rw [valid_map hL] at h; exact h) rfl rfl rfl) rfl <| sM (vi 0) rfl rfl <| sNil rfl rfl
  refine pwp_seq ?_
  refine pwp_seq ?_
  refine pwp_S (S' := [(0, (vl 28 8 encG (List.map ofG L))), (1, (vl 28 8 encG m)), (5, (.ref 0 0)), (6, (vi 1)), (7, (vi 0)), (38, (vb true))]) (B' := [(0, some (bx (encG (RRng.mk (RRat.mk (RInt.mk false []) (RInt.mk false [])) (RRat.mk (RInt.mk false []) (RInt.mk false []))))))]) ?_ ?_
  · skip
    exact sM (vi 0) rfl rfl <| sE' (e_eql rfl rfl rfl) rfl <| sNil rfl rfl
  refine pwp_cond (b := true) rfl (fun _ => ?_) (fun h => by cases h)
  refine pwp_S (S' := [(0, (vl 28 8 encG (List.map ofG L))), (1, (vl 28 8 encG m)), (5, (.ref 0 0)), (6, (vi 1)), (7, (vi 1))]) (B' := [(0, some (bx (encG (RRng.mk (RRat.mk (RInt.mk false []) (RInt.mk false [])) (RRat.mk (RInt.mk false []) (RInt.mk false []))))))]) ?_ ?_
  · skip
    exact sM (vl 28 8 encG m) rfl rfl <| sE' (e_cl (by have h := l_asked m (gokl_up hm (by decide)) (Nat.le_trans hbm (by decide)); rw [show List.all m validG = false from hk] at h; exact h) rfl rfl rfl) rfl <| sM (vi 1) rfl rfl <| sNil rfl rfl
  refine pwp_seq ?_
  refine pwp_S (S' := [(0, (vl 28 8 encG (List.map ofG L))), (1, (vl 28 8 encG m)), (5, (.ref 0 0)), (6, (vi 1)), (7, (vi 1)), (8, (.ref 1 0))]) (B' := [(0, some (bx (encG (RRng.mk (RRat.mk (RInt.mk false []) (RInt.mk false [])) (RRat.mk (RInt.mk false []) (RInt.mk false [])))))), (1, some (bx (encG (RRng.mk (RRat.mk (RInt.mk false []) (RInt.mk false [])) (RRat.mk (RInt.mk false []) (RInt.mk false []))))))]) ?_ ?_
  · skip
    exact sE' (e_bld (pd := []) (y := (encG (RRng.mk (RRat.mk (RInt.mk false []) (RInt.mk false [])) (RRat.mk (RInt.mk false []) (RInt.mk false []))))) rfl pl28 ze28 zo28 rfl rfl rfl rfl) rfl <| sN (n_al (cs := (bx (encG (RRng.mk (RRat.mk (RInt.mk false []) (RInt.mk false [])) (RRat.mk (RInt.mk false []) (RInt.mk false [])))))) 1 rfl ze28 zo28 rfl) rfl rfl rfl rfl <| sT (t_std (d := (encG (RRng.mk (RRat.mk (RInt.mk false []) (RInt.mk false [])) (RRat.mk (RInt.mk false []) (RInt.mk false []))))) (cs := (bx (encG (RRng.mk (RRat.mk (RInt.mk false []) (RInt.mk false [])) (RRat.mk (RInt.mk false []) (RInt.mk false [])))))) rfl rfl rfl sh28 rfl rfl rfl rfl) rfl rfl rfl <| sNil rfl rfl
  refine pwp_seq ?_
  refine pwp_seq ?_
  refine pwp_S (S' := [(0, (vl 28 8 encG (List.map ofG L))), (1, (vl 28 8 encG m)), (5, (.ref 0 0)), (6, (vi 1)), (7, (vi 1)), (8, (.ref 1 0)), (43, (vb false))]) (B' := [(0, some (bx (encG (RRng.mk (RRat.mk (RInt.mk false []) (RInt.mk false [])) (RRat.mk (RInt.mk false []) (RInt.mk false [])))))), (1, some (bx (encG (RRng.mk (RRat.mk (RInt.mk false []) (RInt.mk false [])) (RRat.mk (RInt.mk false []) (RInt.mk false []))))))]) ?_ ?_
  · skip
    exact sM (vi 1) rfl rfl <| sE' (e_eql rfl rfl rfl) rfl <| sNil rfl rfl
  refine pwp_cond (b := false) rfl (fun h => by cases h) (fun _ => ?_)
  refine pwp_skip ?_
  refine pwp_seq ?_
  refine pwp_S (S' := [(4, (vb true))]) (B' := []) ?_ ?_
  · skip
    exact sR (e_lda (cs := (bx (encG (RRng.mk (RRat.mk (RInt.mk false []) (RInt.mk false [])) (RRat.mk (RInt.mk false []) (RInt.mk false [])))))) (y := (.d (encG (RRng.mk (RRat.mk (RInt.mk false []) (RInt.mk false [])) (RRat.mk (RInt.mk false []) (RInt.mk false [])))))) rfl rfl sh28 rfl rfl) rfl rfl rfl rfl <| sM (vi 1) rfl rfl <| sR (e_lda (cs := (bx (encG (RRng.mk (RRat.mk (RInt.mk false []) (RInt.mk false [])) (RRat.mk (RInt.mk false []) (RInt.mk false [])))))) (y := (.d (encG (RRng.mk (RRat.mk (RInt.mk false []) (RInt.mk false [])) (RRat.mk (RInt.mk false []) (RInt.mk false [])))))) rfl rfl sh28 rfl rfl) rfl rfl rfl rfl <| sM (vi 1) rfl rfl <| sE' (e_cl (l_resE1 (RRng.mk (RRat.mk (RInt.mk false []) (RInt.mk false [])) (RRat.mk (RInt.mk false []) (RInt.mk false []))) gok_none) rfl rfl rfl) rfl <| sM (vb true) rfl rfl <| sNil rfl rfl
  refine pwp_ret ⟨_, (.tmp (d := (.val (.bool (true)))) rfl .nil), ?_⟩
  rfl

theorem w_dotM (L : List (Rat × Rat)) (hL : ∀ x ∈ L, GL 16 x) (hbL : L.length ≤ 8) (M : List (Rat × Rat)) (hM : ∀ x ∈ M, GL 16 x) (hbM : M.length ≤ 8) (hsL : List.all (List.map ofG L) shortG = true) (hsM : List.all (List.map ofG M) shortG = true) (hlen : L.length ≠ M.length) : Takes Tryz.prog 7 [(.sl 28 8 (List.map encG (List.map ofG L))), (.sl 28 8 (List.map encG (List.map ofG M)))] (.val (.bool (true))) := by
  refine fn_intro Tryz.func7 rfl cb7 rfl ?_
  show PWp _ _ _ _ ⟨[(0, (vl 28 8 encG (List.map ofG L))), (1, (vl 28 8 encG (List.map ofG M)))], []⟩
  refine pwp_seq ?_
  refine pwp_S (S' := [(0, (vl 28 8 encG (List.map ofG L))), (1, (vl 28 8 encG (List.map ofG M)))]) (B' := []) ?_ ?_
  · skip
    exact sM (vb false) rfl rfl <| sNil rfl rfl
  refine pwp_seq ?_
  refine pwp_seq ?_
  refine pwp_S (S' := [(0, (vl 28 8 encG (List.map ofG L))), (1, (vl 28 8 encG (List.map ofG M))), (10, (vb false))]) (B' := []) ?_ ?_
  · skip
    exact sE' (e_cl l_known rfl rfl rfl) rfl <| sE' (e_not (b := true) rfl rfl) rfl <| sNil rfl rfl
  refine pwp_cond (b := false) rfl (fun h => by cases h) (fun _ => ?_)
  refine pwp_skip ?_
  refine pwp_seq ?_
  refine pwp_seq ?_
  refine pwp_S (S' := [(0, (vl 28 8 encG (List.map ofG L))), (1, (vl 28 8 encG (List.map ofG M))), (28, (vb false))]) (B' := []) ?_ ?_
  · skip
    exact sM (vl 28 8 encG (List.map ofG L)) rfl rfl <| sE' (e_ln (r := ((L.length : Nat) : Int)) rfl el57 rfl (by simp)) rfl <| sE' (e_bk (e_gtr rfl rfl rfl) (decide_eq_false (by omega))) rfl <| sM (vb false) rfl rfl <| sM (vl 28 8 encG (List.map ofG M)) rfl rfl <| sE' (e_ln (r := ((M.length : Nat) : Int)) rfl el57 rfl (by simp)) rfl <| sE' (e_bk (e_gtr rfl rfl rfl) (decide_eq_false (by omega))) rfl <| sE' (e_pkf (z := (vb false)) rfl rfl rfl) rfl <| sM (vb false) rfl rfl <| sM (vl 28 8 encG (List.map ofG L)) rfl rfl <| sE' (e_cl (by have h := l_short (List.map ofG L) (gokl_up (gok_map hL) (by decide)) (by rw [List.length_map]; exact (Nat.le_trans hbL (by decide))); rw [show List.all (List.map ofG L) shortG = true from hsL] at h; exact h) rfl rfl rfl) rfl <| sE' (e_not (b := true) rfl rfl) rfl <| sE' (e_pkf (z := (vb false)) rfl rfl rfl) rfl <| sM (vb false) rfl rfl <| sM (vl 28 8 encG (List.map ofG M)) rfl rfl <| sE' (e_cl (by have h := l_short (List.map ofG M) (gokl_up (gok_map hM) (by decide)) (by rw [List.length_map]; exact (Nat.le_trans hbM (by decide))); rw [show List.all (List.map ofG M) shortG = true from hsM] at h; exact h) rfl rfl rfl) rfl <| sE' (e_not (b := true) rfl rfl) rfl <| sE' (e_pkf (z := (vb false)) rfl rfl rfl) rfl <| sNil rfl rfl
  refine pwp_cond (b := false) rfl (fun h => by cases h) (fun _ => ?_)
  refine pwp_skip ?_
  refine pwp_seq ?_
  refine pwp_S (S' := [(0, (vl 28 8 encG (List.map ofG L))), (1, (vl 28 8 encG (List.map ofG M))), (5, (.ref 0 0)), (6, (vi 4))]) (B' := [(0, some (bx (encG (RRng.mk (RRat.mk (RInt.mk false []) (RInt.mk false [])) (RRat.mk (RInt.mk false []) (RInt.mk false []))))))]) ?_ ?_
  · skip
    exact sM (vl 28 8 encG (List.map ofG L)) rfl rfl <| sM (vl 28 8 encG (List.map ofG M)) rfl rfl <| sE' (e_cl (i_dotM L hL (Nat.le_trans hbL (by decide)) M hM (Nat.le_trans hbM (by decide)) hlen) rfl rfl rfl) rfl <| sM (.d (.tup [(encG (RRng.mk (RRat.mk (RInt.mk false []) (RInt.mk false [])) (RRat.mk (RInt.mk false []) (RInt.mk false [])))), (.val (.int .i64 (4)))])) rfl rfl <| sE' (e_exD (d := (encG (RRng.mk (RRat.mk (RInt.mk false []) (RInt.mk false [])) (RRat.mk (RInt.mk false []) (RInt.mk false []))))) rfl rfl rfl) rfl <| sE' (e_exD (d := (.val (.int .i64 (4)))) rfl rfl rfl) rfl <| sN (n_al (cs := (bx (encG (RRng.mk (RRat.mk (RInt.mk false []) (RInt.mk false [])) (RRat.mk (RInt.mk false []) (RInt.mk false [])))))) 0 rfl ze28 zo28 rfl) rfl rfl rfl rfl <| sT (t_std (d := (encG (RRng.mk (RRat.mk (RInt.mk false []) (RInt.mk false [])) (RRat.mk (RInt.mk false []) (RInt.mk false []))))) (cs := (bx (encG (RRng.mk (RRat.mk (RInt.mk false []) (RInt.mk false [])) (RRat.mk (RInt.mk false []) (RInt.mk false [])))))) rfl rfl rfl sh28 rfl rfl rfl rfl) rfl rfl rfl <| sM (vi 4) rfl rfl <| sNil rfl rfl
  refine pwp_seq ?_
  refine pwp_S (S' := [(0, (vl 28 8 encG (List.map ofG L))), (1, (vl 28 8 encG (List.map ofG M))), (5, (.ref 0 0)), (6, (vi 4)), (7, (vi 0))]) (B' := [(0, some (bx (encG (RRng.mk (RRat.mk (RInt.mk false []) (RInt.mk false [])) (RRat.mk (RInt.mk false []) (RInt.mk false []))))))]) ?_ ?_
  · skip
    exact sM (vl 28 8 encG (List.map ofG L)) rfl rfl <| sE' (e_cl (by have h := l_asked (List.map ofG L) (gokl_up (gok_map hL) (by decide)) (by rw [List.length_map]; exact (Nat.le_trans hbL (by decide))); rw [valid_map hL] at h; exact h) rfl rfl rfl) rfl <| sM (vi 0) rfl rfl <| sNil rfl rfl
  refine pwp_seq ?_
  refine pwp_seq ?_
  refine pwp_S (S' := [(0, (vl 28 8 encG (List.map ofG L))), (1, (vl 28 8 encG (List.map ofG M))), (5, (.ref 0 0)), (6, (vi 4)), (7, (vi 0)), (38, (vb true))]) (B' := [(0, some (bx (encG (RRng.mk (RRat.mk (RInt.mk false []) (RInt.mk false [])) (RRat.mk (RInt.mk false []) (RInt.mk false []))))))]) ?_ ?_
  · skip
    exact sM (vi 0) rfl rfl <| sE' (e_eql rfl rfl rfl) rfl <| sNil rfl rfl
  refine pwp_cond (b := true) rfl (fun _ => ?_) (fun h => by cases h)
  refine pwp_S (S' := [(0, (vl 28 8 encG (List.map ofG L))), (1, (vl 28 8 encG (List.map ofG M))), (5, (.ref 0 0)), (6, (vi 4)), (7, (vi 0))]) (B' := [(0, some (bx (encG (RRng.mk (RRat.mk (RInt.mk false []) (RInt.mk false [])) (RRat.mk (RInt.mk false []) (RInt.mk false []))))))]) ?_ ?_
  · skip
    exact sM (vl 28 8 encG (List.map ofG M)) rfl rfl <| sE' (e_cl (by have h := l_asked (List.map ofG M) (gokl_up (gok_map hM) (by decide)) (by rw [List.length_map]; exact (Nat.le_trans hbM (by decide))); rw [valid_map hM] at h; exact h) rfl rfl rfl) rfl <| sM (vi 0) rfl rfl <| sNil rfl rfl
  refine pwp_seq ?_
  refine pwp_S (S' := [(0, (vl 28 8 encG (List.map ofG L))), (1, (vl 28 8 encG (List.map ofG M))), (5, (.ref 0 0)), (6, (vi 4)), (7, (vi 0)), (8, (.ref 1 0))]) (B' := [(0, some (bx (encG (RRng.mk (RRat.mk (RInt.mk false []) (RInt.mk false [])) (RRat.mk (RInt.mk false []) (RInt.mk false [])))))), (1, some (bx (encG (RRng.mk (RRat.mk (RInt.mk false []) (RInt.mk false [])) (RRat.mk (RInt.mk false []) (RInt.mk false []))))))]) ?_ ?_
  · skip
    exact sE' (e_bld (pd := []) (y := (encG (RRng.mk (RRat.mk (RInt.mk false []) (RInt.mk false [])) (RRat.mk (RInt.mk false []) (RInt.mk false []))))) rfl pl28 ze28 zo28 rfl rfl rfl rfl) rfl <| sN (n_al (cs := (bx (encG (RRng.mk (RRat.mk (RInt.mk false []) (RInt.mk false [])) (RRat.mk (RInt.mk false []) (RInt.mk false [])))))) 1 rfl ze28 zo28 rfl) rfl rfl rfl rfl <| sT (t_std (d := (encG (RRng.mk (RRat.mk (RInt.mk false []) (RInt.mk false [])) (RRat.mk (RInt.mk false []) (RInt.mk false []))))) (cs := (bx (encG (RRng.mk (RRat.mk (RInt.mk false []) (RInt.mk false [])) (RRat.mk (RInt.mk false []) (RInt.mk false [])))))) rfl rfl rfl sh28 rfl rfl rfl rfl) rfl rfl rfl <| sNil rfl rfl
  refine pwp_seq ?_
  refine pwp_seq ?_
  refine pwp_S (S' := [(0, (vl 28 8 encG (List.map ofG L))), (1, (vl 28 8 encG (List.map ofG M))), (5, (.ref 0 0)), (6, (vi 4)), (7, (vi 0)), (8, (.ref 1 0)), (43, (vb true))]) (B' := [(0, some (bx (encG (RRng.mk (RRat.mk (RInt.mk false []) (RInt.mk false [])) (RRat.mk (RInt.mk false []) (RInt.mk false [])))))), (1, some (bx (encG (RRng.mk (RRat.mk (RInt.mk false []) (RInt.mk false [])) (RRat.mk (RInt.mk false []) (RInt.mk false []))))))]) ?_ ?_
  · skip
    exact sM (vi 0) rfl rfl <| sE' (e_eql rfl rfl rfl) rfl <| sNil rfl rfl
  refine pwp_cond (b := true) rfl (fun _ => ?_) (fun h => by cases h)
  refine pwp_S (S' := [(5, (.ref 0 0)), (6, (vi 4)), (7, (vi 4)), (8, (.ref 1 0))]) (B' := [(0, some (bx (encG (RRng.mk (RRat.mk (RInt.mk false []) (RInt.mk false [])) (RRat.mk (RInt.mk false []) (RInt.mk false [])))))), (1, some (bx (encG (RRng.mk (RRat.mk (RInt.mk false []) (RInt.mk false [])) (RRat.mk (RInt.mk false []) (RInt.mk false []))))))]) ?_ ?_
  · skip
    exact sM (vl 28 8 encG (List.map ofG L)) rfl rfl <| sM (vl 28 8 encG (List.map ofG M)) rfl rfl <| sE' (e_cl (h_dotM L hL (Nat.le_trans hbL (by decide)) M hM (Nat.le_trans hbM (by decide)) hlen) rfl rfl rfl) rfl <| sM (.d (.tup [(encG (RRng.mk (RRat.mk (RInt.mk false []) (RInt.mk false [])) (RRat.mk (RInt.mk false []) (RInt.mk false [])))), (.val (.int .i64 (4)))])) rfl rfl <| sE' (e_exD (d := (encG (RRng.mk (RRat.mk (RInt.mk false []) (RInt.mk false [])) (RRat.mk (RInt.mk false []) (RInt.mk false []))))) rfl rfl rfl) rfl <| sE' (e_exD (d := (.val (.int .i64 (4)))) rfl rfl rfl) rfl <| sT (t_std (d := (encG (RRng.mk (RRat.mk (RInt.mk false []) (RInt.mk false [])) (RRat.mk (RInt.mk false []) (RInt.mk false []))))) (cs := (bx (encG (RRng.mk (RRat.mk (RInt.mk false []) (RInt.mk false [])) (RRat.mk (RInt.mk false []) (RInt.mk false [])))))) rfl rfl rfl sh28 rfl rfl rfl rfl) rfl rfl rfl <| sM (vi 4) rfl rfl <| sNil rfl rfl
  refine pwp_seq ?_
  refine pwp_S (S' := [(4, (vb true))]) (B' := []) ?_ ?_
  · skip
    exact sR (e_lda (cs := (bx (encG (RRng.mk (RRat.mk (RInt.mk false []) (RInt.mk false [])) (RRat.mk (RInt.mk false []) (RInt.mk false [])))))) (y := (.d (encG (RRng.mk (RRat.mk (RInt.mk false []) (RInt.mk false [])) (RRat.mk (RInt.mk false []) (RInt.mk false [])))))) rfl rfl sh28 rfl rfl) rfl rfl rfl rfl <| sM (vi 4) rfl rfl <| sR (e_lda (cs := (bx (encG (RRng.mk (RRat.mk (RInt.mk false []) (RInt.mk false [])) (RRat.mk (RInt.mk false []) (RInt.mk false [])))))) (y := (.d (encG (RRng.mk (RRat.mk (RInt.mk false []) (RInt.mk false [])) (RRat.mk (RInt.mk false []) (RInt.mk false [])))))) rfl rfl sh28 rfl rfl) rfl rfl rfl rfl <| sM (vi 4) rfl rfl <| sE' (e_cl (l_resE4 (RRng.mk (RRat.mk (RInt.mk false []) (RInt.mk false [])) (RRat.mk (RInt.mk false []) (RInt.mk false []))) gok_none) rfl rfl rfl) rfl <| sM (vb true) rfl rfl <| sNil rfl rfl
  refine pwp_ret ⟨_, (.tmp (d := (.val (.bool (true)))) rfl .nil), ?_⟩
  rfl

theorem w_dot (L : List (Rat × Rat)) (hL : ∀ x ∈ L, GL 16 x) (hbL : L.length ≤ 8) (M : List (Rat × Rat)) (hM : ∀ x ∈ M, GL 16 x) (hbM : M.length ≤ 8) (hsL : List.all (List.map ofG L) shortG = true) (hsM : List.all (List.map ofG M) shortG = true) (hlen : L.length = M.length) : Takes Tryz.prog 7 [(.sl 28 8 (List.map encG (List.map ofG L))), (.sl 28 8 (List.map encG (List.map ofG M)))] (.val (.bool (true))) := by
  refine fn_intro Tryz.func7 rfl cb7 rfl ?_
  show PWp _ _ _ _ ⟨[(0, (vl 28 8 encG (List.map ofG L))), (1, (vl 28 8 encG (List.map ofG M)))], []⟩
  refine pwp_seq ?_
  refine pwp_S (S' := [(0, (vl 28 8 encG (List.map ofG L))), (1, (vl 28 8 encG (List.map ofG M)))]) (B' := []) ?_ ?_
  · skip
    exact sM (vb false) rfl rfl <| sNil rfl rfl
  refine pwp_seq ?_
  refine pwp_seq ?_
  refine pwp_S (S' := [(0, (vl 28 8 encG (List.map ofG L))), (1, (vl 28 8 encG (List.map ofG M))), (10, (vb false))]) (B' := []) ?_ ?_
  · skip
    exact sE' (e_cl l_known rfl rfl rfl) rfl <| sE' (e_not (b := true) rfl rfl) rfl <| sNil rfl rfl
  refine pwp_cond (b := false) rfl (fun h => by cases h) (fun _ => ?_)
  refine pwp_skip ?_
  refine pwp_seq ?_
  refine pwp_seq ?_
  refine pwp_S (S' := [(0, (vl 28 8 encG (List.map ofG L))), (1, (vl 28 8 encG (List.map ofG M))), (28, (vb false))]) (B' := []) ?_ ?_
  · skip
    exact sM (vl 28 8 encG (List.map ofG L)) rfl rfl <| sE' (e_ln (r := ((L.length : Nat) : Int)) rfl el57 rfl (by simp)) rfl <| sE' (e_bk (e_gtr rfl rfl rfl) (decide_eq_false (by omega))) rfl <| sM (vb false) rfl rfl <| sM (vl 28 8 encG (List.map ofG M)) rfl rfl <| sE' (e_ln (r := ((M.length : Nat) : Int)) rfl el57 rfl (by simp)) rfl <| sE' (e_bk (e_gtr rfl rfl rfl) (decide_eq_false (by omega))) rfl <| sE' (e_pkf (z := (vb false)) rfl rfl rfl) rfl <| sM (vb false) rfl rfl <| sM (vl 28 8 encG (List.map ofG L)) rfl rfl <| sE' (e_cl (by have h := l_short (List.map ofG L) (gokl_up (gok_map hL) (by decide)) (by rw [List.length_map]; exact (Nat.le_trans hbL (by decide))); rw [show List.all (List.map ofG L) shortG = true from hsL] at h; exact h) rfl rfl rfl) rfl <| sE' (e_not (b := true) rfl rfl) rfl <| sE' (e_pkf (z := (vb false)) rfl rfl rfl) rfl <| sM (vb false) rfl rfl <| sM (vl 28 8 encG (List.map ofG M)) rfl rfl <| sE' (e_cl (by have h := l_short (List.map ofG M) (gokl_up (gok_map hM) (by decide)) (by rw [List.length_map]; exact (Nat.le_trans hbM (by decide))); rw [show List.all (List.map ofG M) shortG = true from hsM] at h; exact h) rfl rfl rfl) rfl <| sE' (e_not (b := true) rfl rfl) rfl <| sE' (e_pkf (z := (vb false)) rfl rfl rfl) rfl <| sNil rfl rfl
  refine pwp_cond (b := false) rfl (fun h => by cases h) (fun _ => ?_)
  refine pwp_skip ?_
  refine pwp_seq ?_
  refine pwp_S (S' := [(0, (vl 28 8 encG (List.map ofG L))), (1, (vl 28 8 encG (List.map ofG M))), (5, (.ref 0 0)), (6, (vi 0))]) (B' := [(0, some (bx (encG (RRng.mk (ofQ ((dotF L M L.length).1)) (ofQ ((dotF L M L.length).2))))))]) ?_ ?_
  · skip
    exact sM (vl 28 8 encG (List.map ofG L)) rfl rfl <| sM (vl 28 8 encG (List.map ofG M)) rfl rfl <| sE' (e_cl (i_dot L hL (Nat.le_trans hbL (by decide)) M hM (Nat.le_trans hbM (by decide)) hlen hbL) rfl rfl rfl) rfl <| sM (.d (.tup [(encG (RRng.mk (ofQ ((dotF L M L.length).1)) (ofQ ((dotF L M L.length).2)))), (.val (.int .i64 (0)))])) rfl rfl <| sE' (e_exD (d := (encG (RRng.mk (ofQ ((dotF L M L.length).1)) (ofQ ((dotF L M L.length).2))))) rfl rfl rfl) rfl <| sE' (e_exD (d := (.val (.int .i64 (0)))) rfl rfl rfl) rfl <| sN (n_al (cs := (bx (encG (RRng.mk (RRat.mk (RInt.mk false []) (RInt.mk false [])) (RRat.mk (RInt.mk false []) (RInt.mk false [])))))) 0 rfl ze28 zo28 rfl) rfl rfl rfl rfl <| sT (t_std (d := (encG (RRng.mk (ofQ ((dotF L M L.length).1)) (ofQ ((dotF L M L.length).2))))) (cs := (bx (encG (RRng.mk (ofQ ((dotF L M L.length).1)) (ofQ ((dotF L M L.length).2)))))) rfl rfl rfl sh28 rfl rfl rfl rfl) rfl rfl rfl <| sM (vi 0) rfl rfl <| sNil rfl rfl
  refine pwp_seq ?_
  refine pwp_S (S' := [(0, (vl 28 8 encG (List.map ofG L))), (1, (vl 28 8 encG (List.map ofG M))), (5, (.ref 0 0)), (6, (vi 0)), (7, (vi 0))]) (B' := [(0, some (bx (encG (RRng.mk (ofQ ((dotF L M L.length).1)) (ofQ ((dotF L M L.length).2))))))]) ?_ ?_
  · skip
    exact sM (vl 28 8 encG (List.map ofG L)) rfl rfl <| sE' (e_cl (by have h := l_asked (List.map ofG L) (gokl_up (gok_map hL) (by decide)) (by rw [List.length_map]; exact (Nat.le_trans hbL (by decide))); rw [valid_map hL] at h; exact h) rfl rfl rfl) rfl <| sM (vi 0) rfl rfl <| sNil rfl rfl
  refine pwp_seq ?_
  refine pwp_seq ?_
  refine pwp_S (S' := [(0, (vl 28 8 encG (List.map ofG L))), (1, (vl 28 8 encG (List.map ofG M))), (5, (.ref 0 0)), (6, (vi 0)), (7, (vi 0)), (38, (vb true))]) (B' := [(0, some (bx (encG (RRng.mk (ofQ ((dotF L M L.length).1)) (ofQ ((dotF L M L.length).2))))))]) ?_ ?_
  · skip
    exact sM (vi 0) rfl rfl <| sE' (e_eql rfl rfl rfl) rfl <| sNil rfl rfl
  refine pwp_cond (b := true) rfl (fun _ => ?_) (fun h => by cases h)
  refine pwp_S (S' := [(0, (vl 28 8 encG (List.map ofG L))), (1, (vl 28 8 encG (List.map ofG M))), (5, (.ref 0 0)), (6, (vi 0)), (7, (vi 0))]) (B' := [(0, some (bx (encG (RRng.mk (ofQ ((dotF L M L.length).1)) (ofQ ((dotF L M L.length).2))))))]) ?_ ?_
  · skip
    exact sM (vl 28 8 encG (List.map ofG M)) rfl rfl <| sE' (e_cl (by have h := l_asked (List.map ofG M) (gokl_up (gok_map hM) (by decide)) (by rw [List.length_map]; exact (Nat.le_trans hbM (by decide))); rw [valid_map hM] at h; exact h) rfl rfl rfl) rfl <| sM (vi 0) rfl rfl <| sNil rfl rfl
  refine pwp_seq ?_
  refine pwp_S (S' := [(0, (vl 28 8 encG (List.map ofG L))), (1, (vl 28 8 encG (List.map ofG M))), (5, (.ref 0 0)), (6, (vi 0)), (7, (vi 0)), (8, (.ref 1 0))]) (B' := [(0, some (bx (encG (RRng.mk (ofQ ((dotF L M L.length).1)) (ofQ ((dotF L M L.length).2)))))), (1, some (bx (encG (RRng.mk (RRat.mk (RInt.mk false []) (RInt.mk false [])) (RRat.mk (RInt.mk false []) (RInt.mk false []))))))]) ?_ ?_
  · skip
    exact sE' (e_bld (pd := []) (y := (encG (RRng.mk (RRat.mk (RInt.mk false []) (RInt.mk false [])) (RRat.mk (RInt.mk false []) (RInt.mk false []))))) rfl pl28 ze28 zo28 rfl rfl rfl rfl) rfl <| sN (n_al (cs := (bx (encG (RRng.mk (RRat.mk (RInt.mk false []) (RInt.mk false [])) (RRat.mk (RInt.mk false []) (RInt.mk false [])))))) 1 rfl ze28 zo28 rfl) rfl rfl rfl rfl <| sT (t_std (d := (encG (RRng.mk (RRat.mk (RInt.mk false []) (RInt.mk false [])) (RRat.mk (RInt.mk false []) (RInt.mk false []))))) (cs := (bx (encG (RRng.mk (RRat.mk (RInt.mk false []) (RInt.mk false [])) (RRat.mk (RInt.mk false []) (RInt.mk false [])))))) rfl rfl rfl sh28 rfl rfl rfl rfl) rfl rfl rfl <| sNil rfl rfl
  refine pwp_seq ?_
  refine pwp_seq ?_
  refine pwp_S (S' := [(0, (vl 28 8 encG (List.map ofG L))), (1, (vl 28 8 encG (List.map ofG M))), (5, (.ref 0 0)), (6, (vi 0)), (7, (vi 0)), (8, (.ref 1 0)), (43, (vb true))]) (B' := [(0, some (bx (encG (RRng.mk (ofQ ((dotF L M L.length).1)) (ofQ ((dotF L M L.length).2)))))), (1, some (bx (encG (RRng.mk (RRat.mk (RInt.mk false []) (RInt.mk false [])) (RRat.mk (RInt.mk false []) (RInt.mk false []))))))]) ?_ ?_
  · skip
    exact sM (vi 0) rfl rfl <| sE' (e_eql rfl rfl rfl) rfl <| sNil rfl rfl
  refine pwp_cond (b := true) rfl (fun _ => ?_) (fun h => by cases h)
  refine pwp_S (S' := [(5, (.ref 0 0)), (6, (vi 0)), (7, (vi 0)), (8, (.ref 1 0))]) (B' := [(0, some (bx (encG (RRng.mk (ofQ ((dotF L M L.length).1)) (ofQ ((dotF L M L.length).2)))))), (1, some (bx (encG (RRng.mk (ofQ ((dotF L M L.length).1)) (ofQ ((dotF L M L.length).2))))))]) ?_ ?_
  · skip
    exact sM (vl 28 8 encG (List.map ofG L)) rfl rfl <| sM (vl 28 8 encG (List.map ofG M)) rfl rfl <| sE' (e_cl (h_dot L hL (Nat.le_trans hbL (by decide)) M hM (Nat.le_trans hbM (by decide)) hlen hbL) rfl rfl rfl) rfl <| sM (.d (.tup [(encG (RRng.mk (ofQ ((dotF L M L.length).1)) (ofQ ((dotF L M L.length).2)))), (.val (.int .i64 (0)))])) rfl rfl <| sE' (e_exD (d := (encG (RRng.mk (ofQ ((dotF L M L.length).1)) (ofQ ((dotF L M L.length).2))))) rfl rfl rfl) rfl <| sE' (e_exD (d := (.val (.int .i64 (0)))) rfl rfl rfl) rfl <| sT (t_std (d := (encG (RRng.mk (ofQ ((dotF L M L.length).1)) (ofQ ((dotF L M L.length).2))))) (cs := (bx (encG (RRng.mk (ofQ ((dotF L M L.length).1)) (ofQ ((dotF L M L.length).2)))))) rfl rfl rfl sh28 rfl rfl rfl rfl) rfl rfl rfl <| sM (vi 0) rfl rfl <| sNil rfl rfl
  refine pwp_seq ?_
  refine pwp_S (S' := [(4, (vb true))]) (B' := []) ?_ ?_
  · skip
    exact sR (e_lda (cs := (bx (encG (RRng.mk (ofQ ((dotF L M L.length).1)) (ofQ ((dotF L M L.length).2)))))) (y := (.d (encG (RRng.mk (ofQ ((dotF L M L.length).1)) (ofQ ((dotF L M L.length).2)))))) rfl rfl sh28 rfl rfl) rfl rfl rfl rfl <| sM (vi 0) rfl rfl <| sR (e_lda (cs := (bx (encG (RRng.mk (ofQ ((dotF L M L.length).1)) (ofQ ((dotF L M L.length).2)))))) (y := (.d (encG (RRng.mk (ofQ ((dotF L M L.length).1)) (ofQ ((dotF L M L.length).2)))))) rfl rfl sh28 rfl rfl) rfl rfl rfl rfl <| sM (vi 0) rfl rfl <| sE' (e_cl (by have h := l_resO (RRng.mk (ofQ ((dotF L M L.length).1)) (ofQ ((dotF L M L.length).2))) (RRng.mk (ofQ ((dotF L M L.length).1)) (ofQ ((dotF L M L.length).2))) (gok_up (⟨qok_self (qok_up (qok_of (dot_ql hL hM (by omega)).1) (by decide : 300 ≤ 300)), qok_self (qok_up (qok_of (dot_ql hL hM (by omega)).2.1) (by decide : 300 ≤ 300))⟩) (by decide)) (gok_up (⟨qok_self (qok_up (qok_of (dot_ql hL hM (by omega)).1) (by decide : 300 ≤ 300)), qok_self (qok_up (qok_of (dot_ql hL hM (by omega)).2.1) (by decide : 300 ≤ 300))⟩) (by decide)); rw [show sameG (RRng.mk (ofQ ((dotF L M L.length).1)) (ofQ ((dotF L M L.length).2))) (RRng.mk (ofQ ((dotF L M L.length).1)) (ofQ ((dotF L M L.length).2))) = true from sameG_self (dot_ql hL hM (by omega)).2.2] at h; exact h) rfl rfl rfl) rfl <| sM (vb true) rfl rfl <| sNil rfl rfl
  refine pwp_ret ⟨_, (.tmp (d := (.val (.bool (true)))) rfl .nil), ?_⟩
  rfl

end Go.Proofs.YtcdgmcfkhkikbaaGreat
