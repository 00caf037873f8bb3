/-
  Functions walked: each takes its data to what is said. Printed by a program of ours.
-/
import Derived.Test.YtcdgmcfkhkikbaaGreatIvC
import Derived.Test.YtcdgmcfkhkikbaaGreatBound
namespace Go.Proofs.YtcdgmcfkhkikbaaGreat
open Go.Fid
set_option maxRecDepth 4000
set_option linter.unusedVariables false
set_option linter.unusedSimpArgs false
theorem cb12 : callB Tryz.prog 12 = true := by kernel_rfl
theorem cb13 : callB Tryz.prog 13 = true := by kernel_rfl
theorem cb15 : callB Tryz.prog 15 = true := by kernel_rfl
theorem cb16 : callB Tryz.prog 16 = true := by kernel_rfl
theorem cb32 : callB Tryz.prog 32 = true := by kernel_rfl
theorem cb33 : callB Tryz.prog 33 = true := by kernel_rfl
theorem cb68 : callB Tryz.prog 68 = true := by kernel_rfl
theorem cb99 : callB Tryz.prog 99 = true := by kernel_rfl
theorem ft28_0 : fieldT Tryz.prog 28 0 = some (0, 26) := by kernel_rfl
theorem ft28_1 : fieldT Tryz.prog 28 1 = some (4, 26) := by kernel_rfl
theorem i_hull (p q r s : Rat) (hp : QL p 1073741824) (hq : QL q 1073741824) (hr : QL r 1073741824) (hs : QL s 1073741824) (hpq : p ≤ q) (hrs : r ≤ s) : Takes Tryz.prog 12 [(encG (RRng.mk (ofQ p) (ofQ q))), (encG (RRng.mk (ofQ r) (ofQ s)))] (.tup [(encG (RRng.mk (ofQ (mnL p [q, r, s])) (ofQ (mxL p [q, r, s])))), (.val (.int .i64 (0)))]) := by
  refine fn_intro Tryz.func12 rfl cb12 rfl ?_
  show PWp _ _ _ _ ⟨[(0, (.d (encG (RRng.mk (ofQ p) (ofQ q))))), (1, (.d (encG (RRng.mk (ofQ r) (ofQ s)))))], []⟩
  refine pwp_seq ?_
  refine pwp_S (S' := [(2, (.ref 0 0)), (3, (.ref 1 0)), (4, (.ref 2 0))]) (B' := [(0, some (bx (encG (RRng.mk (ofQ p) (ofQ q))))), (1, some (bx (encG (RRng.mk (ofQ r) (ofQ s))))), (2, some (bx (encG (RRng.mk (RRat.mk (RInt.mk false []) (RInt.mk false [])) (RRat.mk (RInt.mk false []) (RInt.mk false []))))))]) ?_ ?_
  · skip
    exact sN (n_bx (d := (encG (RRng.mk (ofQ p) (ofQ q)))) (cs := (bx (encG (RRng.mk (ofQ p) (ofQ q))))) 0 rfl rfl rfl rfl) rfl rfl rfl rfl <| sN (n_bx (d := (encG (RRng.mk (ofQ r) (ofQ s)))) (cs := (bx (encG (RRng.mk (ofQ r) (ofQ s))))) 1 rfl rfl rfl rfl) rfl rfl rfl rfl <| sN (n_al (cs := (bx (encG (RRng.mk (RRat.mk (RInt.mk false []) (RInt.mk false [])) (RRat.mk (RInt.mk false []) (RInt.mk false [])))))) 2 rfl ze28 zo28 rfl) rfl rfl rfl rfl <| sM (vin 0) rfl rfl <| sNil rfl rfl
  refine pwp_seq ?_
  refine pwp_seq ?_
  refine pwp_S (S' := [(2, (.ref 0 0)), (3, (.ref 1 0)), (4, (.ref 2 0)), (10, (vb false))]) (B' := [(0, some (bx (encG (RRng.mk (ofQ p) (ofQ q))))), (1, some (bx (encG (RRng.mk (ofQ r) (ofQ s))))), (2, some (bx (encG (RRng.mk (RRat.mk (RInt.mk false []) (RInt.mk false [])) (RRat.mk (RInt.mk false []) (RInt.mk false []))))))]) ?_ ?_
  · skip
    exact sR (e_lda (cs := (bx (encG (RRng.mk (ofQ p) (ofQ q))))) (y := (.d (encG (RRng.mk (ofQ p) (ofQ q))))) rfl rfl sh28 rfl rfl) rfl rfl rfl rfl <| sR (e_lda (cs := (bx (encG (RRng.mk (ofQ r) (ofQ s))))) (y := (.d (encG (RRng.mk (ofQ r) (ofQ s))))) rfl rfl sh28 rfl rfl) rfl rfl rfl rfl <| sE' (e_bsl (pd := [(0, (encG (RRng.mk (ofQ p) (ofQ q)))), (1, (encG (RRng.mk (ofQ r) (ofQ s))))]) (es := List.map encG [(RRng.mk (ofQ p) (ofQ q)), (RRng.mk (ofQ r) (ofQ s))]) rfl el57 ze28 zo28 rfl rfl rfl rfl rfl rfl rfl rfl) rfl <| sE' (e_cl (by have h := i_valids [(RRng.mk (ofQ p) (ofQ q)), (RRng.mk (ofQ r) (ofQ s))] (List.forall_mem_cons.2 ⟨(gok_up (⟨qok_self (qok_up (qok_of hp) (by decide : 1073741824 ≤ 1073741824)), qok_self (qok_up (qok_of hq) (by decide : 1073741824 ≤ 1073741824))⟩) (by decide)), (List.forall_mem_cons.2 ⟨(gok_up (⟨qok_self (qok_up (qok_of hr) (by decide : 1073741824 ≤ 1073741824)), qok_self (qok_up (qok_of hs) (by decide : 1073741824 ≤ 1073741824))⟩) (by decide)), (fun a h => by cases h)⟩)⟩) (by simp); rw [show List.all [(RRng.mk (ofQ p) (ofQ q)), (RRng.mk (ofQ r) (ofQ s))] validG = true from by simp [validG_of hpq, validG_of hrs]] at h; exact h) rfl rfl rfl) rfl <| sE' (e_not (b := true) rfl rfl) rfl <| sNil rfl rfl
  refine pwp_cond (b := false) rfl (fun h => by cases h) (fun _ => ?_)
  refine pwp_skip ?_
  refine pwp_seq ?_
  refine pwp_S (S' := [(4, (.ref 2 0)), (5, (vin 0))]) (B' := [(2, some (bx (encG (RRng.mk (ofQ (mnL p [q, r, s])) (ofQ (mxL p [q, r, s]))))))]) ?_ ?_
  · skip
    exact sE' (e_fldr (q := 0) rfl rfl fo28_0 rfl) rfl <| sR (e_lda (cs := (bx (encG (RRng.mk (ofQ p) (ofQ q))))) (y := (.d (encR (ofQ p)))) rfl rfl sh26 rfl rfl) rfl rfl rfl rfl <| sE' (e_fldr (q := 4) rfl rfl fo28_1 rfl) rfl <| sR (e_lda (cs := (bx (encG (RRng.mk (ofQ p) (ofQ q))))) (y := (.d (encR (ofQ q)))) rfl rfl sh26 rfl rfl) rfl rfl rfl rfl <| sE' (e_fldr (q := 0) rfl rfl fo28_0 rfl) rfl <| sR (e_lda (cs := (bx (encG (RRng.mk (ofQ r) (ofQ s))))) (y := (.d (encR (ofQ r)))) rfl rfl sh26 rfl rfl) rfl rfl rfl rfl <| sE' (e_fldr (q := 4) rfl rfl fo28_1 rfl) rfl <| sR (e_lda (cs := (bx (encG (RRng.mk (ofQ r) (ofQ s))))) (y := (.d (encR (ofQ s)))) rfl rfl sh26 rfl rfl) rfl rfl rfl rfl <| sE' (e_bsl (pd := [(0, (encR (ofQ q))), (1, (encR (ofQ r))), (2, (encR (ofQ s)))]) (es := List.map encR [(ofQ q), (ofQ r), (ofQ s)]) rfl el69 ze26 zo26 rfl rfl rfl rfl rfl rfl rfl rfl) rfl <| sE' (e_cl (i_spanned p [q, r, s] (ql_up hp (by decide)) (List.forall_mem_cons.2 ⟨(ql_up hq (by decide)), (List.forall_mem_cons.2 ⟨(ql_up hr (by decide)), (List.forall_mem_cons.2 ⟨(ql_up hs (by decide)), (fun a h => by cases h)⟩)⟩)⟩) (by simp)) rfl rfl rfl) rfl <| sT (t_std (d := (encG (RRng.mk (ofQ (mnL p [q, r, s])) (ofQ (mxL p [q, r, s]))))) (cs := (bx (encG (RRng.mk (ofQ (mnL p [q, r, s])) (ofQ (mxL p [q, r, s])))))) rfl rfl rfl sh28 rfl rfl rfl rfl) rfl rfl rfl <| sM (vin 0) rfl rfl <| sNil rfl rfl
  refine pwp_ret ⟨_, (res_a (cs := (bx (encG (RRng.mk (ofQ (mnL p [q, r, s])) (ofQ (mxL p [q, r, s])))))) (d := (encG (RRng.mk (ofQ (mnL p [q, r, s])) (ofQ (mxL p [q, r, s]))))) rfl rfl sh28 rfl rfl (.tmp (d := (.val (.int .i64 (0)))) rfl .nil)), ?_⟩
  rfl

theorem i_hullV (a b : RRng) (ha : GOk 4294967296 a) (hb : GOk 4294967296 b) (hk : List.all [a, b] validG = false) : Takes Tryz.prog 12 [(encG a), (encG b)] (.tup [(encG (RRng.mk (RRat.mk (RInt.mk false []) (RInt.mk false [])) (RRat.mk (RInt.mk false []) (RInt.mk false [])))), (.val (.int .i64 (1)))]) := by
  refine fn_intro Tryz.func12 rfl cb12 rfl ?_
  show PWp _ _ _ _ ⟨[(0, (.d (encG a))), (1, (.d (encG b)))], []⟩
  refine pwp_seq ?_
  refine pwp_S (S' := [(2, (.ref 0 0)), (3, (.ref 1 0)), (4, (.ref 2 0))]) (B' := [(0, some (bx (encG a))), (1, some (bx (encG b))), (2, some (bx (encG (RRng.mk (RRat.mk (RInt.mk false []) (RInt.mk false [])) (RRat.mk (RInt.mk false []) (RInt.mk false []))))))]) ?_ ?_
  · skip
    exact sN (n_bx (d := (encG a)) (cs := (bx (encG a))) 0 rfl rfl rfl rfl) rfl rfl rfl rfl <| sN (n_bx (d := (encG b)) (cs := (bx (encG b))) 1 rfl rfl rfl rfl) rfl rfl rfl rfl <| sN (n_al (cs := (bx (encG (RRng.mk (RRat.mk (RInt.mk false []) (RInt.mk false [])) (RRat.mk (RInt.mk false []) (RInt.mk false [])))))) 2 rfl ze28 zo28 rfl) rfl rfl rfl rfl <| sM (vin 0) rfl rfl <| sNil rfl rfl
  refine pwp_seq ?_
  refine pwp_seq ?_
  refine pwp_S (S' := [(2, (.ref 0 0)), (3, (.ref 1 0)), (4, (.ref 2 0)), (10, (vb true))]) (B' := [(0, some (bx (encG a))), (1, some (bx (encG b))), (2, some (bx (encG (RRng.mk (RRat.mk (RInt.mk false []) (RInt.mk false [])) (RRat.mk (RInt.mk false []) (RInt.mk false []))))))]) ?_ ?_
  · skip
    exact sR (e_lda (cs := (bx (encG a))) (y := (.d (encG a))) rfl rfl sh28 rfl rfl) rfl rfl rfl rfl <| sR (e_lda (cs := (bx (encG b))) (y := (.d (encG b))) rfl rfl sh28 rfl rfl) rfl rfl rfl rfl <| sE' (e_bsl (pd := [(0, (encG a)), (1, (encG b))]) (es := List.map encG [a, b]) rfl el57 ze28 zo28 rfl rfl rfl rfl rfl rfl rfl rfl) rfl <| sE' (e_cl (by have h := i_valids [a, b] (List.forall_mem_cons.2 ⟨ha, (List.forall_mem_cons.2 ⟨hb, (fun a h => by cases h)⟩)⟩) (by simp); rw [show List.all [a, b] validG = false from hk] at h; exact h) rfl rfl rfl) rfl <| sE' (e_not (b := false) rfl rfl) rfl <| sNil rfl rfl
  refine pwp_cond (b := true) rfl (fun _ => ?_) (fun h => by cases h)
  refine pwp_seq ?_
  refine pwp_S (S' := [(4, (.ref 2 0)), (5, (vin 1))]) (B' := [(2, some (bx (encG (RRng.mk (RRat.mk (RInt.mk false []) (RInt.mk false [])) (RRat.mk (RInt.mk false []) (RInt.mk false []))))))]) ?_ ?_
  · skip
    exact sE' (e_bld (pd := []) (y := (encG (RRng.mk (RRat.mk (RInt.mk false []) (RInt.mk false [])) (RRat.mk (RInt.mk false []) (RInt.mk false []))))) rfl pl28 ze28 zo28 rfl rfl rfl rfl) rfl <| sT (t_std (d := (encG (RRng.mk (RRat.mk (RInt.mk false []) (RInt.mk false [])) (RRat.mk (RInt.mk false []) (RInt.mk false []))))) (cs := (bx (encG (RRng.mk (RRat.mk (RInt.mk false []) (RInt.mk false [])) (RRat.mk (RInt.mk false []) (RInt.mk false [])))))) rfl rfl rfl sh28 rfl rfl rfl rfl) rfl rfl rfl <| sM (vin 1) rfl rfl <| sNil rfl rfl
  refine pwp_ret ⟨_, (res_a (cs := (bx (encG (RRng.mk (RRat.mk (RInt.mk false []) (RInt.mk false [])) (RRat.mk (RInt.mk false []) (RInt.mk false [])))))) (d := (encG (RRng.mk (RRat.mk (RInt.mk false []) (RInt.mk false [])) (RRat.mk (RInt.mk false []) (RInt.mk false []))))) rfl rfl sh28 rfl rfl (.tmp (d := (.val (.int .i64 (1)))) rfl .nil)), ?_⟩
  rfl

theorem i_apart (p q r s : Rat) (hp : QL p 1073741824) (hq : QL q 1073741824) (hr : QL r 1073741824) (hs : QL s 1073741824) (hpq : p ≤ q) (hrs : r ≤ s) : Takes Tryz.prog 32 [(encG (RRng.mk (ofQ p) (ofQ q))), (encG (RRng.mk (ofQ r) (ofQ s)))] (.val (.bool ((apQ p q r s)))) := by
  refine fn_intro Tryz.func32 rfl cb32 rfl ?_
  show PWp _ _ _ _ ⟨[(0, (.d (encG (RRng.mk (ofQ p) (ofQ q))))), (1, (.d (encG (RRng.mk (ofQ r) (ofQ s)))))], []⟩
  refine pwp_seq ?_
  refine pwp_S (S' := [(2, (.ref 0 0)), (3, (.ref 1 0))]) (B' := [(0, some (bx (encG (RRng.mk (ofQ p) (ofQ q))))), (1, some (bx (encG (RRng.mk (ofQ r) (ofQ s)))))]) ?_ ?_
  · skip
    exact sN (n_bx (d := (encG (RRng.mk (ofQ p) (ofQ q)))) (cs := (bx (encG (RRng.mk (ofQ p) (ofQ q))))) 0 rfl rfl rfl rfl) rfl rfl rfl rfl <| sN (n_bx (d := (encG (RRng.mk (ofQ r) (ofQ s)))) (cs := (bx (encG (RRng.mk (ofQ r) (ofQ s))))) 1 rfl rfl rfl rfl) rfl rfl rfl rfl <| sM (vb false) rfl rfl <| sNil rfl rfl
  refine pwp_seq ?_
  refine pwp_S (S' := [(4, (vb (true && (decide ((cmpQ q r) < 0) || decide ((cmpQ s p) < 0)))))]) (B' := []) ?_ ?_
  · skip
    refine sR (e_lda (cs := (bx (encG (RRng.mk (ofQ p) (ofQ q))))) (y := (.d (encG (RRng.mk (ofQ p) (ofQ q))))) rfl rfl sh28 rfl rfl) rfl rfl rfl rfl <| sR (e_lda (cs := (bx (encG (RRng.mk (ofQ r) (ofQ s))))) (y := (.d (encG (RRng.mk (ofQ r) (ofQ s))))) rfl rfl sh28 rfl rfl) rfl rfl rfl rfl <| sE' (e_bsl (pd := [(0, (encG (RRng.mk (ofQ p) (ofQ q)))), (1, (encG (RRng.mk (ofQ r) (ofQ s))))]) (es := List.map encG [(RRng.mk (ofQ p) (ofQ q)), (RRng.mk (ofQ r) (ofQ s))]) rfl el57 ze28 zo28 rfl rfl rfl rfl rfl rfl rfl rfl) rfl <| sE' (e_cl (by have h := i_valids [(RRng.mk (ofQ p) (ofQ q)), (RRng.mk (ofQ r) (ofQ s))] (List.forall_mem_cons.2 ⟨(gok_up (⟨qok_self (qok_up (qok_of hp) (by decide : 1073741824 ≤ 1073741824)), qok_self (qok_up (qok_of hq) (by decide : 1073741824 ≤ 1073741824))⟩) (by decide)), (List.forall_mem_cons.2 ⟨(gok_up (⟨qok_self (qok_up (qok_of hr) (by decide : 1073741824 ≤ 1073741824)), qok_self (qok_up (qok_of hs) (by decide : 1073741824 ≤ 1073741824))⟩) (by decide)), (fun a h => by cases h)⟩)⟩) (by simp); rw [show List.all [(RRng.mk (ofQ p) (ofQ q)), (RRng.mk (ofQ r) (ofQ s))] validG = true from by simp [validG_of hpq, validG_of hrs]] at h; exact h) rfl rfl rfl) rfl <| sM (vb true) rfl rfl <| sE' (e_fldr (q := 4) rfl rfl fo28_1 rfl) rfl <| sR (e_lda (cs := (bx (encG (RRng.mk (ofQ p) (ofQ q))))) (y := (.d (encR (ofQ q)))) rfl rfl sh26 rfl rfl) rfl rfl rfl rfl <| sE' (e_fldr (q := 0) rfl rfl fo28_0 rfl) rfl <| sR (e_lda (cs := (bx (encG (RRng.mk (ofQ r) (ofQ s))))) (y := (.d (encR (ofQ r)))) rfl rfl sh26 rfl rfl) rfl rfl rfl rfl <| sE' (e_cl (f_compare (ofQ q) (ofQ r) q r (qok_up (qok_of hq) (by decide)) (qok_up (qok_of hr) (by decide))) rfl rfl rfl) rfl <| sE' (e_lss rfl rfl rfl) rfl <| sM (vb (decide ((cmpQ q r) < 0))) rfl rfl <| ?_
    rcases hb1 : (decide ((cmpQ q r) < 0)) with _ | _
    · skip
      replace hb1 := of_decide_eq_false hb1
      exact sE' (e_fldr (q := 4) rfl rfl fo28_1 rfl) rfl <| sR (e_lda (cs := (bx (encG (RRng.mk (ofQ r) (ofQ s))))) (y := (.d (encR (ofQ s)))) rfl rfl sh26 rfl rfl) rfl rfl rfl rfl <| sE' (e_fldr (q := 0) rfl rfl fo28_0 rfl) rfl <| sR (e_lda (cs := (bx (encG (RRng.mk (ofQ p) (ofQ q))))) (y := (.d (encR (ofQ p)))) rfl rfl sh26 rfl rfl) rfl rfl rfl rfl <| sE' (e_cl (f_compare (ofQ s) (ofQ p) s p (qok_up (qok_of hs) (by decide)) (qok_up (qok_of hp) (by decide))) rfl rfl rfl) rfl <| sE' (e_lss rfl rfl rfl) rfl <| sE' (e_pkfo rfl rfl rfl) rfl <| sE' (e_pkta rfl rfl rfl) rfl <| sM (vb (true && (false || decide ((cmpQ s p) < 0)))) rfl rfl <| sNil rfl rfl
    · skip
      replace hb1 := of_decide_eq_true hb1
      exact sK rfl rfl rfl <| sK rfl rfl rfl <| sK rfl rfl rfl <| sK rfl rfl rfl <| sK rfl rfl rfl <| sK rfl rfl rfl <| sE' (e_pkt (z := (vb true)) rfl rfl rfl) rfl <| sE' (e_pkt (z := (vb true)) rfl rfl rfl) rfl <| sM (vb true) rfl rfl <| sNil rfl rfl
  refine pwp_ret ⟨_, (.tmp (d := (.val (.bool ((true && (decide ((cmpQ q r) < 0) || decide ((cmpQ s p) < 0))))))) rfl .nil), ?_⟩
  rw [← apQ_eq]; rfl

theorem h_apart (p q r s : Rat) (hp : QL p 4294967296) (hq : QL q 4294967296) (hr : QL r 4294967296) (hs : QL s 4294967296) : Takes Tryz.prog 33 [(encG (RRng.mk (ofQ p) (ofQ q))), (encG (RRng.mk (ofQ r) (ofQ s)))] (.val (.bool ((apQ p q r s)))) := by
  refine fn_intro Tryz.func33 rfl cb33 rfl ?_
  show PWp _ _ _ _ ⟨[(0, (.d (encG (RRng.mk (ofQ p) (ofQ q))))), (1, (.d (encG (RRng.mk (ofQ r) (ofQ s)))))], []⟩
  refine pwp_seq ?_
  refine pwp_S (S' := [(2, (.ref 0 0)), (3, (.ref 1 0))]) (B' := [(0, some (bx (encG (RRng.mk (ofQ p) (ofQ q))))), (1, some (bx (encG (RRng.mk (ofQ r) (ofQ s)))))]) ?_ ?_
  · skip
    exact sN (n_bx (d := (encG (RRng.mk (ofQ p) (ofQ q)))) (cs := (bx (encG (RRng.mk (ofQ p) (ofQ q))))) 0 rfl rfl rfl rfl) rfl rfl rfl rfl <| sN (n_bx (d := (encG (RRng.mk (ofQ r) (ofQ s)))) (cs := (bx (encG (RRng.mk (ofQ r) (ofQ s))))) 1 rfl rfl rfl rfl) rfl rfl rfl rfl <| sM (vb false) rfl rfl <| sNil rfl rfl
  refine pwp_seq ?_
  refine pwp_S (S' := [(4, (vb (decide ((cmpQ q r) < 0) || decide ((cmpQ s p) < 0))))]) (B' := []) ?_ ?_
  · skip
    refine sE' (e_fldr (q := 4) rfl rfl fo28_1 rfl) rfl <| sR (e_lda (cs := (bx (encG (RRng.mk (ofQ p) (ofQ q))))) (y := (.d (encR (ofQ q)))) rfl rfl sh26 rfl rfl) rfl rfl rfl rfl <| sE' (e_fldr (q := 0) rfl rfl fo28_0 rfl) rfl <| sR (e_lda (cs := (bx (encG (RRng.mk (ofQ r) (ofQ s))))) (y := (.d (encR (ofQ r)))) rfl rfl sh26 rfl rfl) rfl rfl rfl rfl <| sE' (e_cl (g_compare (ofQ q) (ofQ r) q r (qok_of hq) (qok_of hr)) rfl rfl rfl) rfl <| sE' (e_lss rfl rfl rfl) rfl <| sM (vb (decide ((cmpQ q r) < 0))) rfl rfl <| ?_
    rcases hb1 : (decide ((cmpQ q r) < 0)) with _ | _
    · skip
      replace hb1 := of_decide_eq_false hb1
      exact sE' (e_fldr (q := 4) rfl rfl fo28_1 rfl) rfl <| sR (e_lda (cs := (bx (encG (RRng.mk (ofQ r) (ofQ s))))) (y := (.d (encR (ofQ s)))) rfl rfl sh26 rfl rfl) rfl rfl rfl rfl <| sE' (e_fldr (q := 0) rfl rfl fo28_0 rfl) rfl <| sR (e_lda (cs := (bx (encG (RRng.mk (ofQ p) (ofQ q))))) (y := (.d (encR (ofQ p)))) rfl rfl sh26 rfl rfl) rfl rfl rfl rfl <| sE' (e_cl (g_compare (ofQ s) (ofQ p) s p (qok_of hs) (qok_of hp)) rfl rfl rfl) rfl <| sE' (e_lss rfl rfl rfl) rfl <| sE' (e_pkfo rfl rfl rfl) rfl <| sM (vb (false || decide ((cmpQ s p) < 0))) rfl rfl <| sNil rfl rfl
    · skip
      replace hb1 := of_decide_eq_true hb1
      exact sK rfl rfl rfl <| sK rfl rfl rfl <| sK rfl rfl rfl <| sK rfl rfl rfl <| sK rfl rfl rfl <| sK rfl rfl rfl <| sE' (e_pkt (z := (vb true)) rfl rfl rfl) rfl <| sM (vb true) rfl rfl <| sNil rfl rfl
  refine pwp_ret ⟨_, (.tmp (d := (.val (.bool ((decide ((cmpQ q r) < 0) || decide ((cmpQ s p) < 0)))))) rfl .nil), ?_⟩
  rw [← apQ_eq]; rfl

theorem i_meet (p q r s : Rat) (hp : QL p 1073741824) (hq : QL q 1073741824) (hr : QL r 1073741824) (hs : QL s 1073741824) (hpq : p ≤ q) (hrs : r ≤ s) (hap : apQ p q r s = false) : Takes Tryz.prog 13 [(encG (RRng.mk (ofQ p) (ofQ q))), (encG (RRng.mk (ofQ r) (ofQ s)))] (.tup [(encG (RRng.mk (ofQ (mxL p [r])) (ofQ (mnL q [s])))), (.val (.int .i64 (0)))]) := by
  refine fn_intro Tryz.func13 rfl cb13 rfl ?_
  show PWp _ _ _ _ ⟨[(0, (.d (encG (RRng.mk (ofQ p) (ofQ q))))), (1, (.d (encG (RRng.mk (ofQ r) (ofQ s)))))], []⟩
  refine pwp_seq ?_
  refine pwp_S (S' := [(2, (.ref 0 0)), (3, (.ref 1 0)), (4, (.ref 2 0))]) (B' := [(0, some (bx (encG (RRng.mk (ofQ p) (ofQ q))))), (1, some (bx (encG (RRng.mk (ofQ r) (ofQ s))))), (2, some (bx (encG (RRng.mk (RRat.mk (RInt.mk false []) (RInt.mk false [])) (RRat.mk (RInt.mk false []) (RInt.mk false []))))))]) ?_ ?_
  · skip
    exact sN (n_bx (d := (encG (RRng.mk (ofQ p) (ofQ q)))) (cs := (bx (encG (RRng.mk (ofQ p) (ofQ q))))) 0 rfl rfl rfl rfl) rfl rfl rfl rfl <| sN (n_bx (d := (encG (RRng.mk (ofQ r) (ofQ s)))) (cs := (bx (encG (RRng.mk (ofQ r) (ofQ s))))) 1 rfl rfl rfl rfl) rfl rfl rfl rfl <| sN (n_al (cs := (bx (encG (RRng.mk (RRat.mk (RInt.mk false []) (RInt.mk false [])) (RRat.mk (RInt.mk false []) (RInt.mk false [])))))) 2 rfl ze28 zo28 rfl) rfl rfl rfl rfl <| sM (vin 0) rfl rfl <| sNil rfl rfl
  refine pwp_seq ?_
  refine pwp_seq ?_
  refine pwp_S (S' := [(2, (.ref 0 0)), (3, (.ref 1 0)), (4, (.ref 2 0)), (10, (vb false))]) (B' := [(0, some (bx (encG (RRng.mk (ofQ p) (ofQ q))))), (1, some (bx (encG (RRng.mk (ofQ r) (ofQ s))))), (2, some (bx (encG (RRng.mk (RRat.mk (RInt.mk false []) (RInt.mk false [])) (RRat.mk (RInt.mk false []) (RInt.mk false []))))))]) ?_ ?_
  · skip
    exact sR (e_lda (cs := (bx (encG (RRng.mk (ofQ p) (ofQ q))))) (y := (.d (encG (RRng.mk (ofQ p) (ofQ q))))) rfl rfl sh28 rfl rfl) rfl rfl rfl rfl <| sR (e_lda (cs := (bx (encG (RRng.mk (ofQ r) (ofQ s))))) (y := (.d (encG (RRng.mk (ofQ r) (ofQ s))))) rfl rfl sh28 rfl rfl) rfl rfl rfl rfl <| sE' (e_bsl (pd := [(0, (encG (RRng.mk (ofQ p) (ofQ q)))), (1, (encG (RRng.mk (ofQ r) (ofQ s))))]) (es := List.map encG [(RRng.mk (ofQ p) (ofQ q)), (RRng.mk (ofQ r) (ofQ s))]) rfl el57 ze28 zo28 rfl rfl rfl rfl rfl rfl rfl rfl) rfl <| sE' (e_cl (by have h := i_valids [(RRng.mk (ofQ p) (ofQ q)), (RRng.mk (ofQ r) (ofQ s))] (List.forall_mem_cons.2 ⟨(gok_up (⟨qok_self (qok_up (qok_of hp) (by decide : 1073741824 ≤ 1073741824)), qok_self (qok_up (qok_of hq) (by decide : 1073741824 ≤ 1073741824))⟩) (by decide)), (List.forall_mem_cons.2 ⟨(gok_up (⟨qok_self (qok_up (qok_of hr) (by decide : 1073741824 ≤ 1073741824)), qok_self (qok_up (qok_of hs) (by decide : 1073741824 ≤ 1073741824))⟩) (by decide)), (fun a h => by cases h)⟩)⟩) (by simp); rw [show List.all [(RRng.mk (ofQ p) (ofQ q)), (RRng.mk (ofQ r) (ofQ s))] validG = true from by simp [validG_of hpq, validG_of hrs]] at h; exact h) rfl rfl rfl) rfl <| sE' (e_not (b := true) rfl rfl) rfl <| sNil rfl rfl
  refine pwp_cond (b := false) rfl (fun h => by cases h) (fun _ => ?_)
  refine pwp_skip ?_
  refine pwp_seq ?_
  refine pwp_seq ?_
  refine pwp_S (S' := [(2, (.ref 0 0)), (3, (.ref 1 0)), (4, (.ref 2 0)), (14, (vb false))]) (B' := [(0, some (bx (encG (RRng.mk (ofQ p) (ofQ q))))), (1, some (bx (encG (RRng.mk (ofQ r) (ofQ s))))), (2, some (bx (encG (RRng.mk (RRat.mk (RInt.mk false []) (RInt.mk false [])) (RRat.mk (RInt.mk false []) (RInt.mk false []))))))]) ?_ ?_
  · skip
    exact sR (e_lda (cs := (bx (encG (RRng.mk (ofQ p) (ofQ q))))) (y := (.d (encG (RRng.mk (ofQ p) (ofQ q))))) rfl rfl sh28 rfl rfl) rfl rfl rfl rfl <| sR (e_lda (cs := (bx (encG (RRng.mk (ofQ r) (ofQ s))))) (y := (.d (encG (RRng.mk (ofQ r) (ofQ s))))) rfl rfl sh28 rfl rfl) rfl rfl rfl rfl <| sE' (e_cl (by have h := i_apart p q r s hp hq hr hs hpq hrs; rw [show apQ p q r s = false from hap] at h; exact h) rfl rfl rfl) rfl <| sNil rfl rfl
  refine pwp_cond (b := false) rfl (fun h => by cases h) (fun _ => ?_)
  refine pwp_skip ?_
  refine pwp_seq ?_
  refine pwp_D (S' := [(4, (.ref 2 0)), (5, (vin 0))]) (B' := [(2, some (bx (encG (RRng.mk (ofQ (mxL p [r])) (ofQ (mnL q [s]))))))]) mo (by kernel_rfl) ?_ ?_
  · skip
    exact dE' (e_fldr (q := 0) rfl rfl fo28_0 rfl) rfl rfl <| dR (e_lda (cs := (bx (encG (RRng.mk (ofQ p) (ofQ q))))) (y := (.d (encR (ofQ p)))) rfl rfl sh26 rfl rfl) rfl rfl rfl rfl rfl <| dE' (e_fldr (q := 0) rfl rfl fo28_0 rfl) rfl rfl <| dR (e_lda (cs := (bx (encG (RRng.mk (ofQ r) (ofQ s))))) (y := (.d (encR (ofQ r)))) rfl rfl sh26 rfl rfl) rfl rfl rfl rfl rfl <| dE' (e_bsl (pd := [(0, (encR (ofQ r)))]) (es := List.map encR [(ofQ r)]) rfl el69 ze26 zo26 rfl rfl rfl rfl rfl rfl rfl rfl) rfl rfl <| dE' (e_cl (i_spanned p [r] (ql_up hp (by decide)) (List.forall_mem_cons.2 ⟨(ql_up hr (by decide)), (fun a h => by cases h)⟩) (by simp)) rfl rfl rfl) rfl rfl <| dE' (e_fldv (cs := (Dat.cells (encG (RRng.mk (ofQ (mnL p [r])) (ofQ (mxL p [r])))))) (y := (.d (encR (ofQ (mxL p [r]))))) rfl rfl ft28_1 sh26 rfl rfl) rfl rfl <| dE' (e_fldr (q := 4) rfl rfl fo28_1 rfl) rfl rfl <| dR (e_lda (cs := (bx (encG (RRng.mk (ofQ p) (ofQ q))))) (y := (.d (encR (ofQ q)))) rfl rfl sh26 rfl rfl) rfl rfl rfl rfl rfl <| dE' (e_fldr (q := 4) rfl rfl fo28_1 rfl) rfl rfl <| dR (e_lda (cs := (bx (encG (RRng.mk (ofQ r) (ofQ s))))) (y := (.d (encR (ofQ s)))) rfl rfl sh26 rfl rfl) rfl rfl rfl rfl rfl <| dE' (e_bsl (pd := [(0, (encR (ofQ s)))]) (es := List.map encR [(ofQ s)]) rfl el69 ze26 zo26 rfl rfl rfl rfl rfl rfl rfl rfl) rfl rfl <| dE' (e_cl (i_spanned q [s] (ql_up hq (by decide)) (List.forall_mem_cons.2 ⟨(ql_up hs (by decide)), (fun a h => by cases h)⟩) (by simp)) rfl rfl rfl) rfl rfl <| dE' (e_fldv (cs := (Dat.cells (encG (RRng.mk (ofQ (mnL q [s])) (ofQ (mxL q [s])))))) (y := (.d (encR (ofQ (mnL q [s]))))) rfl rfl ft28_0 sh26 rfl rfl) rfl rfl <| dE' (e_bld (pd := [(0, (encR (ofQ (mxL p [r])))), (1, (encR (ofQ (mnL q [s]))))]) (y := (encG (RRng.mk (ofQ (mxL p [r])) (ofQ (mnL q [s]))))) rfl pl28 ze28 zo28 rfl rfl rfl rfl) rfl rfl <| dT (t_std (d := (encG (RRng.mk (ofQ (mxL p [r])) (ofQ (mnL q [s]))))) (cs := (bx (encG (RRng.mk (ofQ (mxL p [r])) (ofQ (mnL q [s])))))) rfl rfl rfl sh28 rfl rfl rfl rfl) rfl rfl rfl rfl <| dM (vin 0) rfl rfl rfl <| dNil rfl rfl (by kernel_rfl)
  refine pwp_ret ⟨_, (res_a (cs := (bx (encG (RRng.mk (ofQ (mxL p [r])) (ofQ (mnL q [s])))))) (d := (encG (RRng.mk (ofQ (mxL p [r])) (ofQ (mnL q [s]))))) rfl rfl sh28 rfl rfl (.tmp (d := (.val (.int .i64 (0)))) rfl .nil)), ?_⟩
  rfl

theorem i_meetA (p q r s : Rat) (hp : QL p 1073741824) (hq : QL q 1073741824) (hr : QL r 1073741824) (hs : QL s 1073741824) (hpq : p ≤ q) (hrs : r ≤ s) (hap : apQ p q r s = true) : Takes Tryz.prog 13 [(encG (RRng.mk (ofQ p) (ofQ q))), (encG (RRng.mk (ofQ r) (ofQ s)))] (.tup [(encG (RRng.mk (RRat.mk (RInt.mk false []) (RInt.mk false [])) (RRat.mk (RInt.mk false []) (RInt.mk false [])))), (.val (.int .i64 (6)))]) := by
  refine fn_intro Tryz.func13 rfl cb13 rfl ?_
  show PWp _ _ _ _ ⟨[(0, (.d (encG (RRng.mk (ofQ p) (ofQ q))))), (1, (.d (encG (RRng.mk (ofQ r) (ofQ s)))))], []⟩
  refine pwp_seq ?_
  refine pwp_S (S' := [(2, (.ref 0 0)), (3, (.ref 1 0)), (4, (.ref 2 0))]) (B' := [(0, some (bx (encG (RRng.mk (ofQ p) (ofQ q))))), (1, some (bx (encG (RRng.mk (ofQ r) (ofQ s))))), (2, some (bx (encG (RRng.mk (RRat.mk (RInt.mk false []) (RInt.mk false [])) (RRat.mk (RInt.mk false []) (RInt.mk false []))))))]) ?_ ?_
  · skip
    exact sN (n_bx (d := (encG (RRng.mk (ofQ p) (ofQ q)))) (cs := (bx (encG (RRng.mk (ofQ p) (ofQ q))))) 0 rfl rfl rfl rfl) rfl rfl rfl rfl <| sN (n_bx (d := (encG (RRng.mk (ofQ r) (ofQ s)))) (cs := (bx (encG (RRng.mk (ofQ r) (ofQ s))))) 1 rfl rfl rfl rfl) rfl rfl rfl rfl <| sN (n_al (cs := (bx (encG (RRng.mk (RRat.mk (RInt.mk false []) (RInt.mk false [])) (RRat.mk (RInt.mk false []) (RInt.mk false [])))))) 2 rfl ze28 zo28 rfl) rfl rfl rfl rfl <| sM (vin 0) rfl rfl <| sNil rfl rfl
  refine pwp_seq ?_
  refine pwp_seq ?_
  refine pwp_S (S' := [(2, (.ref 0 0)), (3, (.ref 1 0)), (4, (.ref 2 0)), (10, (vb false))]) (B' := [(0, some (bx (encG (RRng.mk (ofQ p) (ofQ q))))), (1, some (bx (encG (RRng.mk (ofQ r) (ofQ s))))), (2, some (bx (encG (RRng.mk (RRat.mk (RInt.mk false []) (RInt.mk false [])) (RRat.mk (RInt.mk false []) (RInt.mk false []))))))]) ?_ ?_
  · skip
    exact sR (e_lda (cs := (bx (encG (RRng.mk (ofQ p) (ofQ q))))) (y := (.d (encG (RRng.mk (ofQ p) (ofQ q))))) rfl rfl sh28 rfl rfl) rfl rfl rfl rfl <| sR (e_lda (cs := (bx (encG (RRng.mk (ofQ r) (ofQ s))))) (y := (.d (encG (RRng.mk (ofQ r) (ofQ s))))) rfl rfl sh28 rfl rfl) rfl rfl rfl rfl <| sE' (e_bsl (pd := [(0, (encG (RRng.mk (ofQ p) (ofQ q)))), (1, (encG (RRng.mk (ofQ r) (ofQ s))))]) (es := List.map encG [(RRng.mk (ofQ p) (ofQ q)), (RRng.mk (ofQ r) (ofQ s))]) rfl el57 ze28 zo28 rfl rfl rfl rfl rfl rfl rfl rfl) rfl <| sE' (e_cl (by have h := i_valids [(RRng.mk (ofQ p) (ofQ q)), (RRng.mk (ofQ r) (ofQ s))] (List.forall_mem_cons.2 ⟨(gok_up (⟨qok_self (qok_up (qok_of hp) (by decide : 1073741824 ≤ 1073741824)), qok_self (qok_up (qok_of hq) (by decide : 1073741824 ≤ 1073741824))⟩) (by decide)), (List.forall_mem_cons.2 ⟨(gok_up (⟨qok_self (qok_up (qok_of hr) (by decide : 1073741824 ≤ 1073741824)), qok_self (qok_up (qok_of hs) (by decide : 1073741824 ≤ 1073741824))⟩) (by decide)), (fun a h => by cases h)⟩)⟩) (by simp); rw [show List.all [(RRng.mk (ofQ p) (ofQ q)), (RRng.mk (ofQ r) (ofQ s))] validG = true from by simp [validG_of hpq, validG_of hrs]] at h; exact h) rfl rfl rfl) rfl <| sE' (e_not (b := true) rfl rfl) rfl <| sNil rfl rfl
  refine pwp_cond (b := false) rfl (fun h => by cases h) (fun _ => ?_)
  refine pwp_skip ?_
  refine pwp_seq ?_
  refine pwp_seq ?_
  refine pwp_S (S' := [(2, (.ref 0 0)), (3, (.ref 1 0)), (4, (.ref 2 0)), (14, (vb true))]) (B' := [(0, some (bx (encG (RRng.mk (ofQ p) (ofQ q))))), (1, some (bx (encG (RRng.mk (ofQ r) (ofQ s))))), (2, some (bx (encG (RRng.mk (RRat.mk (RInt.mk false []) (RInt.mk false [])) (RRat.mk (RInt.mk false []) (RInt.mk false []))))))]) ?_ ?_
  · skip
    exact sR (e_lda (cs := (bx (encG (RRng.mk (ofQ p) (ofQ q))))) (y := (.d (encG (RRng.mk (ofQ p) (ofQ q))))) rfl rfl sh28 rfl rfl) rfl rfl rfl rfl <| sR (e_lda (cs := (bx (encG (RRng.mk (ofQ r) (ofQ s))))) (y := (.d (encG (RRng.mk (ofQ r) (ofQ s))))) rfl rfl sh28 rfl rfl) rfl rfl rfl rfl <| sE' (e_cl (by have h := i_apart p q r s hp hq hr hs hpq hrs; rw [show apQ p q r s = true from hap] at h; exact h) rfl rfl rfl) rfl <| sNil rfl rfl
  refine pwp_cond (b := true) rfl (fun _ => ?_) (fun h => by cases h)
  refine pwp_seq ?_
  refine pwp_S (S' := [(4, (.ref 2 0)), (5, (vin 6))]) (B' := [(2, some (bx (encG (RRng.mk (RRat.mk (RInt.mk false []) (RInt.mk false [])) (RRat.mk (RInt.mk false []) (RInt.mk false []))))))]) ?_ ?_
  · skip
    exact sE' (e_bld (pd := []) (y := (encG (RRng.mk (RRat.mk (RInt.mk false []) (RInt.mk false [])) (RRat.mk (RInt.mk false []) (RInt.mk false []))))) rfl pl28 ze28 zo28 rfl rfl rfl rfl) rfl <| sT (t_std (d := (encG (RRng.mk (RRat.mk (RInt.mk false []) (RInt.mk false [])) (RRat.mk (RInt.mk false []) (RInt.mk false []))))) (cs := (bx (encG (RRng.mk (RRat.mk (RInt.mk false []) (RInt.mk false [])) (RRat.mk (RInt.mk false []) (RInt.mk false [])))))) rfl rfl rfl sh28 rfl rfl rfl rfl) rfl rfl rfl <| sM (vin 6) rfl rfl <| sNil rfl rfl
  refine pwp_ret ⟨_, (res_a (cs := (bx (encG (RRng.mk (RRat.mk (RInt.mk false []) (RInt.mk false [])) (RRat.mk (RInt.mk false []) (RInt.mk false [])))))) (d := (encG (RRng.mk (RRat.mk (RInt.mk false []) (RInt.mk false [])) (RRat.mk (RInt.mk false []) (RInt.mk false []))))) rfl rfl sh28 rfl rfl (.tmp (d := (.val (.int .i64 (6)))) rfl .nil)), ?_⟩
  rfl

theorem i_meetV (a b : RRng) (ha : GOk 4294967296 a) (hb : GOk 4294967296 b) (hk : List.all [a, b] validG = false) : Takes Tryz.prog 13 [(encG a), (encG b)] (.tup [(encG (RRng.mk (RRat.mk (RInt.mk false []) (RInt.mk false [])) (RRat.mk (RInt.mk false []) (RInt.mk false [])))), (.val (.int .i64 (1)))]) := by
  refine fn_intro Tryz.func13 rfl cb13 rfl ?_
  show PWp _ _ _ _ ⟨[(0, (.d (encG a))), (1, (.d (encG b)))], []⟩
  refine pwp_seq ?_
  refine pwp_S (S' := [(2, (.ref 0 0)), (3, (.ref 1 0)), (4, (.ref 2 0))]) (B' := [(0, some (bx (encG a))), (1, some (bx (encG b))), (2, some (bx (encG (RRng.mk (RRat.mk (RInt.mk false []) (RInt.mk false [])) (RRat.mk (RInt.mk false []) (RInt.mk false []))))))]) ?_ ?_
  · skip
    exact sN (n_bx (d := (encG a)) (cs := (bx (encG a))) 0 rfl rfl rfl rfl) rfl rfl rfl rfl <| sN (n_bx (d := (encG b)) (cs := (bx (encG b))) 1 rfl rfl rfl rfl) rfl rfl rfl rfl <| sN (n_al (cs := (bx (encG (RRng.mk (RRat.mk (RInt.mk false []) (RInt.mk false [])) (RRat.mk (RInt.mk false []) (RInt.mk false [])))))) 2 rfl ze28 zo28 rfl) rfl rfl rfl rfl <| sM (vin 0) rfl rfl <| sNil rfl rfl
  refine pwp_seq ?_
  refine pwp_seq ?_
  refine pwp_S (S' := [(2, (.ref 0 0)), (3, (.ref 1 0)), (4, (.ref 2 0)), (10, (vb true))]) (B' := [(0, some (bx (encG a))), (1, some (bx (encG b))), (2, some (bx (encG (RRng.mk (RRat.mk (RInt.mk false []) (RInt.mk false [])) (RRat.mk (RInt.mk false []) (RInt.mk false []))))))]) ?_ ?_
  · skip
    exact sR (e_lda (cs := (bx (encG a))) (y := (.d (encG a))) rfl rfl sh28 rfl rfl) rfl rfl rfl rfl <| sR (e_lda (cs := (bx (encG b))) (y := (.d (encG b))) rfl rfl sh28 rfl rfl) rfl rfl rfl rfl <| sE' (e_bsl (pd := [(0, (encG a)), (1, (encG b))]) (es := List.map encG [a, b]) rfl el57 ze28 zo28 rfl rfl rfl rfl rfl rfl rfl rfl) rfl <| sE' (e_cl (by have h := i_valids [a, b] (List.forall_mem_cons.2 ⟨ha, (List.forall_mem_cons.2 ⟨hb, (fun a h => by cases h)⟩)⟩) (by simp); rw [show List.all [a, b] validG = false from hk] at h; exact h) rfl rfl rfl) rfl <| sE' (e_not (b := false) rfl rfl) rfl <| sNil rfl rfl
  refine pwp_cond (b := true) rfl (fun _ => ?_) (fun h => by cases h)
  refine pwp_seq ?_
  refine pwp_S (S' := [(4, (.ref 2 0)), (5, (vin 1))]) (B' := [(2, some (bx (encG (RRng.mk (RRat.mk (RInt.mk false []) (RInt.mk false [])) (RRat.mk (RInt.mk false []) (RInt.mk false []))))))]) ?_ ?_
  · skip
    exact sE' (e_bld (pd := []) (y := (encG (RRng.mk (RRat.mk (RInt.mk false []) (RInt.mk false [])) (RRat.mk (RInt.mk false []) (RInt.mk false []))))) rfl pl28 ze28 zo28 rfl rfl rfl rfl) rfl <| sT (t_std (d := (encG (RRng.mk (RRat.mk (RInt.mk false []) (RInt.mk false [])) (RRat.mk (RInt.mk false []) (RInt.mk false []))))) (cs := (bx (encG (RRng.mk (RRat.mk (RInt.mk false []) (RInt.mk false [])) (RRat.mk (RInt.mk false []) (RInt.mk false [])))))) rfl rfl rfl sh28 rfl rfl rfl rfl) rfl rfl rfl <| sM (vin 1) rfl rfl <| sNil rfl rfl
  refine pwp_ret ⟨_, (res_a (cs := (bx (encG (RRng.mk (RRat.mk (RInt.mk false []) (RInt.mk false [])) (RRat.mk (RInt.mk false []) (RInt.mk false [])))))) (d := (encG (RRng.mk (RRat.mk (RInt.mk false []) (RInt.mk false [])) (RRat.mk (RInt.mk false []) (RInt.mk false []))))) rfl rfl sh28 rfl rfl (.tmp (d := (.val (.int .i64 (1)))) rfl .nil)), ?_⟩
  rfl

theorem h_meet (p q r s : Rat) (hp : QL p 4294967296) (hq : QL q 4294967296) (hr : QL r 4294967296) (hs : QL s 4294967296) (hpq : p ≤ q) (hrs : r ≤ s) (hap : apQ p q r s = false) : Takes Tryz.prog 16 [(encG (RRng.mk (ofQ p) (ofQ q))), (encG (RRng.mk (ofQ r) (ofQ s)))] (.tup [(encG (RRng.mk (ofQ (mxL p [r])) (ofQ (mnL q [s])))), (.val (.int .i64 (0)))]) := by
  refine fn_intro Tryz.func16 rfl cb16 rfl ?_
  show PWp _ _ _ _ ⟨[(0, (.d (encG (RRng.mk (ofQ p) (ofQ q))))), (1, (.d (encG (RRng.mk (ofQ r) (ofQ s)))))], []⟩
  refine pwp_seq ?_
  refine pwp_S (S' := [(2, (.ref 0 0)), (3, (.ref 1 0)), (4, (.ref 2 0))]) (B' := [(0, some (bx (encG (RRng.mk (ofQ p) (ofQ q))))), (1, some (bx (encG (RRng.mk (ofQ r) (ofQ s))))), (2, some (bx (encG (RRng.mk (RRat.mk (RInt.mk false []) (RInt.mk false [])) (RRat.mk (RInt.mk false []) (RInt.mk false []))))))]) ?_ ?_
  · skip
    exact sN (n_bx (d := (encG (RRng.mk (ofQ p) (ofQ q)))) (cs := (bx (encG (RRng.mk (ofQ p) (ofQ q))))) 0 rfl rfl rfl rfl) rfl rfl rfl rfl <| sN (n_bx (d := (encG (RRng.mk (ofQ r) (ofQ s)))) (cs := (bx (encG (RRng.mk (ofQ r) (ofQ s))))) 1 rfl rfl rfl rfl) rfl rfl rfl rfl <| sN (n_al (cs := (bx (encG (RRng.mk (RRat.mk (RInt.mk false []) (RInt.mk false [])) (RRat.mk (RInt.mk false []) (RInt.mk false [])))))) 2 rfl ze28 zo28 rfl) rfl rfl rfl rfl <| sM (vin 0) rfl rfl <| sNil rfl rfl
  refine pwp_seq ?_
  refine pwp_seq ?_
  refine pwp_S (S' := [(2, (.ref 0 0)), (3, (.ref 1 0)), (4, (.ref 2 0)), (12, (vb false))]) (B' := [(0, some (bx (encG (RRng.mk (ofQ p) (ofQ q))))), (1, some (bx (encG (RRng.mk (ofQ r) (ofQ s))))), (2, some (bx (encG (RRng.mk (RRat.mk (RInt.mk false []) (RInt.mk false [])) (RRat.mk (RInt.mk false []) (RInt.mk false []))))))]) ?_ ?_
  · skip
    exact sR (e_lda (cs := (bx (encG (RRng.mk (ofQ p) (ofQ q))))) (y := (.d (encG (RRng.mk (ofQ p) (ofQ q))))) rfl rfl sh28 rfl rfl) rfl rfl rfl rfl <| sR (e_lda (cs := (bx (encG (RRng.mk (ofQ r) (ofQ s))))) (y := (.d (encG (RRng.mk (ofQ r) (ofQ s))))) rfl rfl sh28 rfl rfl) rfl rfl rfl rfl <| sE' (e_cl (by have h := h_apart p q r s hp hq hr hs; rw [show apQ p q r s = false from hap] at h; exact h) rfl rfl rfl) rfl <| sNil rfl rfl
  refine pwp_cond (b := false) rfl (fun h => by cases h) (fun _ => ?_)
  refine pwp_skip ?_
  refine pwp_seq ?_
  refine pwp_S (S' := [(2, (.ref 0 0)), (3, (.ref 1 0)), (4, (.ref 2 0)), (6, (.ref 3 0))]) (B' := [(0, some (bx (encG (RRng.mk (ofQ p) (ofQ q))))), (1, some (bx (encG (RRng.mk (ofQ r) (ofQ s))))), (2, some (bx (encG (RRng.mk (RRat.mk (RInt.mk false []) (RInt.mk false [])) (RRat.mk (RInt.mk false []) (RInt.mk false [])))))), (3, some (bx (encR (ofQ (mxL p [r])))))]) ?_ ?_
  · skip
    exact sE' (e_fldr (q := 0) rfl rfl fo28_0 rfl) rfl <| sR (e_lda (cs := (bx (encG (RRng.mk (ofQ p) (ofQ q))))) (y := (.d (encR (ofQ p)))) rfl rfl sh26 rfl rfl) rfl rfl rfl rfl <| sE' (e_fldr (q := 0) rfl rfl fo28_0 rfl) rfl <| sR (e_lda (cs := (bx (encG (RRng.mk (ofQ r) (ofQ s))))) (y := (.d (encR (ofQ r)))) rfl rfl sh26 rfl rfl) rfl rfl rfl rfl <| sE' (e_bsl (pd := [(0, (encR (ofQ p))), (1, (encR (ofQ r)))]) (es := List.map encR [(ofQ p), (ofQ r)]) rfl el69 ze26 zo26 rfl rfl rfl rfl rfl rfl rfl rfl) rfl <| sE' (e_cl (by have h := g_greatest [p, r] (List.forall_mem_cons.2 ⟨hp, (List.forall_mem_cons.2 ⟨hr, (fun a h => by cases h)⟩)⟩) (by simp) (by simp); rw [show mxL (List.getD [p, r] 0 0) [p, r] = mxL p [r] from mxL_self _ _] at h; exact h) rfl rfl rfl) rfl <| sM (.d (.tup [(encR (ofQ (mxL p [r]))), (.val (.int .i64 (0)))])) rfl rfl <| sE' (e_exD (d := (encR (ofQ (mxL p [r])))) rfl rfl rfl) rfl <| sE' (e_exD (d := (.val (.int .i64 (0)))) rfl rfl rfl) rfl <| sN (n_al (cs := (bx (encR (RRat.mk (RInt.mk false []) (RInt.mk false []))))) 3 rfl ze26 zo26 rfl) rfl rfl rfl rfl <| sT (t_std (d := (encR (ofQ (mxL p [r])))) (cs := (bx (encR (ofQ (mxL p [r]))))) rfl rfl rfl sh26 rfl rfl rfl rfl) rfl rfl rfl <| sM (vi 0) rfl rfl <| sNil rfl rfl
  refine pwp_seq ?_
  refine pwp_S (S' := [(4, (.ref 2 0)), (6, (.ref 3 0)), (8, (.ref 4 0))]) (B' := [(2, some (bx (encG (RRng.mk (RRat.mk (RInt.mk false []) (RInt.mk false [])) (RRat.mk (RInt.mk false []) (RInt.mk false [])))))), (3, some (bx (encR (ofQ (mxL p [r]))))), (4, some (bx (encR (ofQ (mnL q [s])))))]) ?_ ?_
  · skip
    exact sE' (e_fldr (q := 4) rfl rfl fo28_1 rfl) rfl <| sR (e_lda (cs := (bx (encG (RRng.mk (ofQ p) (ofQ q))))) (y := (.d (encR (ofQ q)))) rfl rfl sh26 rfl rfl) rfl rfl rfl rfl <| sE' (e_fldr (q := 4) rfl rfl fo28_1 rfl) rfl <| sR (e_lda (cs := (bx (encG (RRng.mk (ofQ r) (ofQ s))))) (y := (.d (encR (ofQ s)))) rfl rfl sh26 rfl rfl) rfl rfl rfl rfl <| sE' (e_bsl (pd := [(0, (encR (ofQ q))), (1, (encR (ofQ s)))]) (es := List.map encR [(ofQ q), (ofQ s)]) rfl el69 ze26 zo26 rfl rfl rfl rfl rfl rfl rfl rfl) rfl <| sE' (e_cl (by have h := g_least [q, s] (List.forall_mem_cons.2 ⟨hq, (List.forall_mem_cons.2 ⟨hs, (fun a h => by cases h)⟩)⟩) (by simp) (by simp); rw [show mnL (List.getD [q, s] 0 0) [q, s] = mnL q [s] from mnL_self _ _] at h; exact h) rfl rfl rfl) rfl <| sM (.d (.tup [(encR (ofQ (mnL q [s]))), (.val (.int .i64 (0)))])) rfl rfl <| sE' (e_exD (d := (encR (ofQ (mnL q [s])))) rfl rfl rfl) rfl <| sE' (e_exD (d := (.val (.int .i64 (0)))) rfl rfl rfl) rfl <| sN (n_al (cs := (bx (encR (RRat.mk (RInt.mk false []) (RInt.mk false []))))) 4 rfl ze26 zo26 rfl) rfl rfl rfl rfl <| sT (t_std (d := (encR (ofQ (mnL q [s])))) (cs := (bx (encR (ofQ (mnL q [s]))))) rfl rfl rfl sh26 rfl rfl rfl rfl) rfl rfl rfl <| sM (vi 0) rfl rfl <| sNil rfl rfl
  refine pwp_seq ?_
  refine pwp_S (S' := [(4, (.ref 2 0)), (5, (vin 0))]) (B' := [(2, some (bx (encG (RRng.mk (ofQ (mxL p [r])) (ofQ (mnL q [s]))))))]) ?_ ?_
  · skip
    exact sR (e_lda (cs := (bx (encR (ofQ (mxL p [r]))))) (y := (.d (encR (ofQ (mxL p [r]))))) rfl rfl sh26 rfl rfl) rfl rfl rfl rfl <| sR (e_lda (cs := (bx (encR (ofQ (mnL q [s]))))) (y := (.d (encR (ofQ (mnL q [s]))))) rfl rfl sh26 rfl rfl) rfl rfl rfl rfl <| sE' (e_bld (pd := [(0, (encR (ofQ (mxL p [r])))), (1, (encR (ofQ (mnL q [s]))))]) (y := (encG (RRng.mk (ofQ (mxL p [r])) (ofQ (mnL q [s]))))) rfl pl28 ze28 zo28 rfl rfl rfl rfl) rfl <| sT (t_std (d := (encG (RRng.mk (ofQ (mxL p [r])) (ofQ (mnL q [s]))))) (cs := (bx (encG (RRng.mk (ofQ (mxL p [r])) (ofQ (mnL q [s])))))) rfl rfl rfl sh28 rfl rfl rfl rfl) rfl rfl rfl <| sM (vin 0) rfl rfl <| sNil rfl rfl
  refine pwp_ret ⟨_, (res_a (cs := (bx (encG (RRng.mk (ofQ (mxL p [r])) (ofQ (mnL q [s])))))) (d := (encG (RRng.mk (ofQ (mxL p [r])) (ofQ (mnL q [s]))))) rfl rfl sh28 rfl rfl (.tmp (d := (.val (.int .i64 (0)))) rfl .nil)), ?_⟩
  rfl

theorem h_meetA (p q r s : Rat) (hp : QL p 4294967296) (hq : QL q 4294967296) (hr : QL r 4294967296) (hs : QL s 4294967296) (hpq : p ≤ q) (hrs : r ≤ s) (hap : apQ p q r s = true) : Takes Tryz.prog 16 [(encG (RRng.mk (ofQ p) (ofQ q))), (encG (RRng.mk (ofQ r) (ofQ s)))] (.tup [(encG (RRng.mk (RRat.mk (RInt.mk false []) (RInt.mk false [])) (RRat.mk (RInt.mk false []) (RInt.mk false [])))), (.val (.int .i64 (6)))]) := by
  refine fn_intro Tryz.func16 rfl cb16 rfl ?_
  show PWp _ _ _ _ ⟨[(0, (.d (encG (RRng.mk (ofQ p) (ofQ q))))), (1, (.d (encG (RRng.mk (ofQ r) (ofQ s)))))], []⟩
  refine pwp_seq ?_
  refine pwp_S (S' := [(2, (.ref 0 0)), (3, (.ref 1 0)), (4, (.ref 2 0))]) (B' := [(0, some (bx (encG (RRng.mk (ofQ p) (ofQ q))))), (1, some (bx (encG (RRng.mk (ofQ r) (ofQ s))))), (2, some (bx (encG (RRng.mk (RRat.mk (RInt.mk false []) (RInt.mk false [])) (RRat.mk (RInt.mk false []) (RInt.mk false []))))))]) ?_ ?_
  · skip
    exact sN (n_bx (d := (encG (RRng.mk (ofQ p) (ofQ q)))) (cs := (bx (encG (RRng.mk (ofQ p) (ofQ q))))) 0 rfl rfl rfl rfl) rfl rfl rfl rfl <| sN (n_bx (d := (encG (RRng.mk (ofQ r) (ofQ s)))) (cs := (bx (encG (RRng.mk (ofQ r) (ofQ s))))) 1 rfl rfl rfl rfl) rfl rfl rfl rfl <| sN (n_al (cs := (bx (encG (RRng.mk (RRat.mk (RInt.mk false []) (RInt.mk false [])) (RRat.mk (RInt.mk false []) (RInt.mk false [])))))) 2 rfl ze28 zo28 rfl) rfl rfl rfl rfl <| sM (vin 0) rfl rfl <| sNil rfl rfl
  refine pwp_seq ?_
  refine pwp_seq ?_
  refine pwp_S (S' := [(2, (.ref 0 0)), (3, (.ref 1 0)), (4, (.ref 2 0)), (12, (vb true))]) (B' := [(0, some (bx (encG (RRng.mk (ofQ p) (ofQ q))))), (1, some (bx (encG (RRng.mk (ofQ r) (ofQ s))))), (2, some (bx (encG (RRng.mk (RRat.mk (RInt.mk false []) (RInt.mk false [])) (RRat.mk (RInt.mk false []) (RInt.mk false []))))))]) ?_ ?_
  · skip
    exact sR (e_lda (cs := (bx (encG (RRng.mk (ofQ p) (ofQ q))))) (y := (.d (encG (RRng.mk (ofQ p) (ofQ q))))) rfl rfl sh28 rfl rfl) rfl rfl rfl rfl <| sR (e_lda (cs := (bx (encG (RRng.mk (ofQ r) (ofQ s))))) (y := (.d (encG (RRng.mk (ofQ r) (ofQ s))))) rfl rfl sh28 rfl rfl) rfl rfl rfl rfl <| sE' (e_cl (by have h := h_apart p q r s hp hq hr hs; rw [show apQ p q r s = true from hap] at h; exact h) rfl rfl rfl) rfl <| sNil rfl rfl
  refine pwp_cond (b := true) rfl (fun _ => ?_) (fun h => by cases h)
  refine pwp_seq ?_
  refine pwp_S (S' := [(4, (.ref 2 0)), (5, (vin 6))]) (B' := [(2, some (bx (encG (RRng.mk (RRat.mk (RInt.mk false []) (RInt.mk false [])) (RRat.mk (RInt.mk false []) (RInt.mk false []))))))]) ?_ ?_
  · skip
    exact sE' (e_bld (pd := []) (y := (encG (RRng.mk (RRat.mk (RInt.mk false []) (RInt.mk false [])) (RRat.mk (RInt.mk false []) (RInt.mk false []))))) rfl pl28 ze28 zo28 rfl rfl rfl rfl) rfl <| sT (t_std (d := (encG (RRng.mk (RRat.mk (RInt.mk false []) (RInt.mk false [])) (RRat.mk (RInt.mk false []) (RInt.mk false []))))) (cs := (bx (encG (RRng.mk (RRat.mk (RInt.mk false []) (RInt.mk false [])) (RRat.mk (RInt.mk false []) (RInt.mk false [])))))) rfl rfl rfl sh28 rfl rfl rfl rfl) rfl rfl rfl <| sM (vin 6) rfl rfl <| sNil rfl rfl
  refine pwp_ret ⟨_, (res_a (cs := (bx (encG (RRng.mk (RRat.mk (RInt.mk false []) (RInt.mk false [])) (RRat.mk (RInt.mk false []) (RInt.mk false [])))))) (d := (encG (RRng.mk (RRat.mk (RInt.mk false []) (RInt.mk false [])) (RRat.mk (RInt.mk false []) (RInt.mk false []))))) rfl rfl sh28 rfl rfl (.tmp (d := (.val (.int .i64 (6)))) rfl .nil)), ?_⟩
  rfl

theorem g_zero (x : RRat) (p : Rat) (hx : QOk x p 140737488355328) : Takes Tryz.prog 99 [(encR x)] (.val (.bool ((zeroR x)))) := by
  have h1 := hx.n1
  have h2 := hx.n2
  refine fn_intro Tryz.func99 rfl cb99 rfl ?_
  show PWp _ _ _ _ ⟨[(0, (.d (encR x)))], []⟩
  refine pwp_seq ?_
  refine pwp_S (S' := [(1, (.ref 0 0))]) (B' := [(0, some (bx (encR x)))]) ?_ ?_
  · skip
    exact sN (n_bx (d := (encR x)) (cs := (bx (encR x))) 0 rfl rfl rfl rfl) rfl rfl rfl rfl <| sM (vb false) rfl rfl <| sNil rfl rfl
  refine pwp_seq ?_
  refine pwp_S (S' := [(2, (vb (((!x.num.neg && !x.den.neg) && (((x.num.gs.length : Nat) : Int) == 0)) && (((x.den.gs.length : Nat) : Int) == 0))))]) (B' := []) ?_ ?_
  · skip
    refine sE' (e_fldr (q := 0) rfl rfl fo26_0 rfl) rfl <| sE' (e_fldr (q := 0) rfl rfl fo24_0 rfl) rfl <| sR (e_ld1 (cs := (bx (encR x))) (y := (vb x.num.neg)) rfl rfl sh4 rfl) rfl rfl rfl rfl <| sE' (e_not rfl rfl) rfl <| sM (vb (!x.num.neg)) rfl rfl <| ?_
    rcases hb1 : (!x.num.neg) with _ | _
    · skip
      exact sK rfl rfl rfl <| sK rfl rfl rfl <| sK rfl rfl rfl <| sK rfl rfl rfl <| sE' (e_pkf (z := (vb false)) rfl rfl rfl) rfl <| sM (vb false) rfl rfl <| sK rfl rfl rfl <| sK rfl rfl rfl <| sK rfl rfl rfl <| sK rfl rfl rfl <| sK rfl rfl rfl <| sE' (e_pkf (z := (vb false)) rfl rfl rfl) rfl <| sM (vb false) rfl rfl <| sK rfl rfl rfl <| sK rfl rfl rfl <| sK rfl rfl rfl <| sK rfl rfl rfl <| sK rfl rfl rfl <| sE' (e_pkf (z := (vb false)) rfl rfl rfl) rfl <| sM (vb false) rfl rfl <| sNil rfl rfl
    · skip
      refine sE' (e_fldr (q := 2) rfl rfl fo26_1 rfl) rfl <| sE' (e_fldr (q := 2) rfl rfl fo24_0 rfl) rfl <| sR (e_ld1 (cs := (bx (encR x))) (y := (vb x.den.neg)) rfl rfl sh4 rfl) rfl rfl rfl rfl <| sE' (e_not rfl rfl) rfl <| sE' (e_pkta rfl rfl rfl) rfl <| sM (vb (true && !x.den.neg)) rfl rfl <| ?_
      rcases hb2 : (true && !x.den.neg) with _ | _
      · skip
        exact sK rfl rfl rfl <| sK rfl rfl rfl <| sK rfl rfl rfl <| sK rfl rfl rfl <| sK rfl rfl rfl <| sE' (e_pkf (z := (vb false)) rfl rfl rfl) rfl <| sM (vb false) rfl rfl <| sK rfl rfl rfl <| sK rfl rfl rfl <| sK rfl rfl rfl <| sK rfl rfl rfl <| sK rfl rfl rfl <| sE' (e_pkf (z := (vb false)) rfl rfl rfl) rfl <| sM (vb false) rfl rfl <| sNil rfl rfl
      · skip
        refine sE' (e_fldr (q := 0) rfl rfl fo26_0 rfl) rfl <| sE' (e_fldr (q := 1) rfl rfl fo24_1 rfl) rfl <| sR (e_ld1 (cs := (bx (encR x))) (y := (vl 83 1 enc_u32 x.num.gs)) rfl rfl sh22 rfl) rfl rfl rfl rfl <| sE' (e_ln (r := ((x.num.gs.length : Nat) : Int)) rfl el22 rfl (by simp)) rfl <| sE' (e_eql rfl rfl rfl) rfl <| sE' (e_pkta rfl rfl rfl) rfl <| sM (vb (true && (((x.num.gs.length : Nat) : Int) == 0))) rfl rfl <| ?_
        rcases hb3 : (true && (((x.num.gs.length : Nat) : Int) == 0)) with _ | _
        · skip
          exact sK rfl rfl rfl <| sK rfl rfl rfl <| sK rfl rfl rfl <| sK rfl rfl rfl <| sK rfl rfl rfl <| sE' (e_pkf (z := (vb false)) rfl rfl rfl) rfl <| sM (vb false) rfl rfl <| sNil rfl rfl
        · skip
          exact sE' (e_fldr (q := 2) rfl rfl fo26_1 rfl) rfl <| sE' (e_fldr (q := 3) rfl rfl fo24_1 rfl) rfl <| sR (e_ld1 (cs := (bx (encR x))) (y := (vl 83 1 enc_u32 x.den.gs)) rfl rfl sh22 rfl) rfl rfl rfl rfl <| sE' (e_ln (r := ((x.den.gs.length : Nat) : Int)) rfl el22 rfl (by simp)) rfl <| sE' (e_eql rfl rfl rfl) rfl <| sE' (e_pkta rfl rfl rfl) rfl <| sM (vb (true && (((x.den.gs.length : Nat) : Int) == 0))) rfl rfl <| sNil rfl rfl
  refine pwp_ret ⟨_, (.tmp (d := (.val (.bool ((((!x.num.neg && !x.den.neg) && (((x.num.gs.length : Nat) : Int) == 0)) && (((x.den.gs.length : Nat) : Int) == 0)))))) rfl .nil), ?_⟩
  rfl

theorem h_zero (a : RRng) (ha : GOk 140737488355328 a) : Takes Tryz.prog 68 [(encG a)] (.val (.bool ((zeroR a.lo && zeroR a.hi)))) := by
  refine fn_intro Tryz.func68 rfl cb68 rfl ?_
  show PWp _ _ _ _ ⟨[(0, (.d (encG a)))], []⟩
  refine pwp_seq ?_
  refine pwp_S (S' := [(1, (.ref 0 0))]) (B' := [(0, some (bx (encG a)))]) ?_ ?_
  · skip
    exact sN (n_bx (d := (encG a)) (cs := (bx (encG a))) 0 rfl rfl rfl rfl) rfl rfl rfl rfl <| sM (vb false) rfl rfl <| sNil rfl rfl
  refine pwp_seq ?_
  refine pwp_S (S' := [(2, (vb ((zeroR a.lo) && (zeroR a.hi))))]) (B' := []) ?_ ?_
  · skip
    refine sE' (e_fldr (q := 0) rfl rfl fo28_0 rfl) rfl <| sR (e_lda (cs := (bx (encG a))) (y := (.d (encR a.lo))) rfl rfl sh26 rfl rfl) rfl rfl rfl rfl <| sE' (e_cl (g_zero a.lo (toQ a.lo) ha.1) rfl rfl rfl) rfl <| sM (vb (zeroR a.lo)) rfl rfl <| ?_
    rcases hb1 : (zeroR a.lo) with _ | _
    · skip
      exact sK rfl rfl rfl <| sK rfl rfl rfl <| sK rfl rfl rfl <| sE' (e_pkf (z := (vb false)) rfl rfl rfl) rfl <| sM (vb false) rfl rfl <| sNil rfl rfl
    · skip
      exact sE' (e_fldr (q := 4) rfl rfl fo28_1 rfl) rfl <| sR (e_lda (cs := (bx (encG a))) (y := (.d (encR a.hi))) rfl rfl sh26 rfl rfl) rfl rfl rfl rfl <| sE' (e_cl (g_zero a.hi (toQ a.hi) ha.2) rfl rfl rfl) rfl <| sE' (e_pkta rfl rfl rfl) rfl <| sM (vb (true && (zeroR a.hi))) rfl rfl <| sNil rfl rfl
  refine pwp_ret ⟨_, (.tmp (d := (.val (.bool (((zeroR a.lo) && (zeroR a.hi)))))) rfl .nil), ?_⟩
  rfl

theorem l_resE1 (b : RRng) (hb : GOk 4294967296 b) : Takes Tryz.prog 15 [(encG (RRng.mk (RRat.mk (RInt.mk false []) (RInt.mk false [])) (RRat.mk (RInt.mk false []) (RInt.mk false [])))), (.val (.int .i64 (1))), (encG b), (.val (.int .i64 (1)))] (.val (.bool (true))) := by
  refine fn_intro Tryz.func15 rfl cb15 rfl ?_
  show PWp _ _ _ _ ⟨[(0, (.d (encG (RRng.mk (RRat.mk (RInt.mk false []) (RInt.mk false [])) (RRat.mk (RInt.mk false []) (RInt.mk false [])))))), (1, (vi 1)), (2, (.d (encG b))), (3, (vi 1))], []⟩
  refine pwp_seq ?_
  refine pwp_S (S' := [(1, (vi 1)), (3, (vi 1)), (4, (.ref 0 0)), (6, (.ref 1 0))]) (B' := [(0, some (bx (encG (RRng.mk (RRat.mk (RInt.mk false []) (RInt.mk false [])) (RRat.mk (RInt.mk false []) (RInt.mk false [])))))), (1, some (bx (encG b)))]) ?_ ?_
  · skip
    exact sN (n_bx (d := (encG (RRng.mk (RRat.mk (RInt.mk false []) (RInt.mk false [])) (RRat.mk (RInt.mk false []) (RInt.mk false []))))) (cs := (bx (encG (RRng.mk (RRat.mk (RInt.mk false []) (RInt.mk false [])) (RRat.mk (RInt.mk false []) (RInt.mk false [])))))) 0 rfl rfl rfl rfl) rfl rfl rfl rfl <| sN (n_bx (d := (encG b)) (cs := (bx (encG b))) 1 rfl rfl rfl rfl) rfl rfl rfl rfl <| sM (vb false) rfl rfl <| sNil rfl rfl
  refine pwp_seq ?_
  refine pwp_seq ?_
  refine pwp_S (S' := [(1, (vi 1)), (3, (vi 1)), (4, (.ref 0 0)), (6, (.ref 1 0)), (10, (vb true))]) (B' := [(0, some (bx (encG (RRng.mk (RRat.mk (RInt.mk false []) (RInt.mk false [])) (RRat.mk (RInt.mk false []) (RInt.mk false [])))))), (1, some (bx (encG b)))]) ?_ ?_
  · skip
    exact sM (vi 1) rfl rfl <| sE' (e_neq rfl rfl rfl) rfl <| sNil rfl rfl
  refine pwp_cond (b := true) rfl (fun _ => ?_) (fun h => by cases h)
  refine pwp_seq ?_
  refine pwp_S (S' := [(8, (vb true))]) (B' := []) ?_ ?_
  · skip
    exact sM (vi 1) rfl rfl <| sM (vi 1) rfl rfl <| sE' (e_eql rfl rfl rfl) rfl <| sM (vb true) rfl rfl <| sR (e_lda (cs := (bx (encG (RRng.mk (RRat.mk (RInt.mk false []) (RInt.mk false [])) (RRat.mk (RInt.mk false []) (RInt.mk false [])))))) (y := (.d (encG (RRng.mk (RRat.mk (RInt.mk false []) (RInt.mk false [])) (RRat.mk (RInt.mk false []) (RInt.mk false [])))))) rfl rfl sh28 rfl rfl) rfl rfl rfl rfl <| sE' (e_cl (h_zero (RRng.mk (RRat.mk (RInt.mk false []) (RInt.mk false [])) (RRat.mk (RInt.mk false []) (RInt.mk false []))) (gok_up gok_none (by decide))) rfl rfl rfl) rfl <| sE' (e_pkt (z := (vb true)) rfl rfl rfl) rfl <| sM (vb true) rfl rfl <| sNil rfl rfl
  refine pwp_ret ⟨_, (.tmp (d := (.val (.bool (true)))) rfl .nil), ?_⟩
  rfl

theorem l_resE6 (b : RRng) (hb : GOk 4294967296 b) : Takes Tryz.prog 15 [(encG (RRng.mk (RRat.mk (RInt.mk false []) (RInt.mk false [])) (RRat.mk (RInt.mk false []) (RInt.mk false [])))), (.val (.int .i64 (6))), (encG b), (.val (.int .i64 (6)))] (.val (.bool (true))) := by
  refine fn_intro Tryz.func15 rfl cb15 rfl ?_
  show PWp _ _ _ _ ⟨[(0, (.d (encG (RRng.mk (RRat.mk (RInt.mk false []) (RInt.mk false [])) (RRat.mk (RInt.mk false []) (RInt.mk false [])))))), (1, (vi 6)), (2, (.d (encG b))), (3, (vi 6))], []⟩
  refine pwp_seq ?_
  refine pwp_S (S' := [(1, (vi 6)), (3, (vi 6)), (4, (.ref 0 0)), (6, (.ref 1 0))]) (B' := [(0, some (bx (encG (RRng.mk (RRat.mk (RInt.mk false []) (RInt.mk false [])) (RRat.mk (RInt.mk false []) (RInt.mk false [])))))), (1, some (bx (encG b)))]) ?_ ?_
  · skip
    exact sN (n_bx (d := (encG (RRng.mk (RRat.mk (RInt.mk false []) (RInt.mk false [])) (RRat.mk (RInt.mk false []) (RInt.mk false []))))) (cs := (bx (encG (RRng.mk (RRat.mk (RInt.mk false []) (RInt.mk false [])) (RRat.mk (RInt.mk false []) (RInt.mk false [])))))) 0 rfl rfl rfl rfl) rfl rfl rfl rfl <| sN (n_bx (d := (encG b)) (cs := (bx (encG b))) 1 rfl rfl rfl rfl) rfl rfl rfl rfl <| sM (vb false) rfl rfl <| sNil rfl rfl
  refine pwp_seq ?_
  refine pwp_seq ?_
  refine pwp_S (S' := [(1, (vi 6)), (3, (vi 6)), (4, (.ref 0 0)), (6, (.ref 1 0)), (10, (vb true))]) (B' := [(0, some (bx (encG (RRng.mk (RRat.mk (RInt.mk false []) (RInt.mk false [])) (RRat.mk (RInt.mk false []) (RInt.mk false [])))))), (1, some (bx (encG b)))]) ?_ ?_
  · skip
    exact sM (vi 6) rfl rfl <| sE' (e_neq rfl rfl rfl) rfl <| sNil rfl rfl
  refine pwp_cond (b := true) rfl (fun _ => ?_) (fun h => by cases h)
  refine pwp_seq ?_
  refine pwp_S (S' := [(8, (vb true))]) (B' := []) ?_ ?_
  · skip
    exact sM (vi 6) rfl rfl <| sM (vi 6) rfl rfl <| sE' (e_eql rfl rfl rfl) rfl <| sM (vb true) rfl rfl <| sR (e_lda (cs := (bx (encG (RRng.mk (RRat.mk (RInt.mk false []) (RInt.mk false [])) (RRat.mk (RInt.mk false []) (RInt.mk false [])))))) (y := (.d (encG (RRng.mk (RRat.mk (RInt.mk false []) (RInt.mk false [])) (RRat.mk (RInt.mk false []) (RInt.mk false [])))))) rfl rfl sh28 rfl rfl) rfl rfl rfl rfl <| sE' (e_cl (h_zero (RRng.mk (RRat.mk (RInt.mk false []) (RInt.mk false [])) (RRat.mk (RInt.mk false []) (RInt.mk false []))) (gok_up gok_none (by decide))) rfl rfl rfl) rfl <| sE' (e_pkt (z := (vb true)) rfl rfl rfl) rfl <| sM (vb true) rfl rfl <| sNil rfl rfl
  refine pwp_ret ⟨_, (.tmp (d := (.val (.bool (true)))) rfl .nil), ?_⟩
  rfl

theorem l_resO (a b : RRng) (ha : GOk 4294967296 a) (hb : GOk 4294967296 b) : Takes Tryz.prog 15 [(encG a), (.val (.int .i64 (0))), (encG b), (.val (.int .i64 (0)))] (.val (.bool ((sameG a b)))) := by
  refine fn_intro Tryz.func15 rfl cb15 rfl ?_
  show PWp _ _ _ _ ⟨[(0, (.d (encG a))), (1, (vi 0)), (2, (.d (encG b))), (3, (vi 0))], []⟩
  refine pwp_seq ?_
  refine pwp_S (S' := [(1, (vi 0)), (3, (vi 0)), (4, (.ref 0 0)), (6, (.ref 1 0))]) (B' := [(0, some (bx (encG a))), (1, some (bx (encG b)))]) ?_ ?_
  · skip
    exact sN (n_bx (d := (encG a)) (cs := (bx (encG a))) 0 rfl rfl rfl rfl) rfl rfl rfl rfl <| sN (n_bx (d := (encG b)) (cs := (bx (encG b))) 1 rfl rfl rfl rfl) rfl rfl rfl rfl <| sM (vb false) rfl rfl <| sNil rfl rfl
  refine pwp_seq ?_
  refine pwp_seq ?_
  refine pwp_S (S' := [(1, (vi 0)), (3, (vi 0)), (4, (.ref 0 0)), (6, (.ref 1 0)), (10, (vb false))]) (B' := [(0, some (bx (encG a))), (1, some (bx (encG b)))]) ?_ ?_
  · skip
    exact sM (vi 0) rfl rfl <| sE' (e_neq rfl rfl rfl) rfl <| sNil rfl rfl
  refine pwp_cond (b := false) rfl (fun h => by cases h) (fun _ => ?_)
  refine pwp_skip ?_
  refine pwp_seq ?_
  refine pwp_S (S' := [(8, (vb (true && (sameG a b))))]) (B' := []) ?_ ?_
  · skip
    exact sM (vi 0) rfl rfl <| sE' (e_eql rfl rfl rfl) rfl <| sM (vb true) rfl rfl <| sR (e_lda (cs := (bx (encG a))) (y := (.d (encG a))) rfl rfl sh28 rfl rfl) rfl rfl rfl rfl <| sR (e_lda (cs := (bx (encG b))) (y := (.d (encG b))) rfl rfl sh28 rfl rfl) rfl rfl rfl rfl <| sE' (e_cl (l_same a b ha hb) rfl rfl rfl) rfl <| sE' (e_pkta rfl rfl rfl) rfl <| sM (vb (true && (sameG a b))) rfl rfl <| sNil rfl rfl
  refine pwp_ret ⟨_, (.tmp (d := (.val (.bool ((true && (sameG a b)))))) rfl .nil), ?_⟩
  rfl

end Go.Proofs.YtcdgmcfkhkikbaaGreat
