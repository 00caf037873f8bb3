/-
  Functions walked: each takes its data to what is said. Printed by a program of ours.
-/
import Derived.Test.YtcdgmcfkhkikbaaGreatIvD
import Derived.Test.YtcdgmcfkhkikbaaGreatSize
namespace Go.Proofs.YtcdgmcfkhkikbaaGreat
open Go.Fid
set_option maxRecDepth 4000
theorem cb54 : callB Tryz.prog 54 = true := by kernel_rfl
theorem cb55 : callB Tryz.prog 55 = true := by kernel_rfl
theorem cb56 : callB Tryz.prog 56 = true := by kernel_rfl
theorem cb57 : callB Tryz.prog 57 = true := by kernel_rfl
theorem cb58 : callB Tryz.prog 58 = true := by kernel_rfl
theorem cb60 : callB Tryz.prog 60 = true := by kernel_rfl
theorem cb61 : callB Tryz.prog 61 = true := by kernel_rfl
theorem cb62 : callB Tryz.prog 62 = true := by kernel_rfl
theorem i_width (p q : Rat) (hp : QL p 1073741824) (hq : QL q 1073741824) (hpq : p ≤ q) : Takes Tryz.prog 54 [(encG (RRng.mk (ofQ p) (ofQ q)))] (.tup [(encR (ofQ (q - p))), (.val (.int .i64 (0)))]) := by
  refine fn_intro Tryz.func54 rfl cb54 rfl ?_
  show PWp _ _ _ _ ⟨[(0, (.d (encG (RRng.mk (ofQ p) (ofQ q)))))], []⟩
  refine pwp_seq ?_
  refine pwp_S (S' := [(1, (.ref 0 0)), (2, (.ref 1 0))]) (B' := [(0, some (bx (encG (RRng.mk (ofQ p) (ofQ q))))), (1, some (bx (encR (RRat.mk (RInt.mk false []) (RInt.mk false [])))))]) ?_ ?_
  · skip
    exact sN (n_bx (d := (encG (RRng.mk (ofQ p) (ofQ q)))) (cs := (bx (encG (RRng.mk (ofQ p) (ofQ q))))) 0 rfl rfl rfl rfl) rfl rfl rfl rfl <| sN (n_al (cs := (bx (encR (RRat.mk (RInt.mk false []) (RInt.mk false []))))) 1 rfl ze26 zo26 rfl) rfl rfl rfl rfl <| sM (vin 0) rfl rfl <| sNil rfl rfl
  refine pwp_seq ?_
  refine pwp_seq ?_
  refine pwp_S (S' := [(1, (.ref 0 0)), (2, (.ref 1 0)), (6, (vb false))]) (B' := [(0, some (bx (encG (RRng.mk (ofQ p) (ofQ q))))), (1, some (bx (encR (RRat.mk (RInt.mk false []) (RInt.mk false [])))))]) ?_ ?_
  · skip
    exact sR (e_lda (cs := (bx (encG (RRng.mk (ofQ p) (ofQ q))))) (y := (.d (encG (RRng.mk (ofQ p) (ofQ q))))) rfl rfl sh28 rfl rfl) rfl rfl rfl rfl <| sE' (e_cl (by have h := i_valid (RRng.mk (ofQ p) (ofQ q)) (gok_up (⟨qok_self (qok_up (qok_of hp) (by decide : 1073741824 ≤ 1073741824)), qok_self (qok_up (qok_of hq) (by decide : 1073741824 ≤ 1073741824))⟩) (by decide)); rw [show validG (RRng.mk (ofQ p) (ofQ q)) = true from validG_of hpq] at h; exact h) rfl rfl rfl) rfl <| sE' (e_not (b := true) rfl rfl) rfl <| sNil rfl rfl
  refine pwp_cond (b := false) rfl (fun h => by cases h) (fun _ => ?_)
  refine pwp_skip ?_
  refine pwp_seq ?_
  refine pwp_S (S' := [(2, (.ref 1 0)), (3, (vin 0))]) (B' := [(1, some (bx (encR (ofQ (q - p)))))]) ?_ ?_
  · skip
    exact sE' (e_fldr (q := 4) rfl rfl fo28_1 rfl) rfl <| sR (e_lda (cs := (bx (encG (RRng.mk (ofQ p) (ofQ q))))) (y := (.d (encR (ofQ q)))) rfl rfl sh26 rfl rfl) rfl rfl rfl rfl <| sE' (e_fldr (q := 0) rfl rfl fo28_0 rfl) rfl <| sR (e_lda (cs := (bx (encG (RRng.mk (ofQ p) (ofQ q))))) (y := (.d (encR (ofQ p)))) rfl rfl sh26 rfl rfl) rfl rfl rfl rfl <| sE' (e_cl (f_sub (ofQ q) (ofQ p) q p (qok_up (qok_of hq) (by decide)) (qok_up (qok_of hp) (by decide))) rfl rfl rfl) rfl <| sT (t_std (d := (encR (ofQ (q - p)))) (cs := (bx (encR (ofQ (q - p))))) rfl rfl rfl sh26 rfl rfl rfl rfl) rfl rfl rfl <| sM (vin 0) rfl rfl <| sNil rfl rfl
  refine pwp_ret ⟨_, (res_a (cs := (bx (encR (ofQ (q - p))))) (d := (encR (ofQ (q - p)))) rfl rfl sh26 rfl rfl (.tmp (d := (.val (.int .i64 (0)))) rfl .nil)), ?_⟩
  rfl

theorem i_widthV (a : RRng) (ha : GOk 4294967296 a) (hk : List.all [a] validG = false) : Takes Tryz.prog 54 [(encG a)] (.tup [(encR (RRat.mk (RInt.mk false []) (RInt.mk false []))), (.val (.int .i64 (1)))]) := by
  refine fn_intro Tryz.func54 rfl cb54 rfl ?_
  show PWp _ _ _ _ ⟨[(0, (.d (encG a)))], []⟩
  refine pwp_seq ?_
  refine pwp_S (S' := [(1, (.ref 0 0)), (2, (.ref 1 0))]) (B' := [(0, some (bx (encG a))), (1, some (bx (encR (RRat.mk (RInt.mk false []) (RInt.mk false [])))))]) ?_ ?_
  · skip
    exact sN (n_bx (d := (encG a)) (cs := (bx (encG a))) 0 rfl rfl rfl rfl) rfl rfl rfl rfl <| sN (n_al (cs := (bx (encR (RRat.mk (RInt.mk false []) (RInt.mk false []))))) 1 rfl ze26 zo26 rfl) rfl rfl rfl rfl <| sM (vin 0) rfl rfl <| sNil rfl rfl
  refine pwp_seq ?_
  refine pwp_seq ?_
  refine pwp_S (S' := [(1, (.ref 0 0)), (2, (.ref 1 0)), (6, (vb true))]) (B' := [(0, some (bx (encG a))), (1, some (bx (encR (RRat.mk (RInt.mk false []) (RInt.mk false [])))))]) ?_ ?_
  · skip
    exact sR (e_lda (cs := (bx (encG a))) (y := (.d (encG a))) rfl rfl sh28 rfl rfl) rfl rfl rfl rfl <| sE' (e_cl (by have h := i_valid a ha; rw [one_no hk] at h; exact h) rfl rfl rfl) rfl <| sE' (e_not (b := false) rfl rfl) rfl <| sNil rfl rfl
  refine pwp_cond (b := true) rfl (fun _ => ?_) (fun h => by cases h)
  refine pwp_seq ?_
  refine pwp_S (S' := [(2, (.ref 1 0)), (3, (vin 1))]) (B' := [(1, some (bx (encR (RRat.mk (RInt.mk false []) (RInt.mk false [])))))]) ?_ ?_
  · skip
    exact sE' (e_bld (pd := []) (y := (encR (RRat.mk (RInt.mk false []) (RInt.mk false [])))) rfl pl26 ze26 zo26 rfl rfl rfl rfl) rfl <| sT (t_std (d := (encR (RRat.mk (RInt.mk false []) (RInt.mk false [])))) (cs := (bx (encR (RRat.mk (RInt.mk false []) (RInt.mk false []))))) rfl rfl rfl sh26 rfl rfl rfl rfl) rfl rfl rfl <| sM (vin 1) rfl rfl <| sNil rfl rfl
  refine pwp_ret ⟨_, (res_a (cs := (bx (encR (RRat.mk (RInt.mk false []) (RInt.mk false []))))) (d := (encR (RRat.mk (RInt.mk false []) (RInt.mk false [])))) rfl rfl sh26 rfl rfl (.tmp (d := (.val (.int .i64 (1)))) rfl .nil)), ?_⟩
  rfl

theorem i_middle (p q : Rat) (hp : QL p 1073741824) (hq : QL q 1073741824) (hpq : p ≤ q) : Takes Tryz.prog 55 [(encG (RRng.mk (ofQ p) (ofQ q)))] (.tup [(encR (ofQ ((p + q) / ((2 : Int) : Rat)))), (.val (.int .i64 (0)))]) := by
  refine fn_intro Tryz.func55 rfl cb55 rfl ?_
  show PWp _ _ _ _ ⟨[(0, (.d (encG (RRng.mk (ofQ p) (ofQ q)))))], []⟩
  refine pwp_seq ?_
  refine pwp_S (S' := [(1, (.ref 0 0)), (2, (.ref 1 0))]) (B' := [(0, some (bx (encG (RRng.mk (ofQ p) (ofQ q))))), (1, some (bx (encR (RRat.mk (RInt.mk false []) (RInt.mk false [])))))]) ?_ ?_
  · skip
    exact sN (n_bx (d := (encG (RRng.mk (ofQ p) (ofQ q)))) (cs := (bx (encG (RRng.mk (ofQ p) (ofQ q))))) 0 rfl rfl rfl rfl) rfl rfl rfl rfl <| sN (n_al (cs := (bx (encR (RRat.mk (RInt.mk false []) (RInt.mk false []))))) 1 rfl ze26 zo26 rfl) rfl rfl rfl rfl <| sM (vin 0) rfl rfl <| sNil rfl rfl
  refine pwp_seq ?_
  refine pwp_seq ?_
  refine pwp_S (S' := [(1, (.ref 0 0)), (2, (.ref 1 0)), (6, (vb false))]) (B' := [(0, some (bx (encG (RRng.mk (ofQ p) (ofQ q))))), (1, some (bx (encR (RRat.mk (RInt.mk false []) (RInt.mk false [])))))]) ?_ ?_
  · skip
    exact sR (e_lda (cs := (bx (encG (RRng.mk (ofQ p) (ofQ q))))) (y := (.d (encG (RRng.mk (ofQ p) (ofQ q))))) rfl rfl sh28 rfl rfl) rfl rfl rfl rfl <| sE' (e_cl (by have h := i_valid (RRng.mk (ofQ p) (ofQ q)) (gok_up (⟨qok_self (qok_up (qok_of hp) (by decide : 1073741824 ≤ 1073741824)), qok_self (qok_up (qok_of hq) (by decide : 1073741824 ≤ 1073741824))⟩) (by decide)); rw [show validG (RRng.mk (ofQ p) (ofQ q)) = true from validG_of hpq] at h; exact h) rfl rfl rfl) rfl <| sE' (e_not (b := true) rfl rfl) rfl <| sNil rfl rfl
  refine pwp_cond (b := false) rfl (fun h => by cases h) (fun _ => ?_)
  refine pwp_skip ?_
  refine pwp_seq ?_
  refine pwp_S (S' := [(2, (.ref 1 0)), (3, (vi 0))]) (B' := [(1, some (bx (encR (ofQ ((p + q) / ((2 : Int) : Rat))))))]) ?_ ?_
  · skip
    exact sE' (e_fldr (q := 0) rfl rfl fo28_0 rfl) rfl <| sR (e_lda (cs := (bx (encG (RRng.mk (ofQ p) (ofQ q))))) (y := (.d (encR (ofQ p)))) rfl rfl sh26 rfl rfl) rfl rfl rfl rfl <| sE' (e_fldr (q := 4) rfl rfl fo28_1 rfl) rfl <| sR (e_lda (cs := (bx (encG (RRng.mk (ofQ p) (ofQ q))))) (y := (.d (encR (ofQ q)))) rfl rfl sh26 rfl rfl) rfl rfl rfl rfl <| sE' (e_cl (f_add (ofQ p) (ofQ q) p q (qok_up (qok_of hp) (by decide)) (qok_up (qok_of hq) (by decide))) rfl rfl rfl) rfl <| sE' (e_cl (f_whole 2 (by decide) (by decide)) rfl rfl rfl) rfl <| sE' (e_cl (by have h := f_divide (ofQ (p + q)) (ofQ ((2 : Int) : Rat)) (p + q) ((2 : Int) : Rat) (qok_up (qok_of (ql_add (k := 2147483649) hp hq (by decide))) (by decide)) (qok_up (qok_of (ql_int (z := 2) (lenZ_one (by decide)) (by decide))) (by decide)); rw [divR_ne two_ne, divC_ne two_ne] at h; exact h) rfl rfl rfl) rfl <| sE' (e_exD (d := (encR (ofQ ((p + q) / ((2 : Int) : Rat))))) rfl rfl rfl) rfl <| sE' (e_exD (d := (.val (.int .i64 (0)))) rfl rfl rfl) rfl <| sT (t_std (d := (encR (ofQ ((p + q) / ((2 : Int) : Rat))))) (cs := (bx (encR (ofQ ((p + q) / ((2 : Int) : Rat)))))) rfl rfl rfl sh26 rfl rfl rfl rfl) rfl rfl rfl <| sM (vi 0) rfl rfl <| sNil rfl rfl
  refine pwp_ret ⟨_, (res_a (cs := (bx (encR (ofQ ((p + q) / ((2 : Int) : Rat)))))) (d := (encR (ofQ ((p + q) / ((2 : Int) : Rat))))) rfl rfl sh26 rfl rfl (.tmp (d := (.val (.int .i64 (0)))) rfl .nil)), ?_⟩
  rfl

theorem i_middleV (a : RRng) (ha : GOk 4294967296 a) (hk : List.all [a] validG = false) : Takes Tryz.prog 55 [(encG a)] (.tup [(encR (RRat.mk (RInt.mk false []) (RInt.mk false []))), (.val (.int .i64 (1)))]) := by
  refine fn_intro Tryz.func55 rfl cb55 rfl ?_
  show PWp _ _ _ _ ⟨[(0, (.d (encG a)))], []⟩
  refine pwp_seq ?_
  refine pwp_S (S' := [(1, (.ref 0 0)), (2, (.ref 1 0))]) (B' := [(0, some (bx (encG a))), (1, some (bx (encR (RRat.mk (RInt.mk false []) (RInt.mk false [])))))]) ?_ ?_
  · skip
    exact sN (n_bx (d := (encG a)) (cs := (bx (encG a))) 0 rfl rfl rfl rfl) rfl rfl rfl rfl <| sN (n_al (cs := (bx (encR (RRat.mk (RInt.mk false []) (RInt.mk false []))))) 1 rfl ze26 zo26 rfl) rfl rfl rfl rfl <| sM (vin 0) rfl rfl <| sNil rfl rfl
  refine pwp_seq ?_
  refine pwp_seq ?_
  refine pwp_S (S' := [(1, (.ref 0 0)), (2, (.ref 1 0)), (6, (vb true))]) (B' := [(0, some (bx (encG a))), (1, some (bx (encR (RRat.mk (RInt.mk false []) (RInt.mk false [])))))]) ?_ ?_
  · skip
    exact sR (e_lda (cs := (bx (encG a))) (y := (.d (encG a))) rfl rfl sh28 rfl rfl) rfl rfl rfl rfl <| sE' (e_cl (by have h := i_valid a ha; rw [one_no hk] at h; exact h) rfl rfl rfl) rfl <| sE' (e_not (b := false) rfl rfl) rfl <| sNil rfl rfl
  refine pwp_cond (b := true) rfl (fun _ => ?_) (fun h => by cases h)
  refine pwp_seq ?_
  refine pwp_S (S' := [(2, (.ref 1 0)), (3, (vin 1))]) (B' := [(1, some (bx (encR (RRat.mk (RInt.mk false []) (RInt.mk false [])))))]) ?_ ?_
  · skip
    exact sE' (e_bld (pd := []) (y := (encR (RRat.mk (RInt.mk false []) (RInt.mk false [])))) rfl pl26 ze26 zo26 rfl rfl rfl rfl) rfl <| sT (t_std (d := (encR (RRat.mk (RInt.mk false []) (RInt.mk false [])))) (cs := (bx (encR (RRat.mk (RInt.mk false []) (RInt.mk false []))))) rfl rfl rfl sh26 rfl rfl rfl rfl) rfl rfl rfl <| sM (vin 1) rfl rfl <| sNil rfl rfl
  refine pwp_ret ⟨_, (res_a (cs := (bx (encR (RRat.mk (RInt.mk false []) (RInt.mk false []))))) (d := (encR (RRat.mk (RInt.mk false []) (RInt.mk false [])))) rfl rfl sh26 rfl rfl (.tmp (d := (.val (.int .i64 (1)))) rfl .nil)), ?_⟩
  rfl

theorem i_magn (p q : Rat) (hp : QL p 1073741824) (hq : QL q 1073741824) (hpq : p ≤ q) : Takes Tryz.prog 56 [(encG (RRng.mk (ofQ p) (ofQ q)))] (.tup [(encR (ofQ (mxL (absQ p) [(absQ q)]))), (.val (.int .i64 (0)))]) := by
  refine fn_intro Tryz.func56 rfl cb56 rfl ?_
  show PWp _ _ _ _ ⟨[(0, (.d (encG (RRng.mk (ofQ p) (ofQ q)))))], []⟩
  refine pwp_seq ?_
  refine pwp_S (S' := [(1, (.ref 0 0)), (2, (.ref 1 0))]) (B' := [(0, some (bx (encG (RRng.mk (ofQ p) (ofQ q))))), (1, some (bx (encR (RRat.mk (RInt.mk false []) (RInt.mk false [])))))]) ?_ ?_
  · skip
    exact sN (n_bx (d := (encG (RRng.mk (ofQ p) (ofQ q)))) (cs := (bx (encG (RRng.mk (ofQ p) (ofQ q))))) 0 rfl rfl rfl rfl) rfl rfl rfl rfl <| sN (n_al (cs := (bx (encR (RRat.mk (RInt.mk false []) (RInt.mk false []))))) 1 rfl ze26 zo26 rfl) rfl rfl rfl rfl <| sM (vin 0) rfl rfl <| sNil rfl rfl
  refine pwp_seq ?_
  refine pwp_seq ?_
  refine pwp_S (S' := [(1, (.ref 0 0)), (2, (.ref 1 0)), (6, (vb false))]) (B' := [(0, some (bx (encG (RRng.mk (ofQ p) (ofQ q))))), (1, some (bx (encR (RRat.mk (RInt.mk false []) (RInt.mk false [])))))]) ?_ ?_
  · skip
    exact sR (e_lda (cs := (bx (encG (RRng.mk (ofQ p) (ofQ q))))) (y := (.d (encG (RRng.mk (ofQ p) (ofQ q))))) rfl rfl sh28 rfl rfl) rfl rfl rfl rfl <| sE' (e_cl (by have h := i_valid (RRng.mk (ofQ p) (ofQ q)) (gok_up (⟨qok_self (qok_up (qok_of hp) (by decide : 1073741824 ≤ 1073741824)), qok_self (qok_up (qok_of hq) (by decide : 1073741824 ≤ 1073741824))⟩) (by decide)); rw [show validG (RRng.mk (ofQ p) (ofQ q)) = true from validG_of hpq] at h; exact h) rfl rfl rfl) rfl <| sE' (e_not (b := true) rfl rfl) rfl <| sNil rfl rfl
  refine pwp_cond (b := false) rfl (fun h => by cases h) (fun _ => ?_)
  refine pwp_skip ?_
  refine pwp_seq ?_
  refine pwp_D (S' := [(2, (.ref 1 0)), (3, (vin 0))]) (B' := [(1, some (bx (encR (ofQ (mxL (absQ p) [(absQ q)])))))]) mo (by kernel_rfl) ?_ ?_
  · skip
    exact dE' (e_fldr (q := 0) rfl rfl fo28_0 rfl) rfl rfl <| dR (e_lda (cs := (bx (encG (RRng.mk (ofQ p) (ofQ q))))) (y := (.d (encR (ofQ p)))) rfl rfl sh26 rfl rfl) rfl rfl rfl rfl rfl <| dE' (e_cl (f_abs (ofQ p) p (qok_up (qok_of hp) (by decide))) rfl rfl rfl) rfl rfl <| dE' (e_fldr (q := 4) rfl rfl fo28_1 rfl) rfl rfl <| dR (e_lda (cs := (bx (encG (RRng.mk (ofQ p) (ofQ q))))) (y := (.d (encR (ofQ q)))) rfl rfl sh26 rfl rfl) rfl rfl rfl rfl rfl <| dE' (e_cl (f_abs (ofQ q) q (qok_up (qok_of hq) (by decide))) rfl rfl rfl) rfl rfl <| dE' (e_bsl (pd := [(0, (encR (ofQ (absQ q))))]) (es := List.map encR [(ofQ (absQ q))]) rfl el69 ze26 zo26 rfl rfl rfl rfl rfl rfl rfl rfl) rfl rfl <| dE' (e_cl (i_spanned (absQ p) [(absQ q)] (ql_up (ql_abs hp) (by decide)) (List.forall_mem_cons.2 ⟨(ql_up (ql_abs hq) (by decide)), (fun a h => by cases h)⟩) (by simp)) rfl rfl rfl) rfl rfl <| dE' (e_fldv (cs := (Dat.cells (encG (RRng.mk (ofQ (mnL (absQ p) [(absQ q)])) (ofQ (mxL (absQ p) [(absQ q)])))))) (y := (.d (encR (ofQ (mxL (absQ p) [(absQ q)]))))) rfl rfl ft28_1 sh26 rfl rfl) rfl rfl <| dT (t_std (d := (encR (ofQ (mxL (absQ p) [(absQ q)])))) (cs := (bx (encR (ofQ (mxL (absQ p) [(absQ q)]))))) rfl rfl rfl sh26 rfl rfl rfl rfl) rfl rfl rfl rfl <| dM (vin 0) rfl rfl rfl <| dNil rfl rfl (by kernel_rfl)
  refine pwp_ret ⟨_, (res_a (cs := (bx (encR (ofQ (mxL (absQ p) [(absQ q)]))))) (d := (encR (ofQ (mxL (absQ p) [(absQ q)])))) rfl rfl sh26 rfl rfl (.tmp (d := (.val (.int .i64 (0)))) rfl .nil)), ?_⟩
  rfl

theorem i_magnV (a : RRng) (ha : GOk 4294967296 a) (hk : List.all [a] validG = false) : Takes Tryz.prog 56 [(encG a)] (.tup [(encR (RRat.mk (RInt.mk false []) (RInt.mk false []))), (.val (.int .i64 (1)))]) := by
  refine fn_intro Tryz.func56 rfl cb56 rfl ?_
  show PWp _ _ _ _ ⟨[(0, (.d (encG a)))], []⟩
  refine pwp_seq ?_
  refine pwp_S (S' := [(1, (.ref 0 0)), (2, (.ref 1 0))]) (B' := [(0, some (bx (encG a))), (1, some (bx (encR (RRat.mk (RInt.mk false []) (RInt.mk false [])))))]) ?_ ?_
  · skip
    exact sN (n_bx (d := (encG a)) (cs := (bx (encG a))) 0 rfl rfl rfl rfl) rfl rfl rfl rfl <| sN (n_al (cs := (bx (encR (RRat.mk (RInt.mk false []) (RInt.mk false []))))) 1 rfl ze26 zo26 rfl) rfl rfl rfl rfl <| sM (vin 0) rfl rfl <| sNil rfl rfl
  refine pwp_seq ?_
  refine pwp_seq ?_
  refine pwp_S (S' := [(1, (.ref 0 0)), (2, (.ref 1 0)), (6, (vb true))]) (B' := [(0, some (bx (encG a))), (1, some (bx (encR (RRat.mk (RInt.mk false []) (RInt.mk false [])))))]) ?_ ?_
  · skip
    exact sR (e_lda (cs := (bx (encG a))) (y := (.d (encG a))) rfl rfl sh28 rfl rfl) rfl rfl rfl rfl <| sE' (e_cl (by have h := i_valid a ha; rw [one_no hk] at h; exact h) rfl rfl rfl) rfl <| sE' (e_not (b := false) rfl rfl) rfl <| sNil rfl rfl
  refine pwp_cond (b := true) rfl (fun _ => ?_) (fun h => by cases h)
  refine pwp_seq ?_
  refine pwp_S (S' := [(2, (.ref 1 0)), (3, (vin 1))]) (B' := [(1, some (bx (encR (RRat.mk (RInt.mk false []) (RInt.mk false [])))))]) ?_ ?_
  · skip
    exact sE' (e_bld (pd := []) (y := (encR (RRat.mk (RInt.mk false []) (RInt.mk false [])))) rfl pl26 ze26 zo26 rfl rfl rfl rfl) rfl <| sT (t_std (d := (encR (RRat.mk (RInt.mk false []) (RInt.mk false [])))) (cs := (bx (encR (RRat.mk (RInt.mk false []) (RInt.mk false []))))) rfl rfl rfl sh26 rfl rfl rfl rfl) rfl rfl rfl <| sM (vin 1) rfl rfl <| sNil rfl rfl
  refine pwp_ret ⟨_, (res_a (cs := (bx (encR (RRat.mk (RInt.mk false []) (RInt.mk false []))))) (d := (encR (RRat.mk (RInt.mk false []) (RInt.mk false [])))) rfl rfl sh26 rfl rfl (.tmp (d := (.val (.int .i64 (1)))) rfl .nil)), ?_⟩
  rfl

theorem h_middle (p q : Rat) (hp : QL p 1073741824) (hq : QL q 1073741824) : Takes Tryz.prog 60 [(encG (RRng.mk (ofQ p) (ofQ q)))] (encR (ofQ ((p + q) / ((2 : Int) : Rat)))) := by
  refine fn_intro Tryz.func60 rfl cb60 rfl ?_
  show PWp _ _ _ _ ⟨[(0, (.d (encG (RRng.mk (ofQ p) (ofQ q)))))], []⟩
  refine pwp_seq ?_
  refine pwp_S (S' := [(1, (.ref 0 0)), (2, (.ref 1 0))]) (B' := [(0, some (bx (encG (RRng.mk (ofQ p) (ofQ q))))), (1, some (bx (encR (RRat.mk (RInt.mk false []) (RInt.mk false [])))))]) ?_ ?_
  · skip
    exact sN (n_bx (d := (encG (RRng.mk (ofQ p) (ofQ q)))) (cs := (bx (encG (RRng.mk (ofQ p) (ofQ q))))) 0 rfl rfl rfl rfl) rfl rfl rfl rfl <| sN (n_al (cs := (bx (encR (RRat.mk (RInt.mk false []) (RInt.mk false []))))) 1 rfl ze26 zo26 rfl) rfl rfl rfl rfl <| sNil rfl rfl
  refine pwp_seq ?_
  refine pwp_S (S' := [(1, (.ref 0 0)), (2, (.ref 1 0)), (3, (.ref 2 0))]) (B' := [(0, some (bx (encG (RRng.mk (ofQ p) (ofQ q))))), (1, some (bx (encR (RRat.mk (RInt.mk false []) (RInt.mk false []))))), (2, some (bx (encR (ofQ (Rat.divInt 1 2)))))]) ?_ ?_
  · skip
    exact sE' (e_cl (g_ofnd 1 2 (by omega) (by omega) (by decide) (by decide) (by decide)) rfl rfl rfl) rfl <| sM (.d (.tup [(encR (ofQ (Rat.divInt 1 2))), (.val (.int .i64 (0)))])) rfl rfl <| sE' (e_exD (d := (encR (ofQ (Rat.divInt 1 2)))) rfl rfl rfl) rfl <| sE' (e_exD (d := (.val (.int .i64 (0)))) rfl rfl rfl) rfl <| sN (n_al (cs := (bx (encR (RRat.mk (RInt.mk false []) (RInt.mk false []))))) 2 rfl ze26 zo26 rfl) rfl rfl rfl rfl <| sT (t_std (d := (encR (ofQ (Rat.divInt 1 2)))) (cs := (bx (encR (ofQ (Rat.divInt 1 2))))) rfl rfl rfl sh26 rfl rfl rfl rfl) rfl rfl rfl <| sM (vi 0) rfl rfl <| sNil rfl rfl
  refine pwp_seq ?_
  refine pwp_D (S' := [(2, (.ref 1 0))]) (B' := [(1, some (bx (encR (ofQ ((Rat.divInt 1 2) * (p + q))))))]) mo (by kernel_rfl) ?_ ?_
  · skip
    exact dR (e_lda (cs := (bx (encR (ofQ (Rat.divInt 1 2))))) (y := (.d (encR (ofQ (Rat.divInt 1 2))))) rfl rfl sh26 rfl rfl) rfl rfl rfl rfl rfl <| dE' (e_fldr (q := 0) rfl rfl fo28_0 rfl) rfl rfl <| dR (e_lda (cs := (bx (encG (RRng.mk (ofQ p) (ofQ q))))) (y := (.d (encR (ofQ p)))) rfl rfl sh26 rfl rfl) rfl rfl rfl rfl rfl <| dE' (e_fldr (q := 4) rfl rfl fo28_1 rfl) rfl rfl <| dR (e_lda (cs := (bx (encG (RRng.mk (ofQ p) (ofQ q))))) (y := (.d (encR (ofQ q)))) rfl rfl sh26 rfl rfl) rfl rfl rfl rfl rfl <| dE' (e_cl (g_add (ofQ p) (ofQ q) p q (qok_up (qok_of hp) (by decide)) (qok_up (qok_of hq) (by decide))) rfl rfl rfl) rfl rfl <| dE' (e_cl (g_mul (ofQ (Rat.divInt 1 2)) (ofQ (p + q)) (Rat.divInt 1 2) (p + q) (qok_up (qok_of (ql_divInt (a := 1) (b := 2) (lenZ_int (by omega) (by omega)) (lenZ_int (by decide) (by decide)) (by decide))) (by decide)) (qok_up (qok_of (ql_add (k := 2147483649) hp hq (by decide))) (by decide))) rfl rfl rfl) rfl rfl <| dT (t_std (d := (encR (ofQ ((Rat.divInt 1 2) * (p + q))))) (cs := (bx (encR (ofQ ((Rat.divInt 1 2) * (p + q)))))) rfl rfl rfl sh26 rfl rfl rfl rfl) rfl rfl rfl rfl <| dNil rfl rfl (by kernel_rfl)
  refine pwp_ret ⟨_, (res_a (cs := (bx (encR (ofQ ((Rat.divInt 1 2) * (p + q)))))) (d := (encR (ofQ ((Rat.divInt 1 2) * (p + q))))) rfl rfl sh26 rfl rfl .nil), ?_⟩
  rw [← mid_eq]; rfl

theorem h_magn (p q : Rat) (hp : QL p 1073741824) (hq : QL q 1073741824) : Takes Tryz.prog 61 [(encG (RRng.mk (ofQ p) (ofQ q)))] (encR (ofQ (mxL (absQ p) [(absQ q)]))) := by
  refine fn_intro Tryz.func61 rfl cb61 rfl ?_
  show PWp _ _ _ _ ⟨[(0, (.d (encG (RRng.mk (ofQ p) (ofQ q)))))], []⟩
  refine pwp_seq ?_
  refine pwp_S (S' := [(1, (.ref 0 0)), (2, (.ref 1 0))]) (B' := [(0, some (bx (encG (RRng.mk (ofQ p) (ofQ q))))), (1, some (bx (encR (RRat.mk (RInt.mk false []) (RInt.mk false [])))))]) ?_ ?_
  · skip
    exact sN (n_bx (d := (encG (RRng.mk (ofQ p) (ofQ q)))) (cs := (bx (encG (RRng.mk (ofQ p) (ofQ q))))) 0 rfl rfl rfl rfl) rfl rfl rfl rfl <| sN (n_al (cs := (bx (encR (RRat.mk (RInt.mk false []) (RInt.mk false []))))) 1 rfl ze26 zo26 rfl) rfl rfl rfl rfl <| sNil rfl rfl
  refine pwp_seq ?_
  refine pwp_D (S' := [(2, (.ref 1 0)), (3, (.ref 2 0))]) (B' := [(1, some (bx (encR (RRat.mk (RInt.mk false []) (RInt.mk false []))))), (2, some (bx (encR (ofQ (mxL (absQ p) [(absQ q)])))))]) mo (by kernel_rfl) ?_ ?_
  · skip
    exact dE' (e_fldr (q := 0) rfl rfl fo28_0 rfl) rfl rfl <| dR (e_lda (cs := (bx (encG (RRng.mk (ofQ p) (ofQ q))))) (y := (.d (encR (ofQ p)))) rfl rfl sh26 rfl rfl) rfl rfl rfl rfl rfl <| dE' (e_cl (g_abs (ofQ p) p (qok_up (qok_of hp) (by decide))) rfl rfl rfl) rfl rfl <| dE' (e_fldr (q := 4) rfl rfl fo28_1 rfl) rfl rfl <| dR (e_lda (cs := (bx (encG (RRng.mk (ofQ p) (ofQ q))))) (y := (.d (encR (ofQ q)))) rfl rfl sh26 rfl rfl) rfl rfl rfl rfl rfl <| dE' (e_cl (g_abs (ofQ q) q (qok_up (qok_of hq) (by decide))) rfl rfl rfl) rfl rfl <| dE' (e_bsl (pd := [(0, (encR (ofQ (absQ p)))), (1, (encR (ofQ (absQ q))))]) (es := List.map encR [(ofQ (absQ p)), (ofQ (absQ q))]) rfl el69 ze26 zo26 rfl rfl rfl rfl rfl rfl rfl rfl) rfl rfl <| dE' (e_cl (by have h := g_greatest [(absQ p), (absQ q)] (List.forall_mem_cons.2 ⟨(ql_up (ql_abs hp) (by decide)), (List.forall_mem_cons.2 ⟨(ql_up (ql_abs hq) (by decide)), (fun a h => by cases h)⟩)⟩) (by simp) (by simp); rw [show mxL (List.getD [(absQ p), (absQ q)] 0 0) [(absQ p), (absQ q)] = mxL (absQ p) [(absQ q)] from mxL_self _ _] at h; exact h) rfl rfl rfl) rfl rfl <| dM (.d (.tup [(encR (ofQ (mxL (absQ p) [(absQ q)]))), (.val (.int .i64 (0)))])) rfl rfl rfl <| dE' (e_exD (d := (encR (ofQ (mxL (absQ p) [(absQ q)])))) rfl rfl rfl) rfl rfl <| dE' (e_exD (d := (.val (.int .i64 (0)))) rfl rfl rfl) rfl rfl <| dN (n_al (cs := (bx (encR (RRat.mk (RInt.mk false []) (RInt.mk false []))))) 2 rfl ze26 zo26 rfl) rfl rfl rfl rfl rfl rfl <| dT (t_std (d := (encR (ofQ (mxL (absQ p) [(absQ q)])))) (cs := (bx (encR (ofQ (mxL (absQ p) [(absQ q)]))))) rfl rfl rfl sh26 rfl rfl rfl rfl) rfl rfl rfl rfl <| dM (vi 0) rfl rfl rfl <| dNil rfl rfl (by kernel_rfl)
  refine pwp_seq ?_
  refine pwp_S (S' := [(2, (.ref 1 0))]) (B' := [(1, some (bx (encR (ofQ (mxL (absQ p) [(absQ q)])))))]) ?_ ?_
  · skip
    exact sR (e_lda (cs := (bx (encR (ofQ (mxL (absQ p) [(absQ q)]))))) (y := (.d (encR (ofQ (mxL (absQ p) [(absQ q)]))))) rfl rfl sh26 rfl rfl) rfl rfl rfl rfl <| sT (t_std (d := (encR (ofQ (mxL (absQ p) [(absQ q)])))) (cs := (bx (encR (ofQ (mxL (absQ p) [(absQ q)]))))) rfl rfl rfl sh26 rfl rfl rfl rfl) rfl rfl rfl <| sNil rfl rfl
  refine pwp_ret ⟨_, (res_a (cs := (bx (encR (ofQ (mxL (absQ p) [(absQ q)]))))) (d := (encR (ofQ (mxL (absQ p) [(absQ q)])))) rfl rfl sh26 rfl rfl .nil), ?_⟩
  rfl

theorem i_sign (p q : Rat) (hp : QL p 1073741824) (hq : QL q 1073741824) (hpq : p ≤ q) : Takes Tryz.prog 58 [(encG (RRng.mk (ofQ p) (ofQ q)))] (.val (.int .i64 ((sgG p q)))) := by
  refine fn_intro Tryz.func58 rfl cb58 rfl ?_
  show PWp _ _ _ _ ⟨[(0, (.d (encG (RRng.mk (ofQ p) (ofQ q)))))], []⟩
  refine pwp_seq ?_
  refine pwp_S (S' := [(1, (.ref 0 0))]) (B' := [(0, some (bx (encG (RRng.mk (ofQ p) (ofQ q)))))]) ?_ ?_
  · skip
    exact sN (n_bx (d := (encG (RRng.mk (ofQ p) (ofQ q)))) (cs := (bx (encG (RRng.mk (ofQ p) (ofQ q))))) 0 rfl rfl rfl rfl) rfl rfl rfl rfl <| sM (vin 0) rfl rfl <| sNil rfl rfl
  refine pwp_seq ?_
  refine pwp_seq ?_
  refine pwp_S (S' := [(1, (.ref 0 0)), (3, (vi (signQ p)))]) (B' := [(0, some (bx (encG (RRng.mk (ofQ p) (ofQ q)))))]) ?_ ?_
  · skip
    exact sE' (e_fldr (q := 0) rfl rfl fo28_0 rfl) rfl <| sR (e_lda (cs := (bx (encG (RRng.mk (ofQ p) (ofQ q))))) (y := (.d (encR (ofQ p)))) rfl rfl sh26 rfl rfl) rfl rfl rfl rfl <| sE' (e_cl (f_sign (ofQ p) p (qok_up (qok_of hp) (by decide))) rfl rfl rfl) rfl <| sM (vi (signQ p)) rfl rfl <| sNil rfl rfl
  refine pwp_seq ?_
  refine pwp_S (S' := [(3, (vi (signQ p))), (15, (vb (true && ((signQ p) == (signQ q)))))]) (B' := []) ?_ ?_
  · skip
    exact sR (e_lda (cs := (bx (encG (RRng.mk (ofQ p) (ofQ q))))) (y := (.d (encG (RRng.mk (ofQ p) (ofQ q))))) rfl rfl sh28 rfl rfl) rfl rfl rfl rfl <| sE' (e_cl (by have h := i_valid (RRng.mk (ofQ p) (ofQ q)) (gok_up (⟨qok_self (qok_up (qok_of hp) (by decide : 1073741824 ≤ 1073741824)), qok_self (qok_up (qok_of hq) (by decide : 1073741824 ≤ 1073741824))⟩) (by decide)); rw [show validG (RRng.mk (ofQ p) (ofQ q)) = true from validG_of hpq] at h; exact h) rfl rfl rfl) rfl <| sM (vb true) rfl rfl <| sM (vi (signQ p)) rfl rfl <| sE' (e_fldr (q := 4) rfl rfl fo28_1 rfl) rfl <| sR (e_lda (cs := (bx (encG (RRng.mk (ofQ p) (ofQ q))))) (y := (.d (encR (ofQ q)))) rfl rfl sh26 rfl rfl) rfl rfl rfl rfl <| sE' (e_cl (f_sign (ofQ q) q (qok_up (qok_of hq) (by decide))) rfl rfl rfl) rfl <| sE' (e_eql rfl rfl rfl) rfl <| sE' (e_pkta rfl rfl rfl) rfl <| sNil rfl rfl
  refine pwp_cond (b := (true && ((signQ p) == (signQ q)))) rfl (fun h1 => ?_) (fun h1 => ?_)
  · skip
    refine pwp_seq ?_
    refine pwp_S (S' := [(2, (vi (signQ p)))]) (B' := []) ?_ ?_
    · skip
      exact sM (vi (signQ p)) rfl rfl <| sM (vi (signQ p)) rfl rfl <| sNil rfl rfl
    refine pwp_ret ⟨_, (.tmp (d := (.val (.int .i64 ((signQ p))))) rfl .nil), ?_⟩
    rw [sgG_yes (by simpa using h1)]; rfl
  · skip
    refine pwp_skip ?_
    refine pwp_seq ?_
    refine pwp_S (S' := [(2, (vin 2))]) (B' := []) ?_ ?_
    · skip
      exact sM (vin 2) rfl rfl <| sNil rfl rfl
    refine pwp_ret ⟨_, (.tmp (d := (.val (.int .i64 (2)))) rfl .nil), ?_⟩
    rw [sgG_no (by simpa using h1)]; rfl

theorem i_signV (a : RRng) (ha : GOk 4294967296 a) (hk : List.all [a] validG = false) : Takes Tryz.prog 58 [(encG a)] (.val (.int .i64 (2))) := by
  refine fn_intro Tryz.func58 rfl cb58 rfl ?_
  show PWp _ _ _ _ ⟨[(0, (.d (encG a)))], []⟩
  refine pwp_seq ?_
  refine pwp_S (S' := [(1, (.ref 0 0))]) (B' := [(0, some (bx (encG a)))]) ?_ ?_
  · skip
    exact sN (n_bx (d := (encG a)) (cs := (bx (encG a))) 0 rfl rfl rfl rfl) rfl rfl rfl rfl <| sM (vin 0) rfl rfl <| sNil rfl rfl
  refine pwp_seq ?_
  refine pwp_seq ?_
  refine pwp_S (S' := [(1, (.ref 0 0)), (3, (vi (signQ (toQ a.lo))))]) (B' := [(0, some (bx (encG a)))]) ?_ ?_
  · skip
    exact sE' (e_fldr (q := 0) rfl rfl fo28_0 rfl) rfl <| sR (e_lda (cs := (bx (encG a))) (y := (.d (encR a.lo))) rfl rfl sh26 rfl rfl) rfl rfl rfl rfl <| sE' (e_cl (f_sign a.lo (toQ a.lo) (qok_up ha.1 (by decide))) rfl rfl rfl) rfl <| sM (vi (signQ (toQ a.lo))) rfl rfl <| sNil rfl rfl
  refine pwp_seq ?_
  refine pwp_S (S' := [(3, (vi (signQ (toQ a.lo)))), (15, (vb false))]) (B' := []) ?_ ?_
  · skip
    exact sR (e_lda (cs := (bx (encG a))) (y := (.d (encG a))) rfl rfl sh28 rfl rfl) rfl rfl rfl rfl <| sE' (e_cl (by have h := i_valid a ha; rw [one_no hk] at h; exact h) rfl rfl rfl) rfl <| sM (vb false) rfl rfl <| sK rfl rfl rfl <| sK rfl rfl rfl <| sK rfl rfl rfl <| sK rfl rfl rfl <| sK rfl rfl rfl <| sE' (e_pkf (z := (vb false)) rfl rfl rfl) rfl <| sNil rfl rfl
  refine pwp_cond (b := false) rfl (fun h => by cases h) (fun _ => ?_)
  refine pwp_skip ?_
  refine pwp_seq ?_
  refine pwp_S (S' := [(2, (vin 2))]) (B' := []) ?_ ?_
  · skip
    exact sM (vin 2) rfl rfl <| sNil rfl rfl
  refine pwp_ret ⟨_, (.tmp (d := (.val (.int .i64 (2)))) rfl .nil), ?_⟩
  rfl

theorem h_sign (p q : Rat) (hp : QL p 1073741824) (hq : QL q 1073741824) : Takes Tryz.prog 62 [(encG (RRng.mk (ofQ p) (ofQ q)))] (.val (.int .i64 ((sgG p q)))) := by
  refine fn_intro Tryz.func62 rfl cb62 rfl ?_
  show PWp _ _ _ _ ⟨[(0, (.d (encG (RRng.mk (ofQ p) (ofQ q)))))], []⟩
  refine pwp_seq ?_
  refine pwp_S (S' := [(1, (.ref 0 0))]) (B' := [(0, some (bx (encG (RRng.mk (ofQ p) (ofQ q)))))]) ?_ ?_
  · skip
    exact sN (n_bx (d := (encG (RRng.mk (ofQ p) (ofQ q)))) (cs := (bx (encG (RRng.mk (ofQ p) (ofQ q))))) 0 rfl rfl rfl rfl) rfl rfl rfl rfl <| sM (vin 0) rfl rfl <| sNil rfl rfl
  refine pwp_seq ?_
  refine pwp_seq ?_
  refine pwp_D (S' := [(1, (.ref 0 0)), (9, (vb ((signQ p) == (signQ q))))]) (B' := [(0, some (bx (encG (RRng.mk (ofQ p) (ofQ q)))))]) mo (by kernel_rfl) ?_ ?_
  · skip
    exact dE' (e_fldr (q := 0) rfl rfl fo28_0 rfl) rfl rfl <| dR (e_lda (cs := (bx (encG (RRng.mk (ofQ p) (ofQ q))))) (y := (.d (encR (ofQ p)))) rfl rfl sh26 rfl rfl) rfl rfl rfl rfl rfl <| dE' (e_cl (g_sign (ofQ p) p (qok_up (qok_of hp) (by decide))) rfl rfl rfl) rfl rfl <| dE' (e_fldr (q := 4) rfl rfl fo28_1 rfl) rfl rfl <| dR (e_lda (cs := (bx (encG (RRng.mk (ofQ p) (ofQ q))))) (y := (.d (encR (ofQ q)))) rfl rfl sh26 rfl rfl) rfl rfl rfl rfl rfl <| dE' (e_cl (g_sign (ofQ q) q (qok_up (qok_of hq) (by decide))) rfl rfl rfl) rfl rfl <| dE' (e_eql rfl rfl rfl) rfl rfl <| dNil rfl rfl (by kernel_rfl)
  refine pwp_cond (b := ((signQ p) == (signQ q))) rfl (fun h1 => ?_) (fun h1 => ?_)
  · skip
    replace h1 := eq_of_beq h1
    refine pwp_seq ?_
    refine pwp_S (S' := [(2, (vi (signQ p)))]) (B' := []) ?_ ?_
    · skip
      exact sE' (e_fldr (q := 0) rfl rfl fo28_0 rfl) rfl <| sR (e_lda (cs := (bx (encG (RRng.mk (ofQ p) (ofQ q))))) (y := (.d (encR (ofQ p)))) rfl rfl sh26 rfl rfl) rfl rfl rfl rfl <| sE' (e_cl (g_sign (ofQ p) p (qok_up (qok_of hp) (by decide))) rfl rfl rfl) rfl <| sM (vi (signQ p)) rfl rfl <| sNil rfl rfl
    refine pwp_ret ⟨_, (.tmp (d := (.val (.int .i64 ((signQ p))))) rfl .nil), ?_⟩
    rw [sgG_yes (by simpa using h1)]; rfl
  · skip
    replace h1 := ne_of_beq_false h1
    refine pwp_skip ?_
    refine pwp_seq ?_
    refine pwp_S (S' := [(2, (vin 2))]) (B' := []) ?_ ?_
    · skip
      exact sM (vin 2) rfl rfl <| sNil rfl rfl
    refine pwp_ret ⟨_, (.tmp (d := (.val (.int .i64 (2)))) rfl .nil), ?_⟩
    rw [sgG_no (by simpa using h1)]; rfl

theorem l_numE1 (y : RRat) (q : Rat) (hy : QOk y q 4294967296) : Takes Tryz.prog 57 [(encR (RRat.mk (RInt.mk false []) (RInt.mk false []))), (.val (.int .i64 (1))), (encR y), (.val (.int .i64 (1)))] (.val (.bool (true))) := by
  refine fn_intro Tryz.func57 rfl cb57 rfl ?_
  show PWp _ _ _ _ ⟨[(0, (.d (encR (RRat.mk (RInt.mk false []) (RInt.mk false []))))), (1, (vi 1)), (2, (.d (encR y))), (3, (vi 1))], []⟩
  refine pwp_seq ?_
  refine pwp_S (S' := [(1, (vi 1)), (3, (vi 1)), (4, (.ref 0 0)), (6, (.ref 1 0))]) (B' := [(0, some (bx (encR (RRat.mk (RInt.mk false []) (RInt.mk false []))))), (1, some (bx (encR y)))]) ?_ ?_
  · skip
    exact sN (n_bx (d := (encR (RRat.mk (RInt.mk false []) (RInt.mk false [])))) (cs := (bx (encR (RRat.mk (RInt.mk false []) (RInt.mk false []))))) 0 rfl rfl rfl rfl) rfl rfl rfl rfl <| sN (n_bx (d := (encR y)) (cs := (bx (encR y))) 1 rfl rfl rfl rfl) rfl rfl rfl rfl <| sM (vb false) rfl rfl <| sNil rfl rfl
  refine pwp_seq ?_
  refine pwp_seq ?_
  refine pwp_S (S' := [(1, (vi 1)), (3, (vi 1)), (4, (.ref 0 0)), (6, (.ref 1 0)), (10, (vb true))]) (B' := [(0, some (bx (encR (RRat.mk (RInt.mk false []) (RInt.mk false []))))), (1, some (bx (encR y)))]) ?_ ?_
  · skip
    exact sM (vi 1) rfl rfl <| sE' (e_neq rfl rfl rfl) rfl <| sNil rfl rfl
  refine pwp_cond (b := true) rfl (fun _ => ?_) (fun h => by cases h)
  refine pwp_seq ?_
  refine pwp_S (S' := [(8, (vb (true && (zeroR (RRat.mk (RInt.mk false []) (RInt.mk false []))))))]) (B' := []) ?_ ?_
  · skip
    exact sM (vi 1) rfl rfl <| sM (vi 1) rfl rfl <| sE' (e_eql rfl rfl rfl) rfl <| sM (vb true) rfl rfl <| sR (e_lda (cs := (bx (encR (RRat.mk (RInt.mk false []) (RInt.mk false []))))) (y := (.d (encR (RRat.mk (RInt.mk false []) (RInt.mk false []))))) rfl rfl sh26 rfl rfl) rfl rfl rfl rfl <| sE' (e_cl (g_zero (RRat.mk (RInt.mk false []) (RInt.mk false [])) (toQ (RRat.mk (RInt.mk false []) (RInt.mk false []))) (qok_up qok_nil (by decide))) rfl rfl rfl) rfl <| sE' (e_pkta rfl rfl rfl) rfl <| sM (vb (true && (zeroR (RRat.mk (RInt.mk false []) (RInt.mk false []))))) rfl rfl <| sNil rfl rfl
  refine pwp_ret ⟨_, (.tmp (d := (.val (.bool ((true && (zeroR (RRat.mk (RInt.mk false []) (RInt.mk false [])))))))) rfl .nil), ?_⟩
  rfl

theorem l_numO (x y : RRat) (p q : Rat) (hx : QOk x p 4294967296) (hy : QOk y q 4294967296) : Takes Tryz.prog 57 [(encR x), (.val (.int .i64 (0))), (encR y), (.val (.int .i64 (0)))] (.val (.bool ((sameR x y)))) := by
  refine fn_intro Tryz.func57 rfl cb57 rfl ?_
  show PWp _ _ _ _ ⟨[(0, (.d (encR x))), (1, (vi 0)), (2, (.d (encR y))), (3, (vi 0))], []⟩
  refine pwp_seq ?_
  refine pwp_S (S' := [(1, (vi 0)), (3, (vi 0)), (4, (.ref 0 0)), (6, (.ref 1 0))]) (B' := [(0, some (bx (encR x))), (1, some (bx (encR y)))]) ?_ ?_
  · skip
    exact sN (n_bx (d := (encR x)) (cs := (bx (encR x))) 0 rfl rfl rfl rfl) rfl rfl rfl rfl <| sN (n_bx (d := (encR y)) (cs := (bx (encR y))) 1 rfl rfl rfl rfl) rfl rfl rfl rfl <| sM (vb false) rfl rfl <| sNil rfl rfl
  refine pwp_seq ?_
  refine pwp_seq ?_
  refine pwp_S (S' := [(1, (vi 0)), (3, (vi 0)), (4, (.ref 0 0)), (6, (.ref 1 0)), (10, (vb false))]) (B' := [(0, some (bx (encR x))), (1, some (bx (encR y)))]) ?_ ?_
  · skip
    exact sM (vi 0) rfl rfl <| sE' (e_neq rfl rfl rfl) rfl <| sNil rfl rfl
  refine pwp_cond (b := false) rfl (fun h => by cases h) (fun _ => ?_)
  refine pwp_skip ?_
  refine pwp_seq ?_
  refine pwp_S (S' := [(8, (vb (true && (sameR x y))))]) (B' := []) ?_ ?_
  · skip
    exact sM (vi 0) rfl rfl <| sE' (e_eql rfl rfl rfl) rfl <| sM (vb true) rfl rfl <| sR (e_lda (cs := (bx (encR x))) (y := (.d (encR x))) rfl rfl sh26 rfl rfl) rfl rfl rfl rfl <| sR (e_lda (cs := (bx (encR y))) (y := (.d (encR y))) rfl rfl sh26 rfl rfl) rfl rfl rfl rfl <| sE' (e_cl (g_same x y p q hx hy) rfl rfl rfl) rfl <| sE' (e_pkta rfl rfl rfl) rfl <| sM (vb (true && (sameR x y))) rfl rfl <| sNil rfl rfl
  refine pwp_ret ⟨_, (.tmp (d := (.val (.bool ((true && (sameR x y)))))) rfl .nil), ?_⟩
  rfl

end Go.Proofs.YtcdgmcfkhkikbaaGreat
