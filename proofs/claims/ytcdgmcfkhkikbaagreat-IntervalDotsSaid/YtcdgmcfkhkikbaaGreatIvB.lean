/-
  Functions walked: each takes its data to what is said. Printed by a program of ours.
-/
import Derived.Test.YtcdgmcfkhkikbaaGreatIvA
import Derived.Test.YtcdgmcfkhkikbaaGreatEncl
namespace Go.Proofs.YtcdgmcfkhkikbaaGreat
open Go.Fid
set_option maxRecDepth 4000
set_option linter.unusedVariables false
set_option linter.unusedSimpArgs false
theorem cb28 : callB Tryz.prog 28 = true := by kernel_rfl
theorem cb34 : callB Tryz.prog 34 = true := by kernel_rfl
theorem cb36 : callB Tryz.prog 36 = true := by kernel_rfl
theorem cb39 : callB Tryz.prog 39 = true := by kernel_rfl
theorem cb40 : callB Tryz.prog 40 = true := by kernel_rfl
theorem cb59 : callB Tryz.prog 59 = true := by kernel_rfl
theorem cb80 : callB Tryz.prog 80 = true := by kernel_rfl
theorem in3 : intB Tryz.prog 3 = some .i64 := by kernel_rfl
theorem un5 : (Tryz.prog.underlying 5).isSome = true := by kernel_rfl
theorem g_ofnd (n d : Int) (h1 : -9223372036854775808 ≤ n) (h2 : n ≤ 9223372036854775807) (h3 : -9223372036854775808 ≤ d) (h4 : d ≤ 9223372036854775807) (hd : d ≠ 0) : Takes Tryz.prog 80 [(.val (.int .i64 (n))), (.val (.int .i64 (d)))] (.tup [(encR (ofQ (Rat.divInt n d))), (.val (.int .i64 (0)))]) := by
  refine fn_intro Tryz.func80 rfl cb80 rfl ?_
  show PWp _ _ _ _ ⟨[(0, (vi n)), (1, (vi d))], []⟩
  refine pwp_seq ?_
  refine pwp_S (S' := [(0, (vi n)), (1, (vi d)), (4, (.ref 0 0))]) (B' := [(0, some (bx (encR (RRat.mk (RInt.mk false []) (RInt.mk false [])))))]) ?_ ?_
  · skip
    exact sN (n_al (cs := (bx (encR (RRat.mk (RInt.mk false []) (RInt.mk false []))))) 0 rfl ze26 zo26 rfl) rfl rfl rfl rfl <| sM (vin 0) rfl rfl <| sNil rfl rfl
  refine pwp_seq ?_
  refine pwp_S (S' := [(4, (.ref 0 0)), (5, (vi (newC d)))]) (B' := [(0, some (bx (encR (newR n d))))]) ?_ ?_
  · skip
    exact sM (vi n) rfl rfl <| sE' (e_cl (g_whole1 n (by omega) (by omega)) rfl rfl rfl) rfl <| sM (vi d) rfl rfl <| sE' (e_cl (g_whole1 d (by omega) (by omega)) rfl rfl rfl) rfl <| sE' (e_cl (g_new (ofZ n) (ofZ d) n d (iok_up (iok_int (z := n) (by omega) (by omega)) (by decide)) (iok_up (iok_int (z := d) (by omega) (by omega)) (by decide))) rfl rfl rfl) rfl <| sE' (e_exD (d := (encR (newR n d))) rfl rfl rfl) rfl <| sE' (e_exD (d := (.val (.int .i64 ((newC d))))) rfl rfl rfl) rfl <| sT (t_std (d := (encR (newR n d))) (cs := (bx (encR (newR n d)))) rfl rfl rfl sh26 rfl rfl rfl rfl) rfl rfl rfl <| sM (vi (newC d)) rfl rfl <| sNil rfl rfl
  refine pwp_ret ⟨_, (res_a (cs := (bx (encR (newR n d)))) (d := (encR (newR n d))) rfl rfl sh26 rfl rfl (.tmp (d := (.val (.int .i64 ((newC d))))) rfl .nil)), ?_⟩
  rw [newR_ne hd, newC_ne hd]; rfl

theorem h_width (p q : Rat) (hp : QL p 1073741824) (hq : QL q 1073741824) : Takes Tryz.prog 59 [(encG (RRng.mk (ofQ p) (ofQ q)))] (encR (ofQ (q - p))) := by
  refine fn_intro Tryz.func59 rfl cb59 rfl ?_
  show PWp _ _ _ _ ⟨[(0, (.d (encG (RRng.mk (ofQ p) (ofQ q)))))], []⟩
  refine pwp_seq ?_
  refine pwp_S (S' := [(1, (.ref 0 0)), (2, (.ref 1 0))]) (B' := [(0, some (bx (encG (RRng.mk (ofQ p) (ofQ q))))), (1, some (bx (encR (RRat.mk (RInt.mk false []) (RInt.mk false [])))))]) ?_ ?_
  · skip
    exact sN (n_bx (d := (encG (RRng.mk (ofQ p) (ofQ q)))) (cs := (bx (encG (RRng.mk (ofQ p) (ofQ q))))) 0 rfl rfl rfl rfl) rfl rfl rfl rfl <| sN (n_al (cs := (bx (encR (RRat.mk (RInt.mk false []) (RInt.mk false []))))) 1 rfl ze26 zo26 rfl) rfl rfl rfl rfl <| sNil rfl rfl
  refine pwp_seq ?_
  refine pwp_S (S' := [(2, (.ref 1 0))]) (B' := [(1, some (bx (encR (ofQ (q - p)))))]) ?_ ?_
  · skip
    exact sE' (e_fldr (q := 4) rfl rfl fo28_1 rfl) rfl <| sR (e_lda (cs := (bx (encG (RRng.mk (ofQ p) (ofQ q))))) (y := (.d (encR (ofQ q)))) rfl rfl sh26 rfl rfl) rfl rfl rfl rfl <| sE' (e_fldr (q := 0) rfl rfl fo28_0 rfl) rfl <| sR (e_lda (cs := (bx (encG (RRng.mk (ofQ p) (ofQ q))))) (y := (.d (encR (ofQ p)))) rfl rfl sh26 rfl rfl) rfl rfl rfl rfl <| sE' (e_cl (g_sub (ofQ q) (ofQ p) q p (qok_up (qok_of hq) (by decide)) (qok_up (qok_of hp) (by decide))) rfl rfl rfl) rfl <| sT (t_std (d := (encR (ofQ (q - p)))) (cs := (bx (encR (ofQ (q - p))))) rfl rfl rfl sh26 rfl rfl rfl rfl) rfl rfl rfl <| sNil rfl rfl
  refine pwp_ret ⟨_, (res_a (cs := (bx (encR (ofQ (q - p))))) (d := (encR (ofQ (q - p)))) rfl rfl sh26 rfl rfl .nil), ?_⟩
  rfl

theorem l_at (p q : Rat) (k : Nat) (hp : QL p 4194304) (hq : QL q 4194304) (hk : k < 256) : Takes Tryz.prog 34 [(encG (RRng.mk (ofQ p) (ofQ q))), (.val (.int .u8 (((k : Nat) : Int))))] (encR (ofQ (atQ p q k))) := by
  refine fn_intro Tryz.func34 rfl cb34 rfl ?_
  show PWp _ _ _ _ ⟨[(0, (.d (encG (RRng.mk (ofQ p) (ofQ q))))), (1, (vyn k))], []⟩
  refine pwp_seq ?_
  refine pwp_S (S' := [(1, (vyn k)), (2, (.ref 0 0)), (4, (.ref 1 0))]) (B' := [(0, some (bx (encG (RRng.mk (ofQ p) (ofQ q))))), (1, some (bx (encR (RRat.mk (RInt.mk false []) (RInt.mk false [])))))]) ?_ ?_
  · skip
    exact sN (n_bx (d := (encG (RRng.mk (ofQ p) (ofQ q)))) (cs := (bx (encG (RRng.mk (ofQ p) (ofQ q))))) 0 rfl rfl rfl rfl) rfl rfl rfl rfl <| sN (n_al (cs := (bx (encR (RRat.mk (RInt.mk false []) (RInt.mk false []))))) 1 rfl ze26 zo26 rfl) rfl rfl rfl rfl <| sNil rfl rfl
  refine pwp_seq ?_
  refine pwp_S (S' := [(2, (.ref 0 0)), (4, (.ref 1 0)), (5, (.ref 2 0))]) (B' := [(0, some (bx (encG (RRng.mk (ofQ p) (ofQ q))))), (1, some (bx (encR (RRat.mk (RInt.mk false []) (RInt.mk false []))))), (2, some (bx (encR (ofQ (Rat.divInt (((k % 17) : Nat) : Int) 16)))))]) ?_ ?_
  · skip
    exact sM (vyn k) rfl rfl <| sE' (e_conv (r := ((k : Nat) : Int)) rfl un5 in3 rfl (ci64 (by omega))) rfl <| sE' (e_rem (r := (((k % 17) : Nat) : Int)) rfl rfl rfl (by decide) (tmod_nat _ _)) rfl <| sE' (e_cl (g_ofnd (((k % 17) : Nat) : Int) 16 (by omega) (by omega) (by decide) (by decide) (by decide)) rfl rfl rfl) rfl <| sM (.d (.tup [(encR (ofQ (Rat.divInt (((k % 17) : Nat) : Int) 16))), (.val (.int .i64 (0)))])) rfl rfl <| sE' (e_exD (d := (encR (ofQ (Rat.divInt (((k % 17) : Nat) : Int) 16)))) rfl rfl rfl) rfl <| sE' (e_exD (d := (.val (.int .i64 (0)))) rfl rfl rfl) rfl <| sN (n_al (cs := (bx (encR (RRat.mk (RInt.mk false []) (RInt.mk false []))))) 2 rfl ze26 zo26 rfl) rfl rfl rfl rfl <| sT (t_std (d := (encR (ofQ (Rat.divInt (((k % 17) : Nat) : Int) 16)))) (cs := (bx (encR (ofQ (Rat.divInt (((k % 17) : Nat) : Int) 16))))) rfl rfl rfl sh26 rfl rfl rfl rfl) rfl rfl rfl <| sM (vi 0) rfl rfl <| sNil rfl rfl
  refine pwp_seq ?_
  refine pwp_D (S' := [(4, (.ref 1 0))]) (B' := [(1, some (bx (encR (ofQ (p + ((Rat.divInt (((k % 17) : Nat) : Int) 16) * (q - p)))))))]) mo (by kernel_rfl) ?_ ?_
  · skip
    exact dE' (e_fldr (q := 0) rfl rfl fo28_0 rfl) rfl rfl <| dR (e_lda (cs := (bx (encG (RRng.mk (ofQ p) (ofQ q))))) (y := (.d (encR (ofQ p)))) rfl rfl sh26 rfl rfl) rfl rfl rfl rfl rfl <| dR (e_lda (cs := (bx (encR (ofQ (Rat.divInt (((k % 17) : Nat) : Int) 16))))) (y := (.d (encR (ofQ (Rat.divInt (((k % 17) : Nat) : Int) 16))))) rfl rfl sh26 rfl rfl) rfl rfl rfl rfl rfl <| dR (e_lda (cs := (bx (encG (RRng.mk (ofQ p) (ofQ q))))) (y := (.d (encG (RRng.mk (ofQ p) (ofQ q))))) rfl rfl sh28 rfl rfl) rfl rfl rfl rfl rfl <| dE' (e_cl (h_width p q (ql_up hp (by decide)) (ql_up hq (by decide))) rfl rfl rfl) rfl rfl <| dE' (e_cl (g_mul (ofQ (Rat.divInt (((k % 17) : Nat) : Int) 16)) (ofQ (q - p)) (Rat.divInt (((k % 17) : Nat) : Int) 16) (q - p) (qok_up (qok_of (ql_divInt (a := (((k % 17) : Nat) : Int)) (b := 16) (lenZ_int (by omega) (by omega)) (lenZ_int (by decide) (by decide)) (by decide))) (by decide)) (qok_up (qok_of (ql_sub (k := 8388609) hq hp (by decide))) (by decide))) rfl rfl rfl) rfl rfl <| dE' (e_cl (g_add (ofQ p) (ofQ ((Rat.divInt (((k % 17) : Nat) : Int) 16) * (q - p))) p ((Rat.divInt (((k % 17) : Nat) : Int) 16) * (q - p)) (qok_up (qok_of hp) (by decide)) (qok_up (qok_of (ql_mul (k := 8388612) (ql_divInt (a := (((k % 17) : Nat) : Int)) (b := 16) (lenZ_int (by omega) (by omega)) (lenZ_int (by decide) (by decide)) (by decide)) (ql_sub (k := 8388609) hq hp (by decide)) (by decide))) (by decide))) rfl rfl rfl) rfl rfl <| dT (t_std (d := (encR (ofQ (p + ((Rat.divInt (((k % 17) : Nat) : Int) 16) * (q - p)))))) (cs := (bx (encR (ofQ (p + ((Rat.divInt (((k % 17) : Nat) : Int) 16) * (q - p))))))) rfl rfl rfl sh26 rfl rfl rfl rfl) rfl rfl rfl rfl <| dNil rfl rfl (by kernel_rfl)
  refine pwp_ret ⟨_, (res_a (cs := (bx (encR (ofQ (p + ((Rat.divInt (((k % 17) : Nat) : Int) 16) * (q - p))))))) (d := (encR (ofQ (p + ((Rat.divInt (((k % 17) : Nat) : Int) 16) * (q - p)))))) rfl rfl sh26 rfl rfl .nil), ?_⟩
  rfl

theorem h_has (p q : Rat) (x : RRat) (v : Rat) (hp : QL p 4294967296) (hq : QL q 4294967296) (hx : QOk x v 4294967296) : Takes Tryz.prog 28 [(encG (RRng.mk (ofQ p) (ofQ q))), (encR x)] (.val (.bool ((hasQ p q v)))) := by
  refine fn_intro Tryz.func28 rfl cb28 rfl ?_
  show PWp _ _ _ _ ⟨[(0, (.d (encG (RRng.mk (ofQ p) (ofQ q))))), (1, (.d (encR x)))], []⟩
  refine pwp_seq ?_
  refine pwp_S (S' := [(2, (.ref 0 0)), (3, (.ref 1 0))]) (B' := [(0, some (bx (encG (RRng.mk (ofQ p) (ofQ q))))), (1, some (bx (encR x)))]) ?_ ?_
  · skip
    exact sN (n_bx (d := (encG (RRng.mk (ofQ p) (ofQ q)))) (cs := (bx (encG (RRng.mk (ofQ p) (ofQ q))))) 0 rfl rfl rfl rfl) rfl rfl rfl rfl <| sN (n_bx (d := (encR x)) (cs := (bx (encR x))) 1 rfl rfl rfl rfl) rfl rfl rfl rfl <| sM (vb false) rfl rfl <| sNil rfl rfl
  refine pwp_seq ?_
  refine pwp_S (S' := [(4, (vb (decide ((cmpQ p v) ≤ 0) && decide ((cmpQ v q) ≤ 0))))]) (B' := []) ?_ ?_
  · skip
    refine sE' (e_fldr (q := 0) rfl rfl fo28_0 rfl) rfl <| sR (e_lda (cs := (bx (encG (RRng.mk (ofQ p) (ofQ q))))) (y := (.d (encR (ofQ p)))) rfl rfl sh26 rfl rfl) rfl rfl rfl rfl <| sR (e_lda (cs := (bx (encR x))) (y := (.d (encR x))) rfl rfl sh26 rfl rfl) rfl rfl rfl rfl <| sE' (e_cl (g_compare (ofQ p) x p v (qok_of hp) hx) rfl rfl rfl) rfl <| sE' (e_leq rfl rfl rfl) rfl <| sM (vb (decide ((cmpQ p v) ≤ 0))) rfl rfl <| ?_
    rcases hb1 : (decide ((cmpQ p v) ≤ 0)) with _ | _
    · skip
      replace hb1 := of_decide_eq_false hb1
      exact sK rfl rfl rfl <| sK rfl rfl rfl <| sK rfl rfl rfl <| sK rfl rfl rfl <| sK rfl rfl rfl <| sE' (e_pkf (z := (vb false)) rfl rfl rfl) rfl <| sM (vb false) rfl rfl <| sNil rfl rfl
    · skip
      replace hb1 := of_decide_eq_true hb1
      exact sR (e_lda (cs := (bx (encR x))) (y := (.d (encR x))) rfl rfl sh26 rfl rfl) rfl rfl rfl rfl <| sE' (e_fldr (q := 4) rfl rfl fo28_1 rfl) rfl <| sR (e_lda (cs := (bx (encG (RRng.mk (ofQ p) (ofQ q))))) (y := (.d (encR (ofQ q)))) rfl rfl sh26 rfl rfl) rfl rfl rfl rfl <| sE' (e_cl (g_compare x (ofQ q) v q hx (qok_of hq)) rfl rfl rfl) rfl <| sE' (e_leq rfl rfl rfl) rfl <| sE' (e_pkta rfl rfl rfl) rfl <| sM (vb (true && decide ((cmpQ v q) ≤ 0))) rfl rfl <| sNil rfl rfl
  refine pwp_ret ⟨_, (.tmp (d := (.val (.bool ((decide ((cmpQ p v) ≤ 0) && decide ((cmpQ v q) ≤ 0)))))) rfl .nil), ?_⟩
  rw [← hasQ_eq]; rfl

theorem l_holds (p q : Rat) (x : RRat) (v : Rat) (hp : QL p 4294967296) (hq : QL q 4294967296) (hx : QOk x v 4294967296) (hpq : p ≤ q) : Takes Tryz.prog 40 [(encG (RRng.mk (ofQ p) (ofQ q))), (encR x)] (.val (.bool ((hasQ p q v)))) := by
  refine fn_intro Tryz.func40 rfl cb40 rfl ?_
  show PWp _ _ _ _ ⟨[(0, (.d (encG (RRng.mk (ofQ p) (ofQ q))))), (1, (.d (encR x)))], []⟩
  refine pwp_seq ?_
  refine pwp_S (S' := [(2, (.ref 0 0)), (3, (.ref 1 0))]) (B' := [(0, some (bx (encG (RRng.mk (ofQ p) (ofQ q))))), (1, some (bx (encR x)))]) ?_ ?_
  · skip
    exact sN (n_bx (d := (encG (RRng.mk (ofQ p) (ofQ q)))) (cs := (bx (encG (RRng.mk (ofQ p) (ofQ q))))) 0 rfl rfl rfl rfl) rfl rfl rfl rfl <| sN (n_bx (d := (encR x)) (cs := (bx (encR x))) 1 rfl rfl rfl rfl) rfl rfl rfl rfl <| sM (vb false) rfl rfl <| sNil rfl rfl
  refine pwp_seq ?_
  refine pwp_S (S' := [(4, (vb (true && (hasQ p q v))))]) (B' := []) ?_ ?_
  · skip
    exact sR (e_lda (cs := (bx (encG (RRng.mk (ofQ p) (ofQ q))))) (y := (.d (encG (RRng.mk (ofQ p) (ofQ q))))) rfl rfl sh28 rfl rfl) rfl rfl rfl rfl <| sE' (e_cl (by have h := h_valid (RRng.mk (ofQ p) (ofQ q)) ⟨qok_self (qok_up (qok_of hp) (by decide : 4294967296 ≤ 4294967296)), qok_self (qok_up (qok_of hq) (by decide : 4294967296 ≤ 4294967296))⟩; rw [show validG (RRng.mk (ofQ p) (ofQ q)) = true from validG_of hpq] at h; exact h) rfl rfl rfl) rfl <| sM (vb true) rfl rfl <| sR (e_lda (cs := (bx (encG (RRng.mk (ofQ p) (ofQ q))))) (y := (.d (encG (RRng.mk (ofQ p) (ofQ q))))) rfl rfl sh28 rfl rfl) rfl rfl rfl rfl <| sR (e_lda (cs := (bx (encR x))) (y := (.d (encR x))) rfl rfl sh26 rfl rfl) rfl rfl rfl rfl <| sE' (e_cl (h_has p q x v hp hq hx) rfl rfl rfl) rfl <| sE' (e_pkta rfl rfl rfl) rfl <| sM (vb (true && (hasQ p q v))) rfl rfl <| sNil rfl rfl
  refine pwp_ret ⟨_, (.tmp (d := (.val (.bool ((true && (hasQ p q v)))))) rfl .nil), ?_⟩
  rfl

theorem i_add (p q r s : Rat) (hp : QL p 1073741824) (hq : QL q 1073741824) (hr : QL r 1073741824) (hs : QL s 1073741824) (hpq : p ≤ q) (hrs : r ≤ s) : Takes Tryz.prog 39 [(encG (RRng.mk (ofQ p) (ofQ q))), (encG (RRng.mk (ofQ r) (ofQ s)))] (.tup [(encG (RRng.mk (ofQ (p + r)) (ofQ (q + s)))), (.val (.int .i64 (0)))]) := by
  refine fn_intro Tryz.func39 rfl cb39 rfl ?_
  show PWp _ _ _ _ ⟨[(0, (.d (encG (RRng.mk (ofQ p) (ofQ q))))), (1, (.d (encG (RRng.mk (ofQ r) (ofQ s)))))], []⟩
  refine pwp_seq ?_
  refine pwp_S (S' := [(2, (.ref 0 0)), (3, (.ref 1 0)), (4, (.ref 2 0))]) (B' := [(0, some (bx (encG (RRng.mk (ofQ p) (ofQ q))))), (1, some (bx (encG (RRng.mk (ofQ r) (ofQ s))))), (2, some (bx (encG (RRng.mk (RRat.mk (RInt.mk false []) (RInt.mk false [])) (RRat.mk (RInt.mk false []) (RInt.mk false []))))))]) ?_ ?_
  · skip
    exact sN (n_bx (d := (encG (RRng.mk (ofQ p) (ofQ q)))) (cs := (bx (encG (RRng.mk (ofQ p) (ofQ q))))) 0 rfl rfl rfl rfl) rfl rfl rfl rfl <| sN (n_bx (d := (encG (RRng.mk (ofQ r) (ofQ s)))) (cs := (bx (encG (RRng.mk (ofQ r) (ofQ s))))) 1 rfl rfl rfl rfl) rfl rfl rfl rfl <| sN (n_al (cs := (bx (encG (RRng.mk (RRat.mk (RInt.mk false []) (RInt.mk false [])) (RRat.mk (RInt.mk false []) (RInt.mk false [])))))) 2 rfl ze28 zo28 rfl) rfl rfl rfl rfl <| sM (vin 0) rfl rfl <| sNil rfl rfl
  refine pwp_seq ?_
  refine pwp_seq ?_
  refine pwp_S (S' := [(2, (.ref 0 0)), (3, (.ref 1 0)), (4, (.ref 2 0)), (10, (vb false))]) (B' := [(0, some (bx (encG (RRng.mk (ofQ p) (ofQ q))))), (1, some (bx (encG (RRng.mk (ofQ r) (ofQ s))))), (2, some (bx (encG (RRng.mk (RRat.mk (RInt.mk false []) (RInt.mk false [])) (RRat.mk (RInt.mk false []) (RInt.mk false []))))))]) ?_ ?_
  · skip
    exact sR (e_lda (cs := (bx (encG (RRng.mk (ofQ p) (ofQ q))))) (y := (.d (encG (RRng.mk (ofQ p) (ofQ q))))) rfl rfl sh28 rfl rfl) rfl rfl rfl rfl <| sR (e_lda (cs := (bx (encG (RRng.mk (ofQ r) (ofQ s))))) (y := (.d (encG (RRng.mk (ofQ r) (ofQ s))))) rfl rfl sh28 rfl rfl) rfl rfl rfl rfl <| sE' (e_bsl (pd := [(0, (encG (RRng.mk (ofQ p) (ofQ q)))), (1, (encG (RRng.mk (ofQ r) (ofQ s))))]) (es := List.map encG [(RRng.mk (ofQ p) (ofQ q)), (RRng.mk (ofQ r) (ofQ s))]) rfl el57 ze28 zo28 rfl rfl rfl rfl rfl rfl rfl rfl) rfl <| sE' (e_cl (by have h := i_valids [(RRng.mk (ofQ p) (ofQ q)), (RRng.mk (ofQ r) (ofQ s))] (List.forall_mem_cons.2 ⟨(gok_up (⟨qok_self (qok_up (qok_of hp) (by decide : 1073741824 ≤ 1073741824)), qok_self (qok_up (qok_of hq) (by decide : 1073741824 ≤ 1073741824))⟩) (by decide)), (List.forall_mem_cons.2 ⟨(gok_up (⟨qok_self (qok_up (qok_of hr) (by decide : 1073741824 ≤ 1073741824)), qok_self (qok_up (qok_of hs) (by decide : 1073741824 ≤ 1073741824))⟩) (by decide)), (fun a h => by cases h)⟩)⟩) (by simp); rw [show List.all [(RRng.mk (ofQ p) (ofQ q)), (RRng.mk (ofQ r) (ofQ s))] validG = true from by simp [validG_of hpq, validG_of hrs]] at h; exact h) rfl rfl rfl) rfl <| sE' (e_not (b := true) rfl rfl) rfl <| sNil rfl rfl
  refine pwp_cond (b := false) rfl (fun h => by cases h) (fun _ => ?_)
  refine pwp_skip ?_
  refine pwp_seq ?_
  refine pwp_D (S' := [(4, (.ref 2 0)), (5, (vin 0))]) (B' := [(2, some (bx (encG (RRng.mk (ofQ (p + r)) (ofQ (q + s))))))]) mo (by kernel_rfl) ?_ ?_
  · skip
    exact dE' (e_fldr (q := 0) rfl rfl fo28_0 rfl) rfl rfl <| dR (e_lda (cs := (bx (encG (RRng.mk (ofQ p) (ofQ q))))) (y := (.d (encR (ofQ p)))) rfl rfl sh26 rfl rfl) rfl rfl rfl rfl rfl <| dE' (e_fldr (q := 0) rfl rfl fo28_0 rfl) rfl rfl <| dR (e_lda (cs := (bx (encG (RRng.mk (ofQ r) (ofQ s))))) (y := (.d (encR (ofQ r)))) rfl rfl sh26 rfl rfl) rfl rfl rfl rfl rfl <| dE' (e_cl (f_add (ofQ p) (ofQ r) p r (qok_up (qok_of hp) (by decide)) (qok_up (qok_of hr) (by decide))) rfl rfl rfl) rfl rfl <| dE' (e_fldr (q := 4) rfl rfl fo28_1 rfl) rfl rfl <| dR (e_lda (cs := (bx (encG (RRng.mk (ofQ p) (ofQ q))))) (y := (.d (encR (ofQ q)))) rfl rfl sh26 rfl rfl) rfl rfl rfl rfl rfl <| dE' (e_fldr (q := 4) rfl rfl fo28_1 rfl) rfl rfl <| dR (e_lda (cs := (bx (encG (RRng.mk (ofQ r) (ofQ s))))) (y := (.d (encR (ofQ s)))) rfl rfl sh26 rfl rfl) rfl rfl rfl rfl rfl <| dE' (e_cl (f_add (ofQ q) (ofQ s) q s (qok_up (qok_of hq) (by decide)) (qok_up (qok_of hs) (by decide))) rfl rfl rfl) rfl rfl <| dE' (e_bld (pd := [(0, (encR (ofQ (p + r)))), (1, (encR (ofQ (q + s))))]) (y := (encG (RRng.mk (ofQ (p + r)) (ofQ (q + s))))) rfl pl28 ze28 zo28 rfl rfl rfl rfl) rfl rfl <| dT (t_std (d := (encG (RRng.mk (ofQ (p + r)) (ofQ (q + s))))) (cs := (bx (encG (RRng.mk (ofQ (p + r)) (ofQ (q + s)))))) rfl rfl rfl sh28 rfl rfl rfl rfl) rfl rfl rfl rfl <| dM (vin 0) rfl rfl rfl <| dNil rfl rfl (by kernel_rfl)
  refine pwp_ret ⟨_, (res_a (cs := (bx (encG (RRng.mk (ofQ (p + r)) (ofQ (q + s)))))) (d := (encG (RRng.mk (ofQ (p + r)) (ofQ (q + s))))) rfl rfl sh28 rfl rfl (.tmp (d := (.val (.int .i64 (0)))) rfl .nil)), ?_⟩
  rfl

theorem i_sub (p q r s : Rat) (hp : QL p 1073741824) (hq : QL q 1073741824) (hr : QL r 1073741824) (hs : QL s 1073741824) (hpq : p ≤ q) (hrs : r ≤ s) : Takes Tryz.prog 36 [(encG (RRng.mk (ofQ p) (ofQ q))), (encG (RRng.mk (ofQ r) (ofQ s)))] (.tup [(encG (RRng.mk (ofQ (p - s)) (ofQ (q - r)))), (.val (.int .i64 (0)))]) := by
  refine fn_intro Tryz.func36 rfl cb36 rfl ?_
  show PWp _ _ _ _ ⟨[(0, (.d (encG (RRng.mk (ofQ p) (ofQ q))))), (1, (.d (encG (RRng.mk (ofQ r) (ofQ s)))))], []⟩
  refine pwp_seq ?_
  refine pwp_S (S' := [(2, (.ref 0 0)), (3, (.ref 1 0)), (4, (.ref 2 0))]) (B' := [(0, some (bx (encG (RRng.mk (ofQ p) (ofQ q))))), (1, some (bx (encG (RRng.mk (ofQ r) (ofQ s))))), (2, some (bx (encG (RRng.mk (RRat.mk (RInt.mk false []) (RInt.mk false [])) (RRat.mk (RInt.mk false []) (RInt.mk false []))))))]) ?_ ?_
  · skip
    exact sN (n_bx (d := (encG (RRng.mk (ofQ p) (ofQ q)))) (cs := (bx (encG (RRng.mk (ofQ p) (ofQ q))))) 0 rfl rfl rfl rfl) rfl rfl rfl rfl <| sN (n_bx (d := (encG (RRng.mk (ofQ r) (ofQ s)))) (cs := (bx (encG (RRng.mk (ofQ r) (ofQ s))))) 1 rfl rfl rfl rfl) rfl rfl rfl rfl <| sN (n_al (cs := (bx (encG (RRng.mk (RRat.mk (RInt.mk false []) (RInt.mk false [])) (RRat.mk (RInt.mk false []) (RInt.mk false [])))))) 2 rfl ze28 zo28 rfl) rfl rfl rfl rfl <| sM (vin 0) rfl rfl <| sNil rfl rfl
  refine pwp_seq ?_
  refine pwp_seq ?_
  refine pwp_S (S' := [(2, (.ref 0 0)), (3, (.ref 1 0)), (4, (.ref 2 0)), (10, (vb false))]) (B' := [(0, some (bx (encG (RRng.mk (ofQ p) (ofQ q))))), (1, some (bx (encG (RRng.mk (ofQ r) (ofQ s))))), (2, some (bx (encG (RRng.mk (RRat.mk (RInt.mk false []) (RInt.mk false [])) (RRat.mk (RInt.mk false []) (RInt.mk false []))))))]) ?_ ?_
  · skip
    exact sR (e_lda (cs := (bx (encG (RRng.mk (ofQ p) (ofQ q))))) (y := (.d (encG (RRng.mk (ofQ p) (ofQ q))))) rfl rfl sh28 rfl rfl) rfl rfl rfl rfl <| sR (e_lda (cs := (bx (encG (RRng.mk (ofQ r) (ofQ s))))) (y := (.d (encG (RRng.mk (ofQ r) (ofQ s))))) rfl rfl sh28 rfl rfl) rfl rfl rfl rfl <| sE' (e_bsl (pd := [(0, (encG (RRng.mk (ofQ p) (ofQ q)))), (1, (encG (RRng.mk (ofQ r) (ofQ s))))]) (es := List.map encG [(RRng.mk (ofQ p) (ofQ q)), (RRng.mk (ofQ r) (ofQ s))]) rfl el57 ze28 zo28 rfl rfl rfl rfl rfl rfl rfl rfl) rfl <| sE' (e_cl (by have h := i_valids [(RRng.mk (ofQ p) (ofQ q)), (RRng.mk (ofQ r) (ofQ s))] (List.forall_mem_cons.2 ⟨(gok_up (⟨qok_self (qok_up (qok_of hp) (by decide : 1073741824 ≤ 1073741824)), qok_self (qok_up (qok_of hq) (by decide : 1073741824 ≤ 1073741824))⟩) (by decide)), (List.forall_mem_cons.2 ⟨(gok_up (⟨qok_self (qok_up (qok_of hr) (by decide : 1073741824 ≤ 1073741824)), qok_self (qok_up (qok_of hs) (by decide : 1073741824 ≤ 1073741824))⟩) (by decide)), (fun a h => by cases h)⟩)⟩) (by simp); rw [show List.all [(RRng.mk (ofQ p) (ofQ q)), (RRng.mk (ofQ r) (ofQ s))] validG = true from by simp [validG_of hpq, validG_of hrs]] at h; exact h) rfl rfl rfl) rfl <| sE' (e_not (b := true) rfl rfl) rfl <| sNil rfl rfl
  refine pwp_cond (b := false) rfl (fun h => by cases h) (fun _ => ?_)
  refine pwp_skip ?_
  refine pwp_seq ?_
  refine pwp_D (S' := [(4, (.ref 2 0)), (5, (vin 0))]) (B' := [(2, some (bx (encG (RRng.mk (ofQ (p - s)) (ofQ (q - r))))))]) mo (by kernel_rfl) ?_ ?_
  · skip
    exact dE' (e_fldr (q := 0) rfl rfl fo28_0 rfl) rfl rfl <| dR (e_lda (cs := (bx (encG (RRng.mk (ofQ p) (ofQ q))))) (y := (.d (encR (ofQ p)))) rfl rfl sh26 rfl rfl) rfl rfl rfl rfl rfl <| dE' (e_fldr (q := 4) rfl rfl fo28_1 rfl) rfl rfl <| dR (e_lda (cs := (bx (encG (RRng.mk (ofQ r) (ofQ s))))) (y := (.d (encR (ofQ s)))) rfl rfl sh26 rfl rfl) rfl rfl rfl rfl rfl <| dE' (e_cl (f_sub (ofQ p) (ofQ s) p s (qok_up (qok_of hp) (by decide)) (qok_up (qok_of hs) (by decide))) rfl rfl rfl) rfl rfl <| dE' (e_fldr (q := 4) rfl rfl fo28_1 rfl) rfl rfl <| dR (e_lda (cs := (bx (encG (RRng.mk (ofQ p) (ofQ q))))) (y := (.d (encR (ofQ q)))) rfl rfl sh26 rfl rfl) rfl rfl rfl rfl rfl <| dE' (e_fldr (q := 0) rfl rfl fo28_0 rfl) rfl rfl <| dR (e_lda (cs := (bx (encG (RRng.mk (ofQ r) (ofQ s))))) (y := (.d (encR (ofQ r)))) rfl rfl sh26 rfl rfl) rfl rfl rfl rfl rfl <| dE' (e_cl (f_sub (ofQ q) (ofQ r) q r (qok_up (qok_of hq) (by decide)) (qok_up (qok_of hr) (by decide))) rfl rfl rfl) rfl rfl <| dE' (e_bld (pd := [(0, (encR (ofQ (p - s)))), (1, (encR (ofQ (q - r))))]) (y := (encG (RRng.mk (ofQ (p - s)) (ofQ (q - r))))) rfl pl28 ze28 zo28 rfl rfl rfl rfl) rfl rfl <| dT (t_std (d := (encG (RRng.mk (ofQ (p - s)) (ofQ (q - r))))) (cs := (bx (encG (RRng.mk (ofQ (p - s)) (ofQ (q - r)))))) rfl rfl rfl sh28 rfl rfl rfl rfl) rfl rfl rfl rfl <| dM (vin 0) rfl rfl rfl <| dNil rfl rfl (by kernel_rfl)
  refine pwp_ret ⟨_, (res_a (cs := (bx (encG (RRng.mk (ofQ (p - s)) (ofQ (q - r)))))) (d := (encG (RRng.mk (ofQ (p - s)) (ofQ (q - r))))) rfl rfl sh28 rfl rfl (.tmp (d := (.val (.int .i64 (0)))) rfl .nil)), ?_⟩
  rfl

end Go.Proofs.YtcdgmcfkhkikbaaGreat
