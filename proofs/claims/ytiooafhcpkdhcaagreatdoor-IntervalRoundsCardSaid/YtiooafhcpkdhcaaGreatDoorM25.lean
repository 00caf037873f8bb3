/- Part 25 of a proof: rules, plain facts, and functions walked. -/
import Derived.Test.YtiooafhcpkdhcaaGreatDoorM24
namespace Go.Proofs.YtiooafhcpkdhcaaGreatDoor
open Go.Fid
set_option maxRecDepth 4000
set_option linter.unusedVariables false
set_option linter.unusedSimpArgs false
theorem cb14 : callB Tryz.prog 14 = true := by kernel_rfl
theorem cb15 : callB Tryz.prog 15 = true := by kernel_rfl
theorem cb18 : callB Tryz.prog 18 = true := by kernel_rfl
theorem cb19 : callB Tryz.prog 19 = true := by kernel_rfl
theorem di_roundV (a : RRng) (ha : GOk 4294967296 a) (k : Int) (hk : validG a = false) : Takes Tryz.prog 14 [(encG a), (.val (.int .i64 (k)))] (.tup [(encG (RRng.mk (RRat.mk (RInt.mk false []) (RInt.mk false [])) (RRat.mk (RInt.mk false []) (RInt.mk false [])))), (.val (.int .i64 (1)))]) := by
  refine fn_intro Tryz.func14 rfl cb14 rfl ?_
  show PWp _ _ _ _ ⟨[(0, (.d (encG a))), (1, (vi k))], []⟩
  refine pwp_seq <| kx [(2, (.ref 0 0)), (4, (.ref 1 0))] [(0, some (bx (encG a))), (1, some (bx (encG (RRng.mk (RRat.mk (RInt.mk false []) (RInt.mk false [])) (RRat.mk (RInt.mk false []) (RInt.mk false []))))))] (zN (oBx 0) <| zN (oAl 1 ze28 zo28) <| zM <| zZ) ?_
  refine pwp_seq <| pwp_seq <| kx [(12, (vb true))] [] (zR (oLa sh28) <| zE (oBk false (oCl (i_valid a ha)) (by exact hk)) <| zE oNt <| zZ) ?_
  refine pwp_cond (b := true) (by kernel_rfl) (fun _ => ?_) (fun h => by cases h)
  refine pwp_seq <| kx [(5, (vin 1))] [(1, some (bx (encG (RRng.mk (RRat.mk (RInt.mk false []) (RInt.mk false [])) (RRat.mk (RInt.mk false []) (RInt.mk false []))))))] (zE (oBd pl28 ze28 zo28) <| zT (oSt sh28) <| zM <| zZ) ?_
  refine pwp_ret ⟨_, (res_a (cs := (bx (encG (RRng.mk (RRat.mk (RInt.mk false []) (RInt.mk false [])) (RRat.mk (RInt.mk false []) (RInt.mk false [])))))) (d := (encG (RRng.mk (RRat.mk (RInt.mk false []) (RInt.mk false [])) (RRat.mk (RInt.mk false []) (RInt.mk false []))))) rfl rfl sh28 rfl rfl (.tmp (d := (.val (.int .i64 (1)))) rfl .nil)), ?_⟩
  rfl
theorem di_roundR (p : Rat) (q : Rat) (hp : QL p 100) (hq : QL q 100) (hpq : p ≤ q) (k : Int) (hkr : ¬ (0 ≤ k ∧ k ≤ 512)) : Takes Tryz.prog 14 [(encG (RRng.mk (ofQ p) (ofQ q))), (.val (.int .i64 (k)))] (.tup [(encG (RRng.mk (RRat.mk (RInt.mk false []) (RInt.mk false [])) (RRat.mk (RInt.mk false []) (RInt.mk false [])))), (.val (.int .i64 (2)))]) := by
  refine fn_intro Tryz.func14 rfl cb14 rfl ?_
  show PWp _ _ _ _ ⟨[(0, (.d (encG (RRng.mk (ofQ p) (ofQ q))))), (1, (vi k))], []⟩
  refine pwp_seq <| kx [(2, (.ref 0 0)), (4, (.ref 1 0))] [(0, some (bx (encG (RRng.mk (ofQ p) (ofQ q))))), (1, some (bx (encG (RRng.mk (RRat.mk (RInt.mk false []) (RInt.mk false [])) (RRat.mk (RInt.mk false []) (RInt.mk false []))))))] (zN (oBx 0) <| zN (oAl 1 ze28 zo28) <| zM <| zZ) ?_
  refine pwp_seq <| pwp_seq <| kx [(12, (vb false))] [] (zR (oLa sh28) <| zE (oCl (by have h := i_valid (RRng.mk (ofQ p) (ofQ q)) (gok_up (⟨qok_self (qok_up (qok_of hp) (by decide : 100 ≤ 100)), qok_self (qok_up (qok_of hq) (by decide : 100 ≤ 100))⟩) (by decide)); rw [show validG (RRng.mk (ofQ p) (ofQ q)) = true from validG_of hpq] at h; exact h)) <| zE oNt <| zZ) ?_
  refine pwp_cond (b := false) (by kernel_rfl) (fun h => by cases h) (fun _ => ?_)
  refine pwp_skip <| pwp_seq <| pwp_seq <| kx [(19, (vb (decide (k < ((0 : Nat) : Int)) || decide (((512 : Nat) : Int) < k))))] [] ?_ ?_
  · refine zM <| zE oLt <| zE (oV (vb (decide (k < ((0 : Nat) : Int)))) (mv_ok (by kernel_rfl))) <| ?_
    rcases hb1 : (decide (k < ((0 : Nat) : Int))) with _ | _
    · replace hb1 := of_decide_eq_false hb1
      exact zM <| zE oGt <| zE oPo <| zZ
    · replace hb1 := of_decide_eq_true hb1
      exact zK <| zK <| zE oPt <| zZ
  refine pwp_cond rfl (fun h2 => ?_) (fun h2 => ?_)
  · refine pwp_seq <| kx [(5, (vin 2))] [(1, some (bx (encG (RRng.mk (RRat.mk (RInt.mk false []) (RInt.mk false [])) (RRat.mk (RInt.mk false []) (RInt.mk false []))))))] (zE (oBd pl28 ze28 zo28) <| zT (oSt sh28) <| zM <| zZ) ?_
    refine pwp_ret ⟨_, (res_a (cs := (bx (encG (RRng.mk (RRat.mk (RInt.mk false []) (RInt.mk false [])) (RRat.mk (RInt.mk false []) (RInt.mk false [])))))) (d := (encG (RRng.mk (RRat.mk (RInt.mk false []) (RInt.mk false [])) (RRat.mk (RInt.mk false []) (RInt.mk false []))))) rfl rfl sh28 rfl rfl (.tmp (d := (.val (.int .i64 (((2 : Nat) : Int))))) rfl .nil)), ?_⟩
    rfl
  · exact (k_abs hkr h2).elim
theorem di_rootV (a : RRng) (ha : GOk 4294967296 a) (k : Int) (hk : validG a = false) : Takes Tryz.prog 15 [(encG a), (.val (.int .i64 (k)))] (.tup [(encG (RRng.mk (RRat.mk (RInt.mk false []) (RInt.mk false [])) (RRat.mk (RInt.mk false []) (RInt.mk false [])))), (.val (.int .i64 (1)))]) := by
  refine fn_intro Tryz.func15 rfl cb15 rfl ?_
  show PWp _ _ _ _ ⟨[(0, (.d (encG a))), (1, (vi k))], []⟩
  refine pwp_seq <| kx [(2, (.ref 0 0)), (4, (.ref 1 0))] [(0, some (bx (encG a))), (1, some (bx (encG (RRng.mk (RRat.mk (RInt.mk false []) (RInt.mk false [])) (RRat.mk (RInt.mk false []) (RInt.mk false []))))))] (zN (oBx 0) <| zN (oAl 1 ze28 zo28) <| zM <| zZ) ?_
  refine pwp_seq <| pwp_seq <| kx [(14, (vb true))] [] (zR (oLa sh28) <| zE (oBk false (oCl (i_valid a ha)) (by exact hk)) <| zE oNt <| zZ) ?_
  refine pwp_cond (b := true) (by kernel_rfl) (fun _ => ?_) (fun h => by cases h)
  refine pwp_seq <| kx [(5, (vin 1))] [(1, some (bx (encG (RRng.mk (RRat.mk (RInt.mk false []) (RInt.mk false [])) (RRat.mk (RInt.mk false []) (RInt.mk false []))))))] (zE (oBd pl28 ze28 zo28) <| zT (oSt sh28) <| zM <| zZ) ?_
  refine pwp_ret ⟨_, (res_a (cs := (bx (encG (RRng.mk (RRat.mk (RInt.mk false []) (RInt.mk false [])) (RRat.mk (RInt.mk false []) (RInt.mk false [])))))) (d := (encG (RRng.mk (RRat.mk (RInt.mk false []) (RInt.mk false [])) (RRat.mk (RInt.mk false []) (RInt.mk false []))))) rfl rfl sh28 rfl rfl (.tmp (d := (.val (.int .i64 (1)))) rfl .nil)), ?_⟩
  rfl
theorem di_rootR (p : Rat) (q : Rat) (hp : QL p 100) (hq : QL q 100) (hpq : p ≤ q) (k : Int) (hkr : ¬ (0 ≤ k ∧ k ≤ 512)) : Takes Tryz.prog 15 [(encG (RRng.mk (ofQ p) (ofQ q))), (.val (.int .i64 (k)))] (.tup [(encG (RRng.mk (RRat.mk (RInt.mk false []) (RInt.mk false [])) (RRat.mk (RInt.mk false []) (RInt.mk false [])))), (.val (.int .i64 (2)))]) := by
  refine fn_intro Tryz.func15 rfl cb15 rfl ?_
  show PWp _ _ _ _ ⟨[(0, (.d (encG (RRng.mk (ofQ p) (ofQ q))))), (1, (vi k))], []⟩
  refine pwp_seq <| kx [(2, (.ref 0 0)), (4, (.ref 1 0))] [(0, some (bx (encG (RRng.mk (ofQ p) (ofQ q))))), (1, some (bx (encG (RRng.mk (RRat.mk (RInt.mk false []) (RInt.mk false [])) (RRat.mk (RInt.mk false []) (RInt.mk false []))))))] (zN (oBx 0) <| zN (oAl 1 ze28 zo28) <| zM <| zZ) ?_
  refine pwp_seq <| pwp_seq <| kx [(14, (vb false))] [] (zR (oLa sh28) <| zE (oCl (by have h := i_valid (RRng.mk (ofQ p) (ofQ q)) (gok_up (⟨qok_self (qok_up (qok_of hp) (by decide : 100 ≤ 100)), qok_self (qok_up (qok_of hq) (by decide : 100 ≤ 100))⟩) (by decide)); rw [show validG (RRng.mk (ofQ p) (ofQ q)) = true from validG_of hpq] at h; exact h)) <| zE oNt <| zZ) ?_
  refine pwp_cond (b := false) (by kernel_rfl) (fun h => by cases h) (fun _ => ?_)
  refine pwp_skip <| pwp_seq <| pwp_seq <| kx [(27, (vb ((decide (k < ((0 : Nat) : Int)) || decide (((512 : Nat) : Int) < k)) || decide ((signQ p) < ((0 : Nat) : Int)))))] [] ?_ ?_
  · refine zM <| zE oLt <| zE (oV (vb (decide (k < ((0 : Nat) : Int)))) (mv_ok (by kernel_rfl))) <| ?_
    rcases hb1 : (decide (k < ((0 : Nat) : Int))) with _ | _
    · replace hb1 := of_decide_eq_false hb1
      refine zM <| zE oGt <| zE oPo <| zE (oV (vb (false || decide (((512 : Nat) : Int) < k))) (mv_ok (by kernel_rfl))) <| ?_
      rcases hb2 : (false || decide (((512 : Nat) : Int) < k)) with _ | _
      · exact zE (oFr fo28_0) <| zR (oLa sh26) <| zE (oCl (f_sign (ofQ p) p (qok_up (qok_of hp) (by decide)))) <| zE oLt <| zE oPo <| zZ
      · exact zK <| zK <| zK <| zK <| zE oPt <| zZ
    · replace hb1 := of_decide_eq_true hb1
      exact zK <| zK <| zE oPt <| zM <| zK <| zK <| zK <| zK <| zE oPt <| zZ
  refine pwp_cond rfl (fun h3 => ?_) (fun h3 => ?_)
  · refine pwp_seq <| kx [(5, (vin 2))] [(1, some (bx (encG (RRng.mk (RRat.mk (RInt.mk false []) (RInt.mk false [])) (RRat.mk (RInt.mk false []) (RInt.mk false []))))))] (zE (oBd pl28 ze28 zo28) <| zT (oSt sh28) <| zM <| zZ) ?_
    refine pwp_ret ⟨_, (res_a (cs := (bx (encG (RRng.mk (RRat.mk (RInt.mk false []) (RInt.mk false [])) (RRat.mk (RInt.mk false []) (RInt.mk false [])))))) (d := (encG (RRng.mk (RRat.mk (RInt.mk false []) (RInt.mk false [])) (RRat.mk (RInt.mk false []) (RInt.mk false []))))) rfl rfl sh28 rfl rfl (.tmp (d := (.val (.int .i64 (((2 : Nat) : Int))))) rfl .nil)), ?_⟩
    rfl
  · exact (k_abs2 hkr h3).elim
theorem di_round (p : Rat) (q : Rat) (hp : QL p 100) (hq : QL q 100) (hpq : p ≤ q) (k : Nat) (hk : k ≤ 512) : Takes Tryz.prog 14 [(encG (RRng.mk (ofQ p) (ofQ q))), (.val (.int .i64 (((k : Nat) : Int))))] (.tup [(encG (RRng.mk (ofQ (Rat.divInt (flZ (p * ((((2 ^ k : Nat) : Int) : Int) : Rat))) ((2 ^ k : Nat) : Int))) (ofQ (Rat.divInt (-(flZ (-(q * ((((2 ^ k : Nat) : Int) : Int) : Rat))))) ((2 ^ k : Nat) : Int))))), (.val (.int .i64 (0)))]) := by
  refine fn_intro Tryz.func14 rfl cb14 rfl ?_
  show PWp _ _ _ _ ⟨[(0, (.d (encG (RRng.mk (ofQ p) (ofQ q))))), (1, (vin k))], []⟩
  refine pwp_seq <| kx [(2, (.ref 0 0)), (4, (.ref 1 0))] [(0, some (bx (encG (RRng.mk (ofQ p) (ofQ q))))), (1, some (bx (encG (RRng.mk (RRat.mk (RInt.mk false []) (RInt.mk false [])) (RRat.mk (RInt.mk false []) (RInt.mk false []))))))] (zN (oBx 0) <| zN (oAl 1 ze28 zo28) <| zM <| zZ) ?_
  refine pwp_seq <| pwp_seq <| kx [(12, (vb false))] [] (zR (oLa sh28) <| zE (oCl (by have h := i_valid (RRng.mk (ofQ p) (ofQ q)) (gok_up (⟨qok_self (qok_up (qok_of hp) (by decide : 100 ≤ 100)), qok_self (qok_up (qok_of hq) (by decide : 100 ≤ 100))⟩) (by decide)); rw [show validG (RRng.mk (ofQ p) (ofQ q)) = true from validG_of hpq] at h; exact h)) <| zE oNt <| zZ) ?_
  refine pwp_cond (b := false) (by kernel_rfl) (fun h => by cases h) (fun _ => ?_)
  refine pwp_skip <| pwp_seq <| pwp_seq <| kx [(19, (vb false))] [] (zM <| zE (oBk false oLt (by exact decide_eq_false (show ¬ ((k : Nat) : Int) < 0 by omega))) <| zM <| zM <| zE (oBk false oGt (by exact decide_eq_false (show ¬ 512 < ((k : Nat) : Int) by omega))) <| zE oPf <| zZ) ?_
  refine pwp_cond (b := false) (by kernel_rfl) (fun h => by cases h) (fun _ => ?_)
  refine pwp_skip <| pwp_seq ?_
  have bn1 : QL (Rat.divInt (flZ (p * ((((2 ^ k : Nat) : Int) : Int) : Rat))) ((2 ^ k : Nat) : Int)) 121 := (ql_divInt (n := 121) (Nat.le_trans (IOk.ln (iok_flz (k := 121) (ql_mul (k := 120) hp (ql_2s (k := k) (by omega)) (by decide)) (by decide))) (by decide)) (Nat.le_trans (IOk.ln (iok_2s (k := k) (by omega))) (by decide)) (by decide))
  refine kx [(6, (.ref 2 0))] [(2, some (bx (encR (ofQ (Rat.divInt (flZ (p * ((((2 ^ k : Nat) : Int) : Int) : Rat))) ((2 ^ k : Nat) : Int))))))] (zE (oFr fo28_0) <| zR (oLa sh26) <| zM <| zE (oCl (d_down p hp k (by omega))) <| zM <| zE oEx <| zE oEx <| zN (oAl 2 ze26 zo26) <| zT (oSt sh26) <| zM <| zZ) ?_
  refine pwp_seq ?_
  have bn2 : QL (Rat.divInt (-(flZ (-(q * ((((2 ^ k : Nat) : Int) : Int) : Rat))))) ((2 ^ k : Nat) : Int)) 121 := (ql_divInt (n := 121) (Nat.le_trans (IOk.ln (iok_neg (iok_flz (k := 121) (ql_neg (ql_mul (k := 120) hq (ql_2s (k := k) (by omega)) (by decide))) (by decide)))) (by decide)) (Nat.le_trans (IOk.ln (iok_2s (k := k) (by omega))) (by decide)) (by decide))
  refine kx [(8, (.ref 3 0))] [(3, some (bx (encR (ofQ (Rat.divInt (-(flZ (-(q * ((((2 ^ k : Nat) : Int) : Int) : Rat))))) ((2 ^ k : Nat) : Int))))))] (zE (oFr fo28_1) <| zR (oLa sh26) <| zM <| zE (oCl (d_up q hq k (by omega))) <| zM <| zE oEx <| zE oEx <| zN (oAl 3 ze26 zo26) <| zT (oSt sh26) <| zM <| zZ) ?_
  refine pwp_seq <| kx [(5, (vin 0))] [(1, some (bx (encG (RRng.mk (ofQ (Rat.divInt (flZ (p * ((((2 ^ k : Nat) : Int) : Int) : Rat))) ((2 ^ k : Nat) : Int))) (ofQ (Rat.divInt (-(flZ (-(q * ((((2 ^ k : Nat) : Int) : Int) : Rat))))) ((2 ^ k : Nat) : Int)))))))] (zR (oLa sh26) <| zR (oLa sh26) <| zE (oBd pl28 ze28 zo28) <| zT (oSt sh28) <| zM <| zZ) ?_
  refine pwp_ret ⟨_, (res_a (cs := (bx (encG (RRng.mk (ofQ (Rat.divInt (flZ (p * ((((2 ^ k : Nat) : Int) : Int) : Rat))) ((2 ^ k : Nat) : Int))) (ofQ (Rat.divInt (-(flZ (-(q * ((((2 ^ k : Nat) : Int) : Int) : Rat))))) ((2 ^ k : Nat) : Int))))))) (d := (encG (RRng.mk (ofQ (Rat.divInt (flZ (p * ((((2 ^ k : Nat) : Int) : Int) : Rat))) ((2 ^ k : Nat) : Int))) (ofQ (Rat.divInt (-(flZ (-(q * ((((2 ^ k : Nat) : Int) : Int) : Rat))))) ((2 ^ k : Nat) : Int)))))) rfl rfl sh28 rfl rfl (.tmp (d := (.val (.int .i64 (((0 : Nat) : Int))))) rfl .nil)), ?_⟩
  rfl
theorem di_rootN (p : Rat) (q : Rat) (hp : QL p 100) (hq : QL q 100) (hpq : p ≤ q) (k : Nat) (hk : k ≤ 512) (hpn : (signQ p) < 0) : Takes Tryz.prog 15 [(encG (RRng.mk (ofQ p) (ofQ q))), (.val (.int .i64 (((k : Nat) : Int))))] (.tup [(encG (RRng.mk (RRat.mk (RInt.mk false []) (RInt.mk false [])) (RRat.mk (RInt.mk false []) (RInt.mk false [])))), (.val (.int .i64 (2)))]) := by
  refine fn_intro Tryz.func15 rfl cb15 rfl ?_
  show PWp _ _ _ _ ⟨[(0, (.d (encG (RRng.mk (ofQ p) (ofQ q))))), (1, (vin k))], []⟩
  refine pwp_seq <| kx [(2, (.ref 0 0)), (4, (.ref 1 0))] [(0, some (bx (encG (RRng.mk (ofQ p) (ofQ q))))), (1, some (bx (encG (RRng.mk (RRat.mk (RInt.mk false []) (RInt.mk false [])) (RRat.mk (RInt.mk false []) (RInt.mk false []))))))] (zN (oBx 0) <| zN (oAl 1 ze28 zo28) <| zM <| zZ) ?_
  refine pwp_seq <| pwp_seq <| kx [(14, (vb false))] [] (zR (oLa sh28) <| zE (oCl (by have h := i_valid (RRng.mk (ofQ p) (ofQ q)) (gok_up (⟨qok_self (qok_up (qok_of hp) (by decide : 100 ≤ 100)), qok_self (qok_up (qok_of hq) (by decide : 100 ≤ 100))⟩) (by decide)); rw [show validG (RRng.mk (ofQ p) (ofQ q)) = true from validG_of hpq] at h; exact h)) <| zE oNt <| zZ) ?_
  refine pwp_cond (b := false) (by kernel_rfl) (fun h => by cases h) (fun _ => ?_)
  refine pwp_skip <| pwp_seq <| pwp_seq <| kx [(27, (vb true))] [] (zM <| zE (oBk false oLt (by exact decide_eq_false (show ¬ ((k : Nat) : Int) < 0 by omega))) <| zM <| zM <| zE (oBk false oGt (by exact decide_eq_false (show ¬ 512 < ((k : Nat) : Int) by omega))) <| zE oPf <| zM <| zE (oFr fo28_0) <| zR (oLa sh26) <| zE (oCl (f_sign (ofQ p) p (qok_up (qok_of hp) (by decide)))) <| zE (oBk true oLt (by exact decide_eq_true hpn)) <| zE oPf <| zZ) ?_
  refine pwp_cond (b := true) (by kernel_rfl) (fun _ => ?_) (fun h => by cases h)
  refine pwp_seq <| kx [(5, (vin 2))] [(1, some (bx (encG (RRng.mk (RRat.mk (RInt.mk false []) (RInt.mk false [])) (RRat.mk (RInt.mk false []) (RInt.mk false []))))))] (zE (oBd pl28 ze28 zo28) <| zT (oSt sh28) <| zM <| zZ) ?_
  refine pwp_ret ⟨_, (res_a (cs := (bx (encG (RRng.mk (RRat.mk (RInt.mk false []) (RInt.mk false [])) (RRat.mk (RInt.mk false []) (RInt.mk false [])))))) (d := (encG (RRng.mk (RRat.mk (RInt.mk false []) (RInt.mk false [])) (RRat.mk (RInt.mk false []) (RInt.mk false []))))) rfl rfl sh28 rfl rfl (.tmp (d := (.val (.int .i64 (((2 : Nat) : Int))))) rfl .nil)), ?_⟩
  rfl
theorem di_root (p : Rat) (q : Rat) (hp : QL p 100) (hq : QL q 100) (hpq : p ≤ q) (k : Nat) (hk : k ≤ 512) (hp0_ : 0 ≤ p) : Takes Tryz.prog 15 [(encG (RRng.mk (ofQ p) (ofQ q))), (.val (.int .i64 (((k : Nat) : Int))))] (.tup [(encG (RRng.mk (ofQ (Rat.divInt (rootI (flZ (p * (((((2 ^ k : Nat) : Int) : Int) : Rat) * ((((2 ^ k : Nat) : Int) : Int) : Rat))))) ((2 ^ k : Nat) : Int))) (ofQ (Rat.divInt (upI (q * (((((2 ^ k : Nat) : Int) : Int) : Rat) * ((((2 ^ k : Nat) : Int) : Int) : Rat)))) ((2 ^ k : Nat) : Int))))), (.val (.int .i64 (0)))]) := by
  refine fn_intro Tryz.func15 rfl cb15 rfl ?_
  show PWp _ _ _ _ ⟨[(0, (.d (encG (RRng.mk (ofQ p) (ofQ q))))), (1, (vin k))], []⟩
  refine pwp_seq <| kx [(2, (.ref 0 0)), (4, (.ref 1 0))] [(0, some (bx (encG (RRng.mk (ofQ p) (ofQ q))))), (1, some (bx (encG (RRng.mk (RRat.mk (RInt.mk false []) (RInt.mk false [])) (RRat.mk (RInt.mk false []) (RInt.mk false []))))))] (zN (oBx 0) <| zN (oAl 1 ze28 zo28) <| zM <| zZ) ?_
  refine pwp_seq <| pwp_seq <| kx [(14, (vb false))] [] (zR (oLa sh28) <| zE (oCl (by have h := i_valid (RRng.mk (ofQ p) (ofQ q)) (gok_up (⟨qok_self (qok_up (qok_of hp) (by decide : 100 ≤ 100)), qok_self (qok_up (qok_of hq) (by decide : 100 ≤ 100))⟩) (by decide)); rw [show validG (RRng.mk (ofQ p) (ofQ q)) = true from validG_of hpq] at h; exact h)) <| zE oNt <| zZ) ?_
  refine pwp_cond (b := false) (by kernel_rfl) (fun h => by cases h) (fun _ => ?_)
  refine pwp_skip <| pwp_seq <| pwp_seq <| kx [(27, (vb false))] [] (zM <| zE (oBk false oLt (by exact decide_eq_false (show ¬ ((k : Nat) : Int) < 0 by omega))) <| zM <| zM <| zE (oBk false oGt (by exact decide_eq_false (show ¬ 512 < ((k : Nat) : Int) by omega))) <| zE oPf <| zM <| zE (oFr fo28_0) <| zR (oLa sh26) <| zE (oCl (f_sign (ofQ p) p (qok_up (qok_of hp) (by decide)))) <| zE (oBk false oLt (by exact decide_eq_false (sgn_nn hp0_))) <| zE oPf <| zZ) ?_
  refine pwp_cond (b := false) (by kernel_rfl) (fun h => by cases h) (fun _ => ?_)
  refine pwp_skip <| pwp_seq ?_
  have bn1 : QL (Rat.divInt (rootI (flZ (p * (((((2 ^ k : Nat) : Int) : Int) : Rat) * ((((2 ^ k : Nat) : Int) : Int) : Rat))))) ((2 ^ k : Nat) : Int)) 141 := (ql_divInt (n := 141) (Nat.le_trans (IOk.ln (iok_root (fl_nn (sqp_nn hp0_)) (iok_flz (k := 141) (ql_mul (k := 140) hp (ql_mul (k := 40) (ql_2s (k := k) (by omega)) (ql_2s (k := k) (by omega)) (by decide)) (by decide)) (by decide)))) (by decide)) (Nat.le_trans (IOk.ln (iok_2s (k := k) (by omega))) (by decide)) (by decide))
  have bn2 : QL (Rat.divInt (upI (p * (((((2 ^ k : Nat) : Int) : Int) : Rat) * ((((2 ^ k : Nat) : Int) : Int) : Rat)))) ((2 ^ k : Nat) : Int)) 142 := (ql_divInt (n := 142) (Nat.le_trans (IOk.ln (iok_upI (k := 142) (fl_nn (sqp_nn hp0_)) (iok_flz (k := 141) (ql_mul (k := 140) hp (ql_mul (k := 40) (ql_2s (k := k) (by omega)) (ql_2s (k := k) (by omega)) (by decide)) (by decide)) (by decide)) (by decide) (by decide))) (by decide)) (Nat.le_trans (IOk.ln (iok_2s (k := k) (by omega))) (by decide)) (by decide))
  refine kx [(6, (.ref 2 0))] [(2, some (bx (encR (ofQ (Rat.divInt (rootI (flZ (p * (((((2 ^ k : Nat) : Int) : Int) : Rat) * ((((2 ^ k : Nat) : Int) : Int) : Rat))))) ((2 ^ k : Nat) : Int)))))), (3, none)] (zE (oFr fo28_0) <| zR (oLa sh26) <| zM <| zE (oCl (d_froot p hp k (by omega) hp0_)) <| zM <| zE oEx <| zE oEx <| zE oEx <| zN (oAl 2 ze26 zo26) <| zN (oAl 3 ze26 zo26) <| zT (oSt sh26) <| zT (oSt sh26) <| zM <| zZ) ?_
  refine pwp_seq ?_
  have bn3 : QL (Rat.divInt (rootI (flZ (q * (((((2 ^ k : Nat) : Int) : Int) : Rat) * ((((2 ^ k : Nat) : Int) : Int) : Rat))))) ((2 ^ k : Nat) : Int)) 141 := (ql_divInt (n := 141) (Nat.le_trans (IOk.ln (iok_root (fl_nn (sqp_nn (Rat.le_trans hp0_ hpq))) (iok_flz (k := 141) (ql_mul (k := 140) hq (ql_mul (k := 40) (ql_2s (k := k) (by omega)) (ql_2s (k := k) (by omega)) (by decide)) (by decide)) (by decide)))) (by decide)) (Nat.le_trans (IOk.ln (iok_2s (k := k) (by omega))) (by decide)) (by decide))
  have bn4 : QL (Rat.divInt (upI (q * (((((2 ^ k : Nat) : Int) : Int) : Rat) * ((((2 ^ k : Nat) : Int) : Int) : Rat)))) ((2 ^ k : Nat) : Int)) 142 := (ql_divInt (n := 142) (Nat.le_trans (IOk.ln (iok_upI (k := 142) (fl_nn (sqp_nn (Rat.le_trans hp0_ hpq))) (iok_flz (k := 141) (ql_mul (k := 140) hq (ql_mul (k := 40) (ql_2s (k := k) (by omega)) (ql_2s (k := k) (by omega)) (by decide)) (by decide)) (by decide)) (by decide) (by decide))) (by decide)) (Nat.le_trans (IOk.ln (iok_2s (k := k) (by omega))) (by decide)) (by decide))
  refine kx [(10, (.ref 5 0))] [(5, some (bx (encR (ofQ (Rat.divInt (upI (q * (((((2 ^ k : Nat) : Int) : Int) : Rat) * ((((2 ^ k : Nat) : Int) : Int) : Rat)))) ((2 ^ k : Nat) : Int)))))), (4, none)] (zE (oFr fo28_1) <| zR (oLa sh26) <| zM <| zE (oCl (d_froot q hq k (by omega) (Rat.le_trans hp0_ hpq))) <| zM <| zE oEx <| zE oEx <| zE oEx <| zN (oAl 4 ze26 zo26) <| zN (oAl 5 ze26 zo26) <| zT (oSt sh26) <| zT (oSt sh26) <| zM <| zZ) ?_
  refine pwp_seq <| kx [(5, (vin 0))] [(1, some (bx (encG (RRng.mk (ofQ (Rat.divInt (rootI (flZ (p * (((((2 ^ k : Nat) : Int) : Int) : Rat) * ((((2 ^ k : Nat) : Int) : Int) : Rat))))) ((2 ^ k : Nat) : Int))) (ofQ (Rat.divInt (upI (q * (((((2 ^ k : Nat) : Int) : Int) : Rat) * ((((2 ^ k : Nat) : Int) : Int) : Rat)))) ((2 ^ k : Nat) : Int)))))))] (zR (oLa sh26) <| zR (oLa sh26) <| zE (oBd pl28 ze28 zo28) <| zT (oSt sh28) <| zM <| zZ) ?_
  refine pwp_ret ⟨_, (res_a (cs := (bx (encG (RRng.mk (ofQ (Rat.divInt (rootI (flZ (p * (((((2 ^ k : Nat) : Int) : Int) : Rat) * ((((2 ^ k : Nat) : Int) : Int) : Rat))))) ((2 ^ k : Nat) : Int))) (ofQ (Rat.divInt (upI (q * (((((2 ^ k : Nat) : Int) : Int) : Rat) * ((((2 ^ k : Nat) : Int) : Int) : Rat)))) ((2 ^ k : Nat) : Int))))))) (d := (encG (RRng.mk (ofQ (Rat.divInt (rootI (flZ (p * (((((2 ^ k : Nat) : Int) : Int) : Rat) * ((((2 ^ k : Nat) : Int) : Int) : Rat))))) ((2 ^ k : Nat) : Int))) (ofQ (Rat.divInt (upI (q * (((((2 ^ k : Nat) : Int) : Int) : Rat) * ((((2 ^ k : Nat) : Int) : Int) : Rat)))) ((2 ^ k : Nat) : Int)))))) rfl rfl sh28 rfl rfl (.tmp (d := (.val (.int .i64 (((0 : Nat) : Int))))) rfl .nil)), ?_⟩
  rfl
theorem dr_plcF (k : Int) (hkr : ¬ (0 ≤ k ∧ k ≤ 512)) : Takes Tryz.prog 159 [(.val (.int .i64 (k)))] (.val (.bool (false))) := by
  refine fn_intro Tryz.func159 rfl cb159 rfl ?_
  show PWp _ _ _ _ ⟨[(0, (vi k))], []⟩
  refine pwp_seq <| kx [] [] (zM <| zZ) ?_
  refine pwp_seq <| kx [(2, (vb (decide (((0 : Nat) : Int) ≤ k) && decide (k ≤ ((512 : Nat) : Int)))))] [] ?_ ?_
  · refine zM <| zE oGe <| zE (oV (vb (decide (((0 : Nat) : Int) ≤ k))) (mv_ok (by kernel_rfl))) <| ?_
    rcases hb1 : (decide (((0 : Nat) : Int) ≤ k)) with _ | _
    · replace hb1 := of_decide_eq_false hb1
      exact zK <| zK <| zE oPf <| zM <| zZ
    · replace hb1 := of_decide_eq_true hb1
      exact zM <| zE oLe <| zE oPa <| zM <| zZ
  refine pwp_ret ⟨_, (.tmp (d := (.val (.bool ((decide (((0 : Nat) : Int) ≤ k) && decide (k ≤ ((512 : Nat) : Int))))))) rfl .nil), ?_⟩
  first | rfl | (rw [plc_no hkr]; rfl)
theorem dr_downF (x : Rat) (hx : QL x 100) (k : Int) (hkr : ¬ (0 ≤ k ∧ k ≤ 512)) : Takes Tryz.prog 85 [(encR (ofQ x)), (.val (.int .i64 (k)))] (.tup [(encR (RRat.mk (RInt.mk false []) (RInt.mk false []))), (.val (.int .i64 (2)))]) := by
  refine fn_intro Tryz.func85 rfl cb85 rfl ?_
  show PWp _ _ _ _ ⟨[(0, (.d (encR (ofQ x)))), (1, (vi k))], []⟩
  refine pwp_seq <| kx [(2, (.ref 0 0)), (4, (.ref 1 0))] [(0, some (bx (encR (ofQ x)))), (1, some (bx (encR (RRat.mk (RInt.mk false []) (RInt.mk false [])))))] (zN (oBx 0) <| zN (oAl 1 ze26 zo26) <| zM <| zZ) ?_
  refine pwp_seq <| pwp_seq <| kx [(8, (vb true))] [] (zM <| zE (oCl (dr_plcF k hkr)) <| zE oNt <| zZ) ?_
  refine pwp_cond (b := true) (by kernel_rfl) (fun _ => ?_) (fun h => by cases h)
  refine pwp_seq <| kx [(5, (vin 2))] [(1, some (bx (encR (RRat.mk (RInt.mk false []) (RInt.mk false [])))))] (zE (oBd pl26 ze26 zo26) <| zT (oSt sh26) <| zM <| zZ) ?_
  refine pwp_ret ⟨_, (res_a (cs := (bx (encR (RRat.mk (RInt.mk false []) (RInt.mk false []))))) (d := (encR (RRat.mk (RInt.mk false []) (RInt.mk false [])))) rfl rfl sh26 rfl rfl (.tmp (d := (.val (.int .i64 (((2 : Nat) : Int))))) rfl .nil)), ?_⟩
  rfl
theorem dh_roundF (p : Rat) (q : Rat) (hp : QL p 100) (hq : QL q 100) (hpq : p ≤ q) (k : Int) (hkr : ¬ (0 ≤ k ∧ k ≤ 512)) : Takes Tryz.prog 18 [(encG (RRng.mk (ofQ p) (ofQ q))), (.val (.int .i64 (k)))] (.tup [(encG (RRng.mk (RRat.mk (RInt.mk false []) (RInt.mk false [])) (RRat.mk (RInt.mk false []) (RInt.mk false [])))), (.val (.int .i64 (2)))]) := by
  let y1 := (RRat.mk (RInt.mk false []) (RInt.mk false []))
  refine fn_intro Tryz.func18 rfl cb18 rfl ?_
  show PWp _ _ _ _ ⟨[(0, (.d (encG (RRng.mk (ofQ p) (ofQ q))))), (1, (vi k))], []⟩
  refine pwp_seq <| kx [(2, (.ref 0 0)), (4, (.ref 1 0))] [(0, some (bx (encG (RRng.mk (ofQ p) (ofQ q))))), (1, some (bx (encG (RRng.mk y1 y1))))] (zN (oBx 0) <| zN (oAl 1 ze28 zo28) <| zM <| zZ) ?_
  refine pwp_seq <| kx [(6, (.ref 2 0)), (7, (vi 2))] [(2, some (bx (encR y1)))] (zE (oFr fo28_0) <| zR (oLa sh26) <| zM <| zE (oCl (dr_downF p hp k hkr)) <| zM <| zE oEx <| zE oEx <| zN (oAl 2 ze26 zo26) <| zT (oSt sh26) <| zM <| zZ) ?_
  refine pwp_seq <| pwp_seq <| kx [(18, (vb true))] [] (zM <| zE (oBk true oNe) <| zZ) ?_
  refine pwp_cond (b := true) (by kernel_rfl) (fun _ => ?_) (fun h => by cases h)
  refine pwp_seq <| kx [(5, (vi 2))] [(1, some (bx (encG (RRng.mk y1 y1))))] (zE (oBd pl28 ze28 zo28) <| zM <| zT (oSt sh28) <| zM <| zZ) ?_
  refine pwp_ret ⟨_, (res_a (cs := (bx (encG (RRng.mk (RRat.mk (RInt.mk false []) (RInt.mk false [])) (RRat.mk (RInt.mk false []) (RInt.mk false [])))))) (d := (encG (RRng.mk (RRat.mk (RInt.mk false []) (RInt.mk false [])) (RRat.mk (RInt.mk false []) (RInt.mk false []))))) rfl rfl sh28 rfl rfl (.tmp (d := (.val (.int .i64 (2)))) rfl .nil)), ?_⟩
  rfl
theorem dh_round (p : Rat) (q : Rat) (hp : QL p 100) (hq : QL q 100) (hpq : p ≤ q) (k : Nat) (hk : k ≤ 512) : Takes Tryz.prog 18 [(encG (RRng.mk (ofQ p) (ofQ q))), (.val (.int .i64 (((k : Nat) : Int))))] (.tup [(encG (RRng.mk (ofQ (Rat.divInt (flZ (p * ((((2 ^ k : Nat) : Int) : Int) : Rat))) ((2 ^ k : Nat) : Int))) (ofQ (Rat.divInt (-(flZ (-(q * ((((2 ^ k : Nat) : Int) : Int) : Rat))))) ((2 ^ k : Nat) : Int))))), (.val (.int .i64 (0)))]) := by
  refine fn_intro Tryz.func18 rfl cb18 rfl ?_
  show PWp _ _ _ _ ⟨[(0, (.d (encG (RRng.mk (ofQ p) (ofQ q))))), (1, (vin k))], []⟩
  refine pwp_seq <| kx [(2, (.ref 0 0)), (4, (.ref 1 0))] [(0, some (bx (encG (RRng.mk (ofQ p) (ofQ q))))), (1, some (bx (encG (RRng.mk (RRat.mk (RInt.mk false []) (RInt.mk false [])) (RRat.mk (RInt.mk false []) (RInt.mk false []))))))] (zN (oBx 0) <| zN (oAl 1 ze28 zo28) <| zM <| zZ) ?_
  refine pwp_seq ?_
  have bn1 : QL (Rat.divInt (flZ (p * ((((2 ^ k : Nat) : Int) : Int) : Rat))) ((2 ^ k : Nat) : Int)) 121 := (ql_divInt (n := 121) (Nat.le_trans (IOk.ln (iok_flz (k := 121) (ql_mul (k := 120) hp (ql_2s (k := k) (by omega)) (by decide)) (by decide))) (by decide)) (Nat.le_trans (IOk.ln (iok_2s (k := k) (by omega))) (by decide)) (by decide))
  refine kx [(6, (.ref 2 0)), (7, (vi 0))] [(2, some (bx (encR (ofQ (Rat.divInt (flZ (p * ((((2 ^ k : Nat) : Int) : Int) : Rat))) ((2 ^ k : Nat) : Int))))))] (zE (oFr fo28_0) <| zR (oLa sh26) <| zM <| zE (oCl (dr_down p hp k (by omega))) <| zM <| zE oEx <| zE oEx <| zN (oAl 2 ze26 zo26) <| zT (oSt sh26) <| zM <| zZ) ?_
  refine pwp_seq <| pwp_seq <| kx [(18, (vb false))] [] (zM <| zE (oBk false oNe) <| zZ) ?_
  refine pwp_cond (b := false) (by kernel_rfl) (fun h => by cases h) (fun _ => ?_)
  refine pwp_skip <| pwp_seq ?_
  have bn2 : QL (Rat.divInt (-(flZ (-(q * ((((2 ^ k : Nat) : Int) : Int) : Rat))))) ((2 ^ k : Nat) : Int)) 121 := (ql_divInt (n := 121) (Nat.le_trans (IOk.ln (iok_neg (iok_flz (k := 121) (ql_neg (ql_mul (k := 120) hq (ql_2s (k := k) (by omega)) (by decide))) (by decide)))) (by decide)) (Nat.le_trans (IOk.ln (iok_2s (k := k) (by omega))) (by decide)) (by decide))
  refine kx [(8, (.ref 3 0))] [(3, some (bx (encR (ofQ (Rat.divInt (-(flZ (-(q * ((((2 ^ k : Nat) : Int) : Int) : Rat))))) ((2 ^ k : Nat) : Int))))))] (zE (oFr fo28_1) <| zR (oLa sh26) <| zM <| zE (oCl (dr_up q hq k (by omega))) <| zM <| zE oEx <| zE oEx <| zN (oAl 3 ze26 zo26) <| zT (oSt sh26) <| zM <| zZ) ?_
  refine pwp_seq <| kx [(5, (vin 0))] [(1, some (bx (encG (RRng.mk (ofQ (Rat.divInt (flZ (p * ((((2 ^ k : Nat) : Int) : Int) : Rat))) ((2 ^ k : Nat) : Int))) (ofQ (Rat.divInt (-(flZ (-(q * ((((2 ^ k : Nat) : Int) : Int) : Rat))))) ((2 ^ k : Nat) : Int)))))))] (zR (oLa sh26) <| zR (oLa sh26) <| zE (oBd pl28 ze28 zo28) <| zT (oSt sh28) <| zM <| zZ) ?_
  refine pwp_ret ⟨_, (res_a (cs := (bx (encG (RRng.mk (ofQ (Rat.divInt (flZ (p * ((((2 ^ k : Nat) : Int) : Int) : Rat))) ((2 ^ k : Nat) : Int))) (ofQ (Rat.divInt (-(flZ (-(q * ((((2 ^ k : Nat) : Int) : Int) : Rat))))) ((2 ^ k : Nat) : Int))))))) (d := (encG (RRng.mk (ofQ (Rat.divInt (flZ (p * ((((2 ^ k : Nat) : Int) : Int) : Rat))) ((2 ^ k : Nat) : Int))) (ofQ (Rat.divInt (-(flZ (-(q * ((((2 ^ k : Nat) : Int) : Int) : Rat))))) ((2 ^ k : Nat) : Int)))))) rfl rfl sh28 rfl rfl (.tmp (d := (.val (.int .i64 (((0 : Nat) : Int))))) rfl .nil)), ?_⟩
  rfl
theorem dh_rootF (p : Rat) (q : Rat) (hp : QL p 100) (hq : QL q 100) (hpq : p ≤ q) (k : Int) (hkr : ¬ (0 ≤ k ∧ k ≤ 512)) : Takes Tryz.prog 19 [(encG (RRng.mk (ofQ p) (ofQ q))), (.val (.int .i64 (k)))] (.tup [(encG (RRng.mk (RRat.mk (RInt.mk false []) (RInt.mk false [])) (RRat.mk (RInt.mk false []) (RInt.mk false [])))), (.val (.int .i64 (2)))]) := by
  refine fn_intro Tryz.func19 rfl cb19 rfl ?_
  show PWp _ _ _ _ ⟨[(0, (.d (encG (RRng.mk (ofQ p) (ofQ q))))), (1, (vi k))], []⟩
  refine pwp_seq <| kx [(2, (.ref 0 0)), (4, (.ref 1 0))] [(0, some (bx (encG (RRng.mk (ofQ p) (ofQ q))))), (1, some (bx (encG (RRng.mk (RRat.mk (RInt.mk false []) (RInt.mk false [])) (RRat.mk (RInt.mk false []) (RInt.mk false []))))))] (zN (oBx 0) <| zN (oAl 1 ze28 zo28) <| zM <| zZ) ?_
  refine pwp_seq <| pwp_seq <| kx [(23, (vb ((decide (k < ((0 : Nat) : Int)) || decide (((512 : Nat) : Int) < k)) || decide ((signQ p) < ((0 : Nat) : Int)))))] [] ?_ ?_
  · refine zM <| zE oLt <| zE (oV (vb (decide (k < ((0 : Nat) : Int)))) (mv_ok (by kernel_rfl))) <| ?_
    rcases hb1 : (decide (k < ((0 : Nat) : Int))) with _ | _
    · replace hb1 := of_decide_eq_false hb1
      refine zM <| zE oGt <| zE oPo <| zE (oV (vb (false || decide (((512 : Nat) : Int) < k))) (mv_ok (by kernel_rfl))) <| ?_
      rcases hb2 : (false || decide (((512 : Nat) : Int) < k)) with _ | _
      · exact zE (oFr fo28_0) <| zR (oLa sh26) <| zE (oCl (g_sign (ofQ p) p (qok_up (qok_of hp) (by decide)))) <| zE oLt <| zE oPo <| zZ
      · exact zK <| zK <| zK <| zK <| zE oPt <| zZ
    · replace hb1 := of_decide_eq_true hb1
      exact zK <| zK <| zE oPt <| zM <| zK <| zK <| zK <| zK <| zE oPt <| zZ
  refine pwp_cond rfl (fun h3 => ?_) (fun h3 => ?_)
  · refine pwp_seq <| kx [(5, (vin 2))] [(1, some (bx (encG (RRng.mk (RRat.mk (RInt.mk false []) (RInt.mk false [])) (RRat.mk (RInt.mk false []) (RInt.mk false []))))))] (zE (oBd pl28 ze28 zo28) <| zT (oSt sh28) <| zM <| zZ) ?_
    refine pwp_ret ⟨_, (res_a (cs := (bx (encG (RRng.mk (RRat.mk (RInt.mk false []) (RInt.mk false [])) (RRat.mk (RInt.mk false []) (RInt.mk false [])))))) (d := (encG (RRng.mk (RRat.mk (RInt.mk false []) (RInt.mk false [])) (RRat.mk (RInt.mk false []) (RInt.mk false []))))) rfl rfl sh28 rfl rfl (.tmp (d := (.val (.int .i64 (((2 : Nat) : Int))))) rfl .nil)), ?_⟩
    rfl
  · exact (k_abs2 hkr h3).elim
theorem dh_rootN (p : Rat) (q : Rat) (hp : QL p 100) (hq : QL q 100) (hpq : p ≤ q) (k : Nat) (hk : k ≤ 512) (hpn : (signQ p) < 0) : Takes Tryz.prog 19 [(encG (RRng.mk (ofQ p) (ofQ q))), (.val (.int .i64 (((k : Nat) : Int))))] (.tup [(encG (RRng.mk (RRat.mk (RInt.mk false []) (RInt.mk false [])) (RRat.mk (RInt.mk false []) (RInt.mk false [])))), (.val (.int .i64 (2)))]) := by
  refine fn_intro Tryz.func19 rfl cb19 rfl ?_
  show PWp _ _ _ _ ⟨[(0, (.d (encG (RRng.mk (ofQ p) (ofQ q))))), (1, (vin k))], []⟩
  refine pwp_seq <| kx [(2, (.ref 0 0)), (4, (.ref 1 0))] [(0, some (bx (encG (RRng.mk (ofQ p) (ofQ q))))), (1, some (bx (encG (RRng.mk (RRat.mk (RInt.mk false []) (RInt.mk false [])) (RRat.mk (RInt.mk false []) (RInt.mk false []))))))] (zN (oBx 0) <| zN (oAl 1 ze28 zo28) <| zM <| zZ) ?_
  refine pwp_seq <| pwp_seq <| kx [(23, (vb true))] [] (zM <| zE (oBk false oLt (by exact decide_eq_false (show ¬ ((k : Nat) : Int) < 0 by omega))) <| zM <| zM <| zE (oBk false oGt (by exact decide_eq_false (show ¬ 512 < ((k : Nat) : Int) by omega))) <| zE oPf <| zM <| zE (oFr fo28_0) <| zR (oLa sh26) <| zE (oCl (g_sign (ofQ p) p (qok_up (qok_of hp) (by decide)))) <| zE (oBk true oLt (by exact decide_eq_true hpn)) <| zE oPf <| zZ) ?_
  refine pwp_cond (b := true) (by kernel_rfl) (fun _ => ?_) (fun h => by cases h)
  refine pwp_seq <| kx [(5, (vin 2))] [(1, some (bx (encG (RRng.mk (RRat.mk (RInt.mk false []) (RInt.mk false [])) (RRat.mk (RInt.mk false []) (RInt.mk false []))))))] (zE (oBd pl28 ze28 zo28) <| zT (oSt sh28) <| zM <| zZ) ?_
  refine pwp_ret ⟨_, (res_a (cs := (bx (encG (RRng.mk (RRat.mk (RInt.mk false []) (RInt.mk false [])) (RRat.mk (RInt.mk false []) (RInt.mk false [])))))) (d := (encG (RRng.mk (RRat.mk (RInt.mk false []) (RInt.mk false [])) (RRat.mk (RInt.mk false []) (RInt.mk false []))))) rfl rfl sh28 rfl rfl (.tmp (d := (.val (.int .i64 (((2 : Nat) : Int))))) rfl .nil)), ?_⟩
  rfl
theorem dh_root (p : Rat) (q : Rat) (hp : QL p 100) (hq : QL q 100) (hpq : p ≤ q) (k : Nat) (hk : k ≤ 512) (hp0_ : 0 ≤ p) : Takes Tryz.prog 19 [(encG (RRng.mk (ofQ p) (ofQ q))), (.val (.int .i64 (((k : Nat) : Int))))] (.tup [(encG (RRng.mk (ofQ (Rat.divInt (rootI (flZ (p * (((((2 ^ k : Nat) : Int) : Int) : Rat) * ((((2 ^ k : Nat) : Int) : Int) : Rat))))) ((2 ^ k : Nat) : Int))) (ofQ (Rat.divInt (upI (q * (((((2 ^ k : Nat) : Int) : Int) : Rat) * ((((2 ^ k : Nat) : Int) : Int) : Rat)))) ((2 ^ k : Nat) : Int))))), (.val (.int .i64 (0)))]) := by
  refine fn_intro Tryz.func19 rfl cb19 rfl ?_
  show PWp _ _ _ _ ⟨[(0, (.d (encG (RRng.mk (ofQ p) (ofQ q))))), (1, (vin k))], []⟩
  refine pwp_seq <| kx [(2, (.ref 0 0)), (4, (.ref 1 0))] [(0, some (bx (encG (RRng.mk (ofQ p) (ofQ q))))), (1, some (bx (encG (RRng.mk (RRat.mk (RInt.mk false []) (RInt.mk false [])) (RRat.mk (RInt.mk false []) (RInt.mk false []))))))] (zN (oBx 0) <| zN (oAl 1 ze28 zo28) <| zM <| zZ) ?_
  refine pwp_seq <| pwp_seq <| kx [(23, (vb false))] [] (zM <| zE (oBk false oLt (by exact decide_eq_false (show ¬ ((k : Nat) : Int) < 0 by omega))) <| zM <| zM <| zE (oBk false oGt (by exact decide_eq_false (show ¬ 512 < ((k : Nat) : Int) by omega))) <| zE oPf <| zM <| zE (oFr fo28_0) <| zR (oLa sh26) <| zE (oCl (g_sign (ofQ p) p (qok_up (qok_of hp) (by decide)))) <| zE (oBk false oLt (by exact decide_eq_false (sgn_nn hp0_))) <| zE oPf <| zZ) ?_
  refine pwp_cond (b := false) (by kernel_rfl) (fun h => by cases h) (fun _ => ?_)
  refine pwp_skip <| pwp_seq ?_
  have bn1 : QL (Rat.divInt (rootI (flZ (p * (((((2 ^ k : Nat) : Int) : Int) : Rat) * ((((2 ^ k : Nat) : Int) : Int) : Rat))))) ((2 ^ k : Nat) : Int)) 141 := (ql_divInt (n := 141) (Nat.le_trans (IOk.ln (iok_root (fl_nn (sqp_nn hp0_)) (iok_flz (k := 141) (ql_mul (k := 140) hp (ql_mul (k := 40) (ql_2s (k := k) (by omega)) (ql_2s (k := k) (by omega)) (by decide)) (by decide)) (by decide)))) (by decide)) (Nat.le_trans (IOk.ln (iok_2s (k := k) (by omega))) (by decide)) (by decide))
  have bn2 : QL (Rat.divInt (upI (p * (((((2 ^ k : Nat) : Int) : Int) : Rat) * ((((2 ^ k : Nat) : Int) : Int) : Rat)))) ((2 ^ k : Nat) : Int)) 142 := (ql_divInt (n := 142) (Nat.le_trans (IOk.ln (iok_upI (k := 142) (fl_nn (sqp_nn hp0_)) (iok_flz (k := 141) (ql_mul (k := 140) hp (ql_mul (k := 40) (ql_2s (k := k) (by omega)) (ql_2s (k := k) (by omega)) (by decide)) (by decide)) (by decide)) (by decide) (by decide))) (by decide)) (Nat.le_trans (IOk.ln (iok_2s (k := k) (by omega))) (by decide)) (by decide))
  refine kx [(6, (.ref 2 0))] [(2, some (bx (encR (ofQ (Rat.divInt (rootI (flZ (p * (((((2 ^ k : Nat) : Int) : Int) : Rat) * ((((2 ^ k : Nat) : Int) : Int) : Rat))))) ((2 ^ k : Nat) : Int)))))), (3, none)] (zE (oFr fo28_0) <| zR (oLa sh26) <| zM <| zE (oCl (dr_root p hp k (by omega) hp0_)) <| zM <| zE oEx <| zE oEx <| zE oEx <| zN (oAl 2 ze26 zo26) <| zN (oAl 3 ze26 zo26) <| zT (oSt sh26) <| zT (oSt sh26) <| zM <| zZ) ?_
  refine pwp_seq ?_
  have bn3 : QL (Rat.divInt (rootI (flZ (q * (((((2 ^ k : Nat) : Int) : Int) : Rat) * ((((2 ^ k : Nat) : Int) : Int) : Rat))))) ((2 ^ k : Nat) : Int)) 141 := (ql_divInt (n := 141) (Nat.le_trans (IOk.ln (iok_root (fl_nn (sqp_nn (Rat.le_trans hp0_ hpq))) (iok_flz (k := 141) (ql_mul (k := 140) hq (ql_mul (k := 40) (ql_2s (k := k) (by omega)) (ql_2s (k := k) (by omega)) (by decide)) (by decide)) (by decide)))) (by decide)) (Nat.le_trans (IOk.ln (iok_2s (k := k) (by omega))) (by decide)) (by decide))
  have bn4 : QL (Rat.divInt (upI (q * (((((2 ^ k : Nat) : Int) : Int) : Rat) * ((((2 ^ k : Nat) : Int) : Int) : Rat)))) ((2 ^ k : Nat) : Int)) 142 := (ql_divInt (n := 142) (Nat.le_trans (IOk.ln (iok_upI (k := 142) (fl_nn (sqp_nn (Rat.le_trans hp0_ hpq))) (iok_flz (k := 141) (ql_mul (k := 140) hq (ql_mul (k := 40) (ql_2s (k := k) (by omega)) (ql_2s (k := k) (by omega)) (by decide)) (by decide)) (by decide)) (by decide) (by decide))) (by decide)) (Nat.le_trans (IOk.ln (iok_2s (k := k) (by omega))) (by decide)) (by decide))
  refine kx [(10, (.ref 5 0))] [(5, some (bx (encR (ofQ (Rat.divInt (upI (q * (((((2 ^ k : Nat) : Int) : Int) : Rat) * ((((2 ^ k : Nat) : Int) : Int) : Rat)))) ((2 ^ k : Nat) : Int)))))), (4, none)] (zE (oFr fo28_1) <| zR (oLa sh26) <| zM <| zE (oCl (dr_root q hq k (by omega) (Rat.le_trans hp0_ hpq))) <| zM <| zE oEx <| zE oEx <| zE oEx <| zN (oAl 4 ze26 zo26) <| zN (oAl 5 ze26 zo26) <| zT (oSt sh26) <| zT (oSt sh26) <| zM <| zZ) ?_
  refine pwp_seq <| kx [(5, (vin 0))] [(1, some (bx (encG (RRng.mk (ofQ (Rat.divInt (rootI (flZ (p * (((((2 ^ k : Nat) : Int) : Int) : Rat) * ((((2 ^ k : Nat) : Int) : Int) : Rat))))) ((2 ^ k : Nat) : Int))) (ofQ (Rat.divInt (upI (q * (((((2 ^ k : Nat) : Int) : Int) : Rat) * ((((2 ^ k : Nat) : Int) : Int) : Rat)))) ((2 ^ k : Nat) : Int)))))))] (zR (oLa sh26) <| zR (oLa sh26) <| zE (oBd pl28 ze28 zo28) <| zT (oSt sh28) <| zM <| zZ) ?_
  refine pwp_ret ⟨_, (res_a (cs := (bx (encG (RRng.mk (ofQ (Rat.divInt (rootI (flZ (p * (((((2 ^ k : Nat) : Int) : Int) : Rat) * ((((2 ^ k : Nat) : Int) : Int) : Rat))))) ((2 ^ k : Nat) : Int))) (ofQ (Rat.divInt (upI (q * (((((2 ^ k : Nat) : Int) : Int) : Rat) * ((((2 ^ k : Nat) : Int) : Int) : Rat)))) ((2 ^ k : Nat) : Int))))))) (d := (encG (RRng.mk (ofQ (Rat.divInt (rootI (flZ (p * (((((2 ^ k : Nat) : Int) : Int) : Rat) * ((((2 ^ k : Nat) : Int) : Int) : Rat))))) ((2 ^ k : Nat) : Int))) (ofQ (Rat.divInt (upI (q * (((((2 ^ k : Nat) : Int) : Int) : Rat) * ((((2 ^ k : Nat) : Int) : Int) : Rat)))) ((2 ^ k : Nat) : Int)))))) rfl rfl sh28 rfl rfl (.tmp (d := (.val (.int .i64 (((0 : Nat) : Int))))) rfl .nil)), ?_⟩
  rfl
end Go.Proofs.YtiooafhcpkdhcaaGreatDoor
namespace Go.Proofs.YtiooafhcpkdhcaaGreatDoor
open Go.Fid
set_option maxRecDepth 4000
set_option linter.unusedVariables false
set_option linter.unusedSimpArgs false
theorem l_resE2 (b : RRng) (hb : GOk 4294967296 b) : Takes Tryz.prog 17 [(encG (RRng.mk (RRat.mk (RInt.mk false []) (RInt.mk false [])) (RRat.mk (RInt.mk false []) (RInt.mk false [])))), (.val (.int .i64 (2))), (encG b), (.val (.int .i64 (2)))] (.val (.bool (true))) := by
  let y1 := (RRng.mk (RRat.mk (RInt.mk false []) (RInt.mk false [])) (RRat.mk (RInt.mk false []) (RInt.mk false [])))
  refine fn_intro Tryz.func17 rfl cb17 rfl ?_
  show PWp _ _ _ _ ⟨[(0, (.d (encG y1))), (1, (vi 2)), (2, (.d (encG b))), (3, (vi 2))], []⟩
  refine pwp_seq <| kx [(4, (.ref 0 0)), (6, (.ref 1 0))] [(0, some (bx (encG y1))), (1, some (bx (encG b)))] (zN (oBx 0) <| zN (oBx 1) <| zM <| zZ) ?_
  refine pwp_seq <| pwp_seq <| kx [(10, (vb true))] [] (zM <| zE oNe <| zZ) ?_
  refine pwp_cond (b := true) (by kernel_rfl) (fun _ => ?_) (fun h => by cases h)
  refine pwp_seq <| kx [(8, (vb true))] [] (zM <| zM <| zE oEq <| zM <| zR (oLa sh28) <| zE (oCl (h_zero y1 (gok_up gok_none (by decide)))) <| zE oPt <| zM <| zZ) ?_
  refine pwp_ret ⟨_, (.tmp (d := (.val (.bool (true)))) rfl .nil), ?_⟩
  rfl
end Go.Proofs.YtiooafhcpkdhcaaGreatDoor
