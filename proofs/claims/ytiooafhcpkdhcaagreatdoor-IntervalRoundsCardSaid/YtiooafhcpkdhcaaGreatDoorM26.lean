/- Part 26 of a proof: rules, plain facts, and functions walked. -/
import Derived.Test.YtiooafhcpkdhcaaGreatDoorM25
import Derived.OpenShut
import Derived.Test.YtiooafhcpkdhcaaGreatDoorM5
import Derived.ChangeArms
import Derived.SizedLaws
namespace Go.Proofs.YtiooafhcpkdhcaaGreatDoor
open Go.Fid
set_option maxRecDepth 4000
set_option linter.unusedVariables false
set_option linter.unusedSimpArgs false
theorem cb3 : callB Tryz.prog 3 = true := by kernel_rfl
theorem w_rdL (a : RRng) (ha : GOk 140737488355328 a) (k : Int) (hk : List.all [a] shortG = false) : Takes Tryz.prog 3 [(encG a), (.val (.int .i64 (k)))] (.val (.bool (true))) := by
  refine fn_intro Tryz.func3 rfl cb3 rfl ?_
  show PWp _ _ _ _ ⟨[(0, (.d (encG a))), (1, (vi k))], []⟩
  refine pwp_seq <| kx [(2, (.ref 0 0))] [(0, some (bx (encG a)))] (zN (oBx 0) <| zM <| zZ) ?_
  refine pwp_seq <| pwp_seq <| kx [(19, (vb false))] [] (zE (oCl l_known) <| zE oNt <| zZ) ?_
  refine pwp_cond (b := false) (by kernel_rfl) (fun h => by cases h) (fun _ => ?_)
  refine pwp_skip <| pwp_seq <| pwp_seq <| kx [(23, (vb true))] [] (zR (oLa sh28) <| zE (oBs el91 ze28 zo28) <| zE (oCl (by have h := l_short [a] (List.forall_mem_cons.2 ⟨ha, (fun a h => by cases h)⟩) (by simp); rw [show List.all [a] shortG = false from hk] at h; exact h)) <| zE oNt <| zZ) ?_
  refine pwp_cond (b := true) (by kernel_rfl) (fun _ => ?_) (fun h => by cases h)
  refine pwp_seq <| kx [(4, (vb true))] [] (zM <| zZ) ?_
  refine pwp_ret ⟨_, (.tmp (d := (.val (.bool (true)))) rfl .nil), ?_⟩
  rfl
theorem w_rdV (a : RRng) (ha : GOk 16 a) (k : Int) (hs : List.all [a] shortG = true) (hk : List.all [a] validG = false) (hk1 : validG a = false) : Takes Tryz.prog 3 [(encG a), (.val (.int .i64 (k)))] (.val (.bool (true))) := by
  let y1 := (RRng.mk (RRat.mk (RInt.mk false []) (RInt.mk false [])) (RRat.mk (RInt.mk false []) (RInt.mk false [])))
  refine fn_intro Tryz.func3 rfl cb3 rfl ?_
  show PWp _ _ _ _ ⟨[(0, (.d (encG a))), (1, (vi k))], []⟩
  refine pwp_seq <| kx [(2, (.ref 0 0))] [(0, some (bx (encG a)))] (zN (oBx 0) <| zM <| zZ) ?_
  refine pwp_seq <| pwp_seq <| kx [(19, (vb false))] [] (zE (oCl l_known) <| zE oNt <| zZ) ?_
  refine pwp_cond (b := false) (by kernel_rfl) (fun h => by cases h) (fun _ => ?_)
  refine pwp_skip <| pwp_seq <| pwp_seq <| kx [(23, (vb false))] [] (zR (oLa sh28) <| zE (oBs el91 ze28 zo28) <| zE (oCl (by have h := l_short [a] (List.forall_mem_cons.2 ⟨(gok_up ha (by decide)), (fun a h => by cases h)⟩) (by simp); rw [show List.all [a] shortG = true from hs] at h; exact h)) <| zE oNt <| zZ) ?_
  refine pwp_cond (b := false) (by kernel_rfl) (fun h => by cases h) (fun _ => ?_)
  refine pwp_skip <| pwp_seq <| kx [(5, (.ref 1 0)), (6, (vi 1))] [(1, some (bx (encG y1)))] (zR (oLa sh28) <| zM <| zE (oCl (di_roundV a (gok_up ha (by decide)) k hk1)) <| zM <| zE oEx <| zE oEx <| zN (oAl 1 ze28 zo28) <| zT (oSt sh28) <| zM <| zZ) ?_
  refine pwp_seq <| kx [(7, (.ref 2 0)), (8, (vi 1))] [(2, some (bx (encG y1)))] (zR (oLa sh28) <| zM <| zE (oCl (di_rootV a (gok_up ha (by decide)) k hk1)) <| zM <| zE oEx <| zE oEx <| zN (oAl 2 ze28 zo28) <| zT (oSt sh28) <| zM <| zZ) ?_
  refine pwp_seq <| kx [(9, (vi 1))] [] (zR (oLa sh28) <| zE (oBs el91 ze28 zo28) <| zE (oCl (by have h := l_asked [a] (List.forall_mem_cons.2 ⟨(gok_up ha (by decide)), (fun a h => by cases h)⟩) (by simp); rw [show List.all [a] validG = false from hk] at h; exact h)) <| zM <| zZ) ?_
  refine pwp_seq <| pwp_seq <| kx [(40, (vb true))] [] (zM <| zE (oBk true oNe) <| zZ) ?_
  refine pwp_cond (b := true) (by kernel_rfl) (fun _ => ?_) (fun h => by cases h)
  refine pwp_seq <| kx [(4, (vb true))] [] (zR (oLa sh28) <| zM <| zE (oBd pl28 ze28 zo28) <| zM <| zE (oCl (l_resE1 y1 gok_none)) <| zM <| zR (oLa sh28) <| zM <| zE (oBd pl28 ze28 zo28) <| zM <| zE (oCl (l_resE1 y1 gok_none)) <| zE oPt <| zM <| zZ) ?_
  refine pwp_ret ⟨_, (.tmp (d := (.val (.bool (true)))) rfl .nil), ?_⟩
  rfl
theorem w_rdR (p : Rat) (q : Rat) (hp : QL p 16) (hq : QL q 16) (hpq : p ≤ q) (k : Int) (hsh : List.all [(RRng.mk (ofQ p) (ofQ q))] shortG = true) (hkr : ¬ (0 ≤ k ∧ k ≤ 512)) : Takes Tryz.prog 3 [(encG (RRng.mk (ofQ p) (ofQ q))), (.val (.int .i64 (k)))] (.val (.bool (true))) := by
  let y2 := (RRng.mk (RRat.mk (RInt.mk false []) (RInt.mk false [])) (RRat.mk (RInt.mk false []) (RInt.mk false [])))
  let y1 := (bx (encG y2))
  refine fn_intro Tryz.func3 rfl cb3 rfl ?_
  show PWp _ _ _ _ ⟨[(0, (.d (encG (RRng.mk (ofQ p) (ofQ q))))), (1, (vi k))], []⟩
  refine pwp_seq <| kx [(2, (.ref 0 0))] [(0, some (bx (encG (RRng.mk (ofQ p) (ofQ q)))))] (zN (oBx 0) <| zM <| zZ) ?_
  refine pwp_seq <| pwp_seq <| kx [(19, (vb false))] [] (zE (oCl l_known) <| zE oNt <| zZ) ?_
  refine pwp_cond (b := false) (by kernel_rfl) (fun h => by cases h) (fun _ => ?_)
  refine pwp_skip <| pwp_seq <| pwp_seq <| kx [(23, (vb false))] [] (zR (oLa sh28) <| zE (oBs el91 ze28 zo28) <| zE (oCl (by have h := l_short [(RRng.mk (ofQ p) (ofQ q))] (List.forall_mem_cons.2 ⟨(gok_up (⟨qok_self (qok_up (qok_of hp) (by decide : 16 ≤ 16)), qok_self (qok_up (qok_of hq) (by decide : 16 ≤ 16))⟩) (by decide)), (fun a h => by cases h)⟩) (by simp); rw [show List.all [(RRng.mk (ofQ p) (ofQ q))] shortG = true from hsh] at h; exact h)) <| zE oNt <| zZ) ?_
  refine pwp_cond (b := false) (by kernel_rfl) (fun h => by cases h) (fun _ => ?_)
  refine pwp_skip <| pwp_seq <| kx [(5, (.ref 1 0)), (6, (vi 2))] [(1, some y1)] (zR (oLa sh28) <| zM <| zE (oCl (di_roundR p q (ql_up hp (by decide)) (ql_up hq (by decide)) hpq k hkr)) <| zM <| zE oEx <| zE oEx <| zN (oAl 1 ze28 zo28) <| zT (oSt sh28) <| zM <| zZ) ?_
  refine pwp_seq <| kx [(7, (.ref 2 0)), (8, (vi 2))] [(2, some y1)] (zR (oLa sh28) <| zM <| zE (oCl (di_rootR p q (ql_up hp (by decide)) (ql_up hq (by decide)) hpq k hkr)) <| zM <| zE oEx <| zE oEx <| zN (oAl 2 ze28 zo28) <| zT (oSt sh28) <| zM <| zZ) ?_
  refine pwp_seq <| kx [(9, (vi 0))] [] (zR (oLa sh28) <| zE (oBs el91 ze28 zo28) <| zE (oCl (by have h := l_asked [(RRng.mk (ofQ p) (ofQ q))] (List.forall_mem_cons.2 ⟨(gok_up (⟨qok_self (qok_up (qok_of hp) (by decide : 16 ≤ 16)), qok_self (qok_up (qok_of hq) (by decide : 16 ≤ 16))⟩) (by decide)), (fun a h => by cases h)⟩) (by simp); rw [show List.all [(RRng.mk (ofQ p) (ofQ q))] validG = true from by simp [validG_of hpq]] at h; exact h)) <| zM <| zZ) ?_
  refine pwp_seq <| pwp_seq <| kx [(40, (vb false))] [] (zM <| zE (oBk false oNe) <| zZ) ?_
  refine pwp_cond (b := false) (by kernel_rfl) (fun h => by cases h) (fun _ => ?_)
  refine pwp_skip <| pwp_seq <| kx [(10, (.ref 3 0)), (11, (vi 2))] [(3, some y1)] (zR (oLa sh28) <| zM <| zE (oCl (dh_roundF p q (ql_up hp (by decide)) (ql_up hq (by decide)) hpq k hkr)) <| zM <| zE oEx <| zE oEx <| zN (oAl 3 ze28 zo28) <| zT (oSt sh28) <| zM <| zZ) ?_
  refine pwp_seq <| kx [(12, (.ref 4 0)), (13, (vi 2))] [(4, some y1)] (zR (oLa sh28) <| zM <| zE (oCl (dh_rootF p q (ql_up hp (by decide)) (ql_up hq (by decide)) hpq k hkr)) <| zM <| zE oEx <| zE oEx <| zN (oAl 4 ze28 zo28) <| zT (oSt sh28) <| zM <| zZ) ?_
  refine pwp_seq <| pwp_seq <| kx [(78, (vb false))] [] (zR (oLa sh28) <| zM <| zR (oLa sh28) <| zM <| zE (oCl (l_resE2 y2 gok_none)) <| zE oNt <| zM <| zR (oLa sh28) <| zM <| zR (oLa sh28) <| zM <| zE (oCl (l_resE2 y2 gok_none)) <| zE oNt <| zE oPf <| zZ) ?_
  refine pwp_cond (b := false) (by kernel_rfl) (fun h => by cases h) (fun _ => ?_)
  refine pwp_skip <| pwp_seq <| pwp_seq <| kx [(80, (vb false))] [] (zM <| zE (oBk false oEq) <| zZ) ?_
  refine pwp_cond (b := false) (by kernel_rfl) (fun h => by cases h) (fun _ => ?_)
  refine pwp_skip <| pwp_seq <| pwp_seq <| kx [(102, (vb true))] [] (zM <| zE (oBk true oNe) <| zZ) ?_
  refine pwp_cond (b := true) (by kernel_rfl) (fun _ => ?_) (fun h => by cases h)
  refine pwp_seq <| kx [(4, (vb true))] [] (zM <| zZ) ?_
  refine pwp_ret ⟨_, (.tmp (d := (.val (.bool (true)))) rfl .nil), ?_⟩
  rfl
theorem w_rdN (p : Rat) (q : Rat) (hp : QL p 16) (hq : QL q 16) (hpq : p ≤ q) (k : Nat) (hk : k ≤ 512) (hsh : List.all [(RRng.mk (ofQ p) (ofQ q))] shortG = true) (hpn : (signQ p) < 0) : Takes Tryz.prog 3 [(encG (RRng.mk (ofQ p) (ofQ q))), (.val (.int .i64 (((k : Nat) : Int))))] (.val (.bool (true))) := by
  let y3 := (bx (encG (RRng.mk (RRat.mk (RInt.mk false []) (RInt.mk false [])) (RRat.mk (RInt.mk false []) (RInt.mk false [])))))
  let y2 := (RRng.mk (ofQ (Rat.divInt (flZ (p * ((((2 ^ k : Nat) : Int) : Int) : Rat))) ((2 ^ k : Nat) : Int))) (ofQ (Rat.divInt (-(flZ (-(q * ((((2 ^ k : Nat) : Int) : Int) : Rat))))) ((2 ^ k : Nat) : Int))))
  let y1 := (bx (encG y2))
  refine fn_intro Tryz.func3 rfl cb3 rfl ?_
  show PWp _ _ _ _ ⟨[(0, (.d (encG (RRng.mk (ofQ p) (ofQ q))))), (1, (vin k))], []⟩
  refine pwp_seq <| kx [(2, (.ref 0 0))] [(0, some (bx (encG (RRng.mk (ofQ p) (ofQ q)))))] (zN (oBx 0) <| zM <| zZ) ?_
  refine pwp_seq <| pwp_seq <| kx [(19, (vb false))] [] (zE (oCl l_known) <| zE oNt <| zZ) ?_
  refine pwp_cond (b := false) (by kernel_rfl) (fun h => by cases h) (fun _ => ?_)
  refine pwp_skip <| pwp_seq <| pwp_seq <| kx [(23, (vb false))] [] (zR (oLa sh28) <| zE (oBs el91 ze28 zo28) <| zE (oCl (by have h := l_short [(RRng.mk (ofQ p) (ofQ q))] (List.forall_mem_cons.2 ⟨(gok_up (⟨qok_self (qok_up (qok_of hp) (by decide : 16 ≤ 16)), qok_self (qok_up (qok_of hq) (by decide : 16 ≤ 16))⟩) (by decide)), (fun a h => by cases h)⟩) (by simp); rw [show List.all [(RRng.mk (ofQ p) (ofQ q))] shortG = true from hsh] at h; exact h)) <| zE oNt <| zZ) ?_
  refine pwp_cond (b := false) (by kernel_rfl) (fun h => by cases h) (fun _ => ?_)
  refine pwp_skip <| pwp_seq ?_
  have bn1 : QL (Rat.divInt (flZ (p * ((((2 ^ k : Nat) : Int) : Int) : Rat))) ((2 ^ k : Nat) : Int)) 37 := (ql_divInt (n := 37) (Nat.le_trans (IOk.ln (iok_flz (k := 37) (ql_mul (k := 36) hp (ql_2s (k := k) (by omega)) (by decide)) (by decide))) (by decide)) (Nat.le_trans (IOk.ln (iok_2s (k := k) (by omega))) (by decide)) (by decide))
  have bn2 : QL (Rat.divInt (-(flZ (-(q * ((((2 ^ k : Nat) : Int) : Int) : Rat))))) ((2 ^ k : Nat) : Int)) 37 := (ql_divInt (n := 37) (Nat.le_trans (IOk.ln (iok_neg (iok_flz (k := 37) (ql_neg (ql_mul (k := 36) hq (ql_2s (k := k) (by omega)) (by decide))) (by decide)))) (by decide)) (Nat.le_trans (IOk.ln (iok_2s (k := k) (by omega))) (by decide)) (by decide))
  refine kx [(5, (.ref 1 0)), (6, (vi 0))] [(1, some y1)] (zR (oLa sh28) <| zM <| zE (oCl (di_round p q (ql_up hp (by decide)) (ql_up hq (by decide)) hpq k (by omega))) <| zM <| zE oEx <| zE oEx <| zN (oAl 1 ze28 zo28) <| zT (oSt sh28) <| zM <| zZ) ?_
  refine pwp_seq <| kx [(7, (.ref 2 0)), (8, (vi 2))] [(2, some y3)] (zR (oLa sh28) <| zM <| zE (oCl (di_rootN p q (ql_up hp (by decide)) (ql_up hq (by decide)) hpq k (by omega) hpn)) <| zM <| zE oEx <| zE oEx <| zN (oAl 2 ze28 zo28) <| zT (oSt sh28) <| zM <| zZ) ?_
  refine pwp_seq <| kx [(9, (vi 0))] [] (zR (oLa sh28) <| zE (oBs el91 ze28 zo28) <| zE (oCl (by have h := l_asked [(RRng.mk (ofQ p) (ofQ q))] (List.forall_mem_cons.2 ⟨(gok_up (⟨qok_self (qok_up (qok_of hp) (by decide : 16 ≤ 16)), qok_self (qok_up (qok_of hq) (by decide : 16 ≤ 16))⟩) (by decide)), (fun a h => by cases h)⟩) (by simp); rw [show List.all [(RRng.mk (ofQ p) (ofQ q))] validG = true from by simp [validG_of hpq]] at h; exact h)) <| zM <| zZ) ?_
  refine pwp_seq <| pwp_seq <| kx [(40, (vb false))] [] (zM <| zE (oBk false oNe) <| zZ) ?_
  refine pwp_cond (b := false) (by kernel_rfl) (fun h => by cases h) (fun _ => ?_)
  refine pwp_skip <| pwp_seq <| kx [(10, (.ref 3 0)), (11, (vi 0))] [(3, some y1)] (zR (oLa sh28) <| zM <| zE (oCl (dh_round p q (ql_up hp (by decide)) (ql_up hq (by decide)) hpq k (by omega))) <| zM <| zE oEx <| zE oEx <| zN (oAl 3 ze28 zo28) <| zT (oSt sh28) <| zM <| zZ) ?_
  refine pwp_seq <| kx [(12, (.ref 4 0)), (13, (vi 2))] [(4, some y3)] (zR (oLa sh28) <| zM <| zE (oCl (dh_rootN p q (ql_up hp (by decide)) (ql_up hq (by decide)) hpq k (by omega) hpn)) <| zM <| zE oEx <| zE oEx <| zN (oAl 4 ze28 zo28) <| zT (oSt sh28) <| zM <| zZ) ?_
  refine pwp_seq <| pwp_seq <| kx [(78, (vb false))] [] (zR (oLa sh28) <| zM <| zR (oLa sh28) <| zM <| zE (oCl (by have h := l_resO y2 y2 ⟨qok_self (qok_up (qok_of bn1) (by decide)), qok_self (qok_up (qok_of bn2) (by decide))⟩ ⟨qok_self (qok_up (qok_of bn1) (by decide)), qok_self (qok_up (qok_of bn2) (by decide))⟩; rw [show sameG y2 y2 = true from (sameG_self (rd_valid k hpq))] at h; exact h)) <| zE oNt <| zM <| zR (oLa sh28) <| zM <| zR (oLa sh28) <| zM <| zE (oCl (l_resE2 (RRng.mk (RRat.mk (RInt.mk false []) (RInt.mk false [])) (RRat.mk (RInt.mk false []) (RInt.mk false []))) gok_none)) <| zE oNt <| zE oPf <| zZ) ?_
  refine pwp_cond (b := false) (by kernel_rfl) (fun h => by cases h) (fun _ => ?_)
  refine pwp_skip <| pwp_seq <| pwp_seq <| kx [(80, (vb true))] [] (zM <| zE (oBk true oEq) <| zZ) ?_
  refine pwp_cond (b := true) (by kernel_rfl) (fun _ => ?_) (fun h => by cases h)
  refine pwp_seq ?_
  have bn3 : QL (Rat.divInt (flZ (p * ((((2 ^ k : Nat) : Int) : Int) : Rat))) ((2 ^ k : Nat) : Int)) 58 := (ql_eqz (Eq.symm (dn_idem _ k)) (ql_divInt (n := 58) (Nat.le_trans (IOk.ln (iok_flz (k := 58) (ql_mul (k := 57) bn1 (ql_2s (k := k) (by omega)) (by decide)) (by decide))) (by decide)) (Nat.le_trans (IOk.ln (iok_2s (k := k) (by omega))) (by decide)) (by decide)))
  have bn4 : QL (Rat.divInt (-(flZ (-(q * ((((2 ^ k : Nat) : Int) : Int) : Rat))))) ((2 ^ k : Nat) : Int)) 58 := (ql_eqz (Eq.symm (up_idem _ k)) (ql_divInt (n := 58) (Nat.le_trans (IOk.ln (iok_neg (iok_flz (k := 58) (ql_neg (ql_mul (k := 57) bn2 (ql_2s (k := k) (by omega)) (by decide))) (by decide)))) (by decide)) (Nat.le_trans (IOk.ln (iok_2s (k := k) (by omega))) (by decide)) (by decide)))
  refine kx [(14, (.ref 5 0)), (15, (vi 0))] [(5, some y1)] (zR (oLa sh28) <| zM <| zE (oCl (by have h := di_round (Rat.divInt (flZ (p * ((((2 ^ k : Nat) : Int) : Int) : Rat))) ((2 ^ k : Nat) : Int)) (Rat.divInt (-(flZ (-(q * ((((2 ^ k : Nat) : Int) : Int) : Rat))))) ((2 ^ k : Nat) : Int)) (ql_up bn1 (by decide)) (ql_up bn2 (by decide)) (rd_valid k hpq) k (by omega); rw [(dn_idem _ k), (up_idem _ k)] at h; exact h)) <| zM <| zE oEx <| zE oEx <| zN (oAl 5 ze28 zo28) <| zT (oSt sh28) <| zM <| zZ) ?_
  refine pwp_seq <| kx [(100, (vb false))] [] (zM <| zE (oBk false oNe) <| zM <| zR (oLa sh28) <| zR (oLa sh28) <| zE (oBk true (oCl (i_insideT (RRng.mk (ofQ p) (ofQ q)) p q (qok_up (qok_of hp) (by decide)) (qok_up (qok_of hq) (by decide)) y2 (Rat.divInt (flZ (p * ((((2 ^ k : Nat) : Int) : Int) : Rat))) ((2 ^ k : Nat) : Int)) (Rat.divInt (-(flZ (-(q * ((((2 ^ k : Nat) : Int) : Int) : Rat))))) ((2 ^ k : Nat) : Int)) (qok_up (qok_of bn1) (by decide)) (qok_up (qok_of bn2) (by decide)) (allV2 hpq (rd_valid k hpq)))) (by exact (rd_in p q k))) <| zE oNt <| zE oPf <| zM <| zR (oLa sh28) <| zR (oLa sh28) <| zE (oBk true (oCl (l_same y2 y2 (gok_up (⟨qok_self (qok_up (qok_of bn3) (by decide : 58 ≤ 58)), qok_self (qok_up (qok_of bn4) (by decide : 58 ≤ 58))⟩) (by decide)) (gok_up (⟨qok_self (qok_up (qok_of bn1) (by decide : 37 ≤ 37)), qok_self (qok_up (qok_of bn2) (by decide : 37 ≤ 37))⟩) (by decide)))) (by exact (sameG_self (rd_valid k hpq)))) <| zE oNt <| zE oPf <| zZ) ?_
  refine pwp_cond (b := false) (by kernel_rfl) (fun h => by cases h) (fun _ => ?_)
  refine pwp_skip <| pwp_seq <| pwp_seq <| kx [(102, (vb true))] [] (zM <| zE (oBk true oNe) <| zZ) ?_
  refine pwp_cond (b := true) (by kernel_rfl) (fun _ => ?_) (fun h => by cases h)
  refine pwp_seq <| pwp_sim (wk (l := [(2, (.ref 0 0)), (7, (.ref 2 0)), (102, (vb true))]) (b := [(0, some (bx (encG (RRng.mk (ofQ p) (ofQ q))))), (2, some y3)])) ?_
  refine kx [(4, (vb true))] [] (zM <| zZ) ?_
  refine pwp_ret ⟨_, (.tmp (d := (.val (.bool (true)))) rfl .nil), ?_⟩
  rfl
theorem w_rd (p : Rat) (q : Rat) (hp : QL p 16) (hq : QL q 16) (hpq : p ≤ q) (k : Nat) (hk : k ≤ 512) (hsh : List.all [(RRng.mk (ofQ p) (ofQ q))] shortG = true) (hp0_ : 0 ≤ p) : Takes Tryz.prog 3 [(encG (RRng.mk (ofQ p) (ofQ q))), (.val (.int .i64 (((k : Nat) : Int))))] (.val (.bool (true))) := by
  let y5 := (RRng.mk (ofQ (Rat.divInt (flZ (p * ((((2 ^ k : Nat) : Int) : Int) : Rat))) ((2 ^ k : Nat) : Int))) (ofQ (Rat.divInt (-(flZ (-(q * ((((2 ^ k : Nat) : Int) : Int) : Rat))))) ((2 ^ k : Nat) : Int))))
  let y4 := (bx (encG y5))
  let y3 := (RRng.mk (ofQ (Rat.divInt (rootI (flZ (p * (((((2 ^ k : Nat) : Int) : Int) : Rat) * ((((2 ^ k : Nat) : Int) : Int) : Rat))))) ((2 ^ k : Nat) : Int))) (ofQ (Rat.divInt (upI (q * (((((2 ^ k : Nat) : Int) : Int) : Rat) * ((((2 ^ k : Nat) : Int) : Int) : Rat)))) ((2 ^ k : Nat) : Int))))
  let y2 := (bx (encG y3))
  let y1 := (RRng.mk (ofQ (sqL (Rat.divInt (rootI (flZ (p * (((((2 ^ k : Nat) : Int) : Int) : Rat) * ((((2 ^ k : Nat) : Int) : Int) : Rat))))) ((2 ^ k : Nat) : Int)) (Rat.divInt (upI (q * (((((2 ^ k : Nat) : Int) : Int) : Rat) * ((((2 ^ k : Nat) : Int) : Int) : Rat)))) ((2 ^ k : Nat) : Int)))) (ofQ (sqH (Rat.divInt (rootI (flZ (p * (((((2 ^ k : Nat) : Int) : Int) : Rat) * ((((2 ^ k : Nat) : Int) : Int) : Rat))))) ((2 ^ k : Nat) : Int)) (Rat.divInt (upI (q * (((((2 ^ k : Nat) : Int) : Int) : Rat) * ((((2 ^ k : Nat) : Int) : Int) : Rat)))) ((2 ^ k : Nat) : Int)))))
  refine fn_intro Tryz.func3 rfl cb3 rfl ?_
  show PWp _ _ _ _ ⟨[(0, (.d (encG (RRng.mk (ofQ p) (ofQ q))))), (1, (vin k))], []⟩
  refine pwp_seq <| kx [(2, (.ref 0 0))] [(0, some (bx (encG (RRng.mk (ofQ p) (ofQ q)))))] (zN (oBx 0) <| zM <| zZ) ?_
  refine pwp_seq <| pwp_seq <| kx [(19, (vb false))] [] (zE (oCl l_known) <| zE oNt <| zZ) ?_
  refine pwp_cond (b := false) (by kernel_rfl) (fun h => by cases h) (fun _ => ?_)
  refine pwp_skip <| pwp_seq <| pwp_seq <| kx [(23, (vb false))] [] (zR (oLa sh28) <| zE (oBs el91 ze28 zo28) <| zE (oCl (by have h := l_short [(RRng.mk (ofQ p) (ofQ q))] (List.forall_mem_cons.2 ⟨(gok_up (⟨qok_self (qok_up (qok_of hp) (by decide : 16 ≤ 16)), qok_self (qok_up (qok_of hq) (by decide : 16 ≤ 16))⟩) (by decide)), (fun a h => by cases h)⟩) (by simp); rw [show List.all [(RRng.mk (ofQ p) (ofQ q))] shortG = true from hsh] at h; exact h)) <| zE oNt <| zZ) ?_
  refine pwp_cond (b := false) (by kernel_rfl) (fun h => by cases h) (fun _ => ?_)
  refine pwp_skip <| pwp_seq ?_
  have bn1 : QL (Rat.divInt (flZ (p * ((((2 ^ k : Nat) : Int) : Int) : Rat))) ((2 ^ k : Nat) : Int)) 37 := (ql_divInt (n := 37) (Nat.le_trans (IOk.ln (iok_flz (k := 37) (ql_mul (k := 36) hp (ql_2s (k := k) (by omega)) (by decide)) (by decide))) (by decide)) (Nat.le_trans (IOk.ln (iok_2s (k := k) (by omega))) (by decide)) (by decide))
  have bn2 : QL (Rat.divInt (-(flZ (-(q * ((((2 ^ k : Nat) : Int) : Int) : Rat))))) ((2 ^ k : Nat) : Int)) 37 := (ql_divInt (n := 37) (Nat.le_trans (IOk.ln (iok_neg (iok_flz (k := 37) (ql_neg (ql_mul (k := 36) hq (ql_2s (k := k) (by omega)) (by decide))) (by decide)))) (by decide)) (Nat.le_trans (IOk.ln (iok_2s (k := k) (by omega))) (by decide)) (by decide))
  refine kx [(5, (.ref 1 0)), (6, (vi 0))] [(1, some y4)] (zR (oLa sh28) <| zM <| zE (oCl (di_round p q (ql_up hp (by decide)) (ql_up hq (by decide)) hpq k (by omega))) <| zM <| zE oEx <| zE oEx <| zN (oAl 1 ze28 zo28) <| zT (oSt sh28) <| zM <| zZ) ?_
  refine pwp_seq ?_
  have bn3 : QL (Rat.divInt (rootI (flZ (p * (((((2 ^ k : Nat) : Int) : Int) : Rat) * ((((2 ^ k : Nat) : Int) : Int) : Rat))))) ((2 ^ k : Nat) : Int)) 57 := (ql_divInt (n := 57) (Nat.le_trans (IOk.ln (iok_root (fl_nn (sqp_nn hp0_)) (iok_flz (k := 57) (ql_mul (k := 56) hp (ql_mul (k := 40) (ql_2s (k := k) (by omega)) (ql_2s (k := k) (by omega)) (by decide)) (by decide)) (by decide)))) (by decide)) (Nat.le_trans (IOk.ln (iok_2s (k := k) (by omega))) (by decide)) (by decide))
  have bn4 : QL (Rat.divInt (upI (q * (((((2 ^ k : Nat) : Int) : Int) : Rat) * ((((2 ^ k : Nat) : Int) : Int) : Rat)))) ((2 ^ k : Nat) : Int)) 58 := (ql_divInt (n := 58) (Nat.le_trans (IOk.ln (iok_upI (k := 58) (fl_nn (sqp_nn (Rat.le_trans hp0_ hpq))) (iok_flz (k := 57) (ql_mul (k := 56) hq (ql_mul (k := 40) (ql_2s (k := k) (by omega)) (ql_2s (k := k) (by omega)) (by decide)) (by decide)) (by decide)) (by decide) (by decide))) (by decide)) (Nat.le_trans (IOk.ln (iok_2s (k := k) (by omega))) (by decide)) (by decide))
  refine kx [(7, (.ref 2 0)), (8, (vi 0))] [(2, some y2)] (zR (oLa sh28) <| zM <| zE (oCl (di_root p q (ql_up hp (by decide)) (ql_up hq (by decide)) hpq k (by omega) hp0_)) <| zM <| zE oEx <| zE oEx <| zN (oAl 2 ze28 zo28) <| zT (oSt sh28) <| zM <| zZ) ?_
  refine pwp_seq <| kx [(9, (vi 0))] [] (zR (oLa sh28) <| zE (oBs el91 ze28 zo28) <| zE (oCl (by have h := l_asked [(RRng.mk (ofQ p) (ofQ q))] (List.forall_mem_cons.2 ⟨(gok_up (⟨qok_self (qok_up (qok_of hp) (by decide : 16 ≤ 16)), qok_self (qok_up (qok_of hq) (by decide : 16 ≤ 16))⟩) (by decide)), (fun a h => by cases h)⟩) (by simp); rw [show List.all [(RRng.mk (ofQ p) (ofQ q))] validG = true from by simp [validG_of hpq]] at h; exact h)) <| zM <| zZ) ?_
  refine pwp_seq <| pwp_seq <| kx [(40, (vb false))] [] (zM <| zE (oBk false oNe) <| zZ) ?_
  refine pwp_cond (b := false) (by kernel_rfl) (fun h => by cases h) (fun _ => ?_)
  refine pwp_skip <| pwp_seq <| kx [(10, (.ref 3 0)), (11, (vi 0))] [(3, some y4)] (zR (oLa sh28) <| zM <| zE (oCl (dh_round p q (ql_up hp (by decide)) (ql_up hq (by decide)) hpq k (by omega))) <| zM <| zE oEx <| zE oEx <| zN (oAl 3 ze28 zo28) <| zT (oSt sh28) <| zM <| zZ) ?_
  refine pwp_seq <| kx [(12, (.ref 4 0)), (13, (vi 0))] [(4, some y2)] (zR (oLa sh28) <| zM <| zE (oCl (dh_root p q (ql_up hp (by decide)) (ql_up hq (by decide)) hpq k (by omega) hp0_)) <| zM <| zE oEx <| zE oEx <| zN (oAl 4 ze28 zo28) <| zT (oSt sh28) <| zM <| zZ) ?_
  refine pwp_seq <| pwp_seq <| kx [(78, (vb false))] [] (zR (oLa sh28) <| zM <| zR (oLa sh28) <| zM <| zE (oCl (by have h := l_resO y5 y5 ⟨qok_self (qok_up (qok_of bn1) (by decide)), qok_self (qok_up (qok_of bn2) (by decide))⟩ ⟨qok_self (qok_up (qok_of bn1) (by decide)), qok_self (qok_up (qok_of bn2) (by decide))⟩; rw [show sameG y5 y5 = true from (sameG_self (rd_valid k hpq))] at h; exact h)) <| zE oNt <| zM <| zR (oLa sh28) <| zM <| zR (oLa sh28) <| zM <| zE (oCl (by have h := l_resO y3 y3 (gok_up (⟨qok_self (qok_up (qok_of bn3) (by decide : 57 ≤ 58)), qok_self (qok_up (qok_of bn4) (by decide : 58 ≤ 58))⟩) (by decide)) (gok_up (⟨qok_self (qok_up (qok_of bn3) (by decide : 57 ≤ 58)), qok_self (qok_up (qok_of bn4) (by decide : 58 ≤ 58))⟩) (by decide)); rw [show sameG y3 y3 = true from sameG_self (rt_valid k hp0_ hpq)] at h; exact h)) <| zE oNt <| zE oPf <| zZ) ?_
  refine pwp_cond (b := false) (by kernel_rfl) (fun h => by cases h) (fun _ => ?_)
  refine pwp_skip <| pwp_seq <| pwp_seq <| kx [(80, (vb true))] [] (zM <| zE (oBk true oEq) <| zZ) ?_
  refine pwp_cond (b := true) (by kernel_rfl) (fun _ => ?_) (fun h => by cases h)
  refine pwp_seq ?_
  have bn5 : QL (Rat.divInt (flZ (p * ((((2 ^ k : Nat) : Int) : Int) : Rat))) ((2 ^ k : Nat) : Int)) 58 := (ql_eqz (Eq.symm (dn_idem _ k)) (ql_divInt (n := 58) (Nat.le_trans (IOk.ln (iok_flz (k := 58) (ql_mul (k := 57) bn1 (ql_2s (k := k) (by omega)) (by decide)) (by decide))) (by decide)) (Nat.le_trans (IOk.ln (iok_2s (k := k) (by omega))) (by decide)) (by decide)))
  have bn6 : QL (Rat.divInt (-(flZ (-(q * ((((2 ^ k : Nat) : Int) : Int) : Rat))))) ((2 ^ k : Nat) : Int)) 58 := (ql_eqz (Eq.symm (up_idem _ k)) (ql_divInt (n := 58) (Nat.le_trans (IOk.ln (iok_neg (iok_flz (k := 58) (ql_neg (ql_mul (k := 57) bn2 (ql_2s (k := k) (by omega)) (by decide))) (by decide)))) (by decide)) (Nat.le_trans (IOk.ln (iok_2s (k := k) (by omega))) (by decide)) (by decide)))
  refine kx [(14, (.ref 5 0)), (15, (vi 0))] [(5, some y4)] (zR (oLa sh28) <| zM <| zE (oCl (by have h := di_round (Rat.divInt (flZ (p * ((((2 ^ k : Nat) : Int) : Int) : Rat))) ((2 ^ k : Nat) : Int)) (Rat.divInt (-(flZ (-(q * ((((2 ^ k : Nat) : Int) : Int) : Rat))))) ((2 ^ k : Nat) : Int)) (ql_up bn1 (by decide)) (ql_up bn2 (by decide)) (rd_valid k hpq) k (by omega); rw [(dn_idem _ k), (up_idem _ k)] at h; exact h)) <| zM <| zE oEx <| zE oEx <| zN (oAl 5 ze28 zo28) <| zT (oSt sh28) <| zM <| zZ) ?_
  refine pwp_seq <| kx [(100, (vb false))] [] (zM <| zE (oBk false oNe) <| zM <| zR (oLa sh28) <| zR (oLa sh28) <| zE (oBk true (oCl (i_insideT (RRng.mk (ofQ p) (ofQ q)) p q (qok_up (qok_of hp) (by decide)) (qok_up (qok_of hq) (by decide)) y5 (Rat.divInt (flZ (p * ((((2 ^ k : Nat) : Int) : Int) : Rat))) ((2 ^ k : Nat) : Int)) (Rat.divInt (-(flZ (-(q * ((((2 ^ k : Nat) : Int) : Int) : Rat))))) ((2 ^ k : Nat) : Int)) (qok_up (qok_of bn1) (by decide)) (qok_up (qok_of bn2) (by decide)) (allV2 hpq (rd_valid k hpq)))) (by exact (rd_in p q k))) <| zE oNt <| zE oPf <| zM <| zR (oLa sh28) <| zR (oLa sh28) <| zE (oBk true (oCl (l_same y5 y5 (gok_up (⟨qok_self (qok_up (qok_of bn5) (by decide : 58 ≤ 58)), qok_self (qok_up (qok_of bn6) (by decide : 58 ≤ 58))⟩) (by decide)) (gok_up (⟨qok_self (qok_up (qok_of bn1) (by decide : 37 ≤ 37)), qok_self (qok_up (qok_of bn2) (by decide : 37 ≤ 37))⟩) (by decide)))) (by exact (sameG_self (rd_valid k hpq)))) <| zE oNt <| zE oPf <| zZ) ?_
  refine pwp_cond (b := false) (by kernel_rfl) (fun h => by cases h) (fun _ => ?_)
  refine pwp_skip <| pwp_seq <| pwp_seq <| kx [(102, (vb false))] [] (zM <| zE (oBk false oNe) <| zZ) ?_
  refine pwp_cond (b := false) (by kernel_rfl) (fun h => by cases h) (fun _ => ?_)
  refine pwp_skip <| pwp_seq <| pwp_sim (wk (l := [(2, (.ref 0 0)), (7, (.ref 2 0)), (102, (vb false))]) (b := [(0, some (bx (encG (RRng.mk (ofQ p) (ofQ q))))), (2, some y2)])) ?_
  have bn7 : QL (sqL (Rat.divInt (rootI (flZ (p * (((((2 ^ k : Nat) : Int) : Int) : Rat) * ((((2 ^ k : Nat) : Int) : Int) : Rat))))) ((2 ^ k : Nat) : Int)) (Rat.divInt (upI (q * (((((2 ^ k : Nat) : Int) : Int) : Rat) * ((((2 ^ k : Nat) : Int) : Int) : Rat)))) ((2 ^ k : Nat) : Int))) 116 := (ql_sqL (ql_mul (k := 116) bn3 bn3 (by decide)) (ql_mul (k := 116) bn4 bn4 (by decide)))
  have bn8 : QL (sqH (Rat.divInt (rootI (flZ (p * (((((2 ^ k : Nat) : Int) : Int) : Rat) * ((((2 ^ k : Nat) : Int) : Int) : Rat))))) ((2 ^ k : Nat) : Int)) (Rat.divInt (upI (q * (((((2 ^ k : Nat) : Int) : Int) : Rat) * ((((2 ^ k : Nat) : Int) : Int) : Rat)))) ((2 ^ k : Nat) : Int))) 116 := (ql_sqH (ql_mul (k := 116) bn3 bn3 (by decide)) (ql_mul (k := 116) bn4 bn4 (by decide)))
  refine kx [(16, (.ref 6 0)), (17, (vi 0))] [(6, some (bx (encG y1)))] (zR (oLa sh28) <| zE (oCl (i_square (Rat.divInt (rootI (flZ (p * (((((2 ^ k : Nat) : Int) : Int) : Rat) * ((((2 ^ k : Nat) : Int) : Int) : Rat))))) ((2 ^ k : Nat) : Int)) (Rat.divInt (upI (q * (((((2 ^ k : Nat) : Int) : Int) : Rat) * ((((2 ^ k : Nat) : Int) : Int) : Rat)))) ((2 ^ k : Nat) : Int)) (ql_up bn3 (by decide)) (ql_up bn4 (by decide)) (rt_valid k hp0_ hpq))) <| zM <| zE oEx <| zE oEx <| zN (oAl 6 ze28 zo28) <| zT (oSt sh28) <| zM <| zZ) ?_
  refine pwp_seq <| kx [(4, (vb true))] [] (zM <| zE (oBk true oEq) <| zM <| zR (oLa sh28) <| zR (oLa sh28) <| zE (oBk true (oCl (i_insideT (RRng.mk (ofQ p) (ofQ q)) p q (qok_up (qok_of hp) (by decide)) (qok_up (qok_of hq) (by decide)) y1 (sqL (Rat.divInt (rootI (flZ (p * (((((2 ^ k : Nat) : Int) : Int) : Rat) * ((((2 ^ k : Nat) : Int) : Int) : Rat))))) ((2 ^ k : Nat) : Int)) (Rat.divInt (upI (q * (((((2 ^ k : Nat) : Int) : Int) : Rat) * ((((2 ^ k : Nat) : Int) : Int) : Rat)))) ((2 ^ k : Nat) : Int))) (sqH (Rat.divInt (rootI (flZ (p * (((((2 ^ k : Nat) : Int) : Int) : Rat) * ((((2 ^ k : Nat) : Int) : Int) : Rat))))) ((2 ^ k : Nat) : Int)) (Rat.divInt (upI (q * (((((2 ^ k : Nat) : Int) : Int) : Rat) * ((((2 ^ k : Nat) : Int) : Int) : Rat)))) ((2 ^ k : Nat) : Int))) (qok_up (qok_of bn7) (by decide)) (qok_up (qok_of bn8) (by decide)) (allV2 hpq (sqL_le _ _)))) (by exact (rt_in k hp0_ hpq))) <| zE oPt <| zM <| zZ) ?_
  refine pwp_ret ⟨_, (.tmp (d := (.val (.bool (true)))) rfl .nil), ?_⟩
  rfl
end Go.Proofs.YtiooafhcpkdhcaaGreatDoor
namespace Go.Fid
set_option linter.unusedVariables false
set_option linter.unusedSimpArgs false
open Go.RowKit (Below)
mutual
inductive Ty where
  | int (k : IntKind)
  | bool
  | sl (E : TypeId) (s : Nat) (e : Ty)
  | st (fs : TyL)
  | ar (n : Nat) (E : TypeId) (fs : TyL)
inductive TyL where
  | nil
  | cons (t : TypeId) (ty : Ty) (r : TyL)
end
mutual
def Ty.size : Ty → Nat
  | .int _ => 1
  | .bool => 1
  | .sl _ _ _ => 1
  | .st fs => fs.size
  | .ar _ _ fs => fs.size
def TyL.size : TyL → Nat
  | .nil => 0
  | .cons _ ty r => ty.size + r.size
end
def fieldsB : List Field → Nat → TyL → Bool
  | [], _, .nil => true
  | f :: l, off, .cons t ty r => Nat.beq f.type t && (Nat.beq f.offset off && fieldsB l (off + ty.size) r)
  | _, _, _ => false
def arFs (E : TypeId) (z : Nat) : Nat → Nat → List Field
  | 0, _ => []
  | n + 1, i => { name := "", type := E, offset := i * z, embedded := false, tag := "", pkgPath := "", byteOffset := 0 } :: arFs E z n (i + 1)
theorem arFs_mem {E : TypeId} {z : Nat} : ∀ {n i : Nat} {f : Field}, f ∈ arFs E z n i → ∃ j, j < n ∧ f.type = E ∧ f.offset = (i + j) * z
  | 0, _, _, h => by cases h
  | n + 1, i, f, h => by
    rcases List.mem_cons.1 h with e | h
    · exact ⟨0, by omega, by rw [e], by rw [e]; rfl⟩
    · obtain ⟨j, h1, h2, h3⟩ := arFs_mem h
      exact ⟨j + 1, by omega, h2, by rw [h3]; congr 1; omega⟩
mutual
def tyB (P : Program) : TypeId → Ty → Bool
  | t, .int k => match P.underlying t with
    | some (.int k') => decide (k' = k)
    | _ => false
  | t, .bool => match P.underlying t with
    | some .bool => true
    | _ => false
  | t, .sl E s e => match P.underlying t with
    | some (.slice E') => Nat.beq E' E && (Nat.beq (P.cellsOf E) s && (Nat.beq e.size s && (Nat.ble 1 s && (Nat.ble 1 (P.bytesOf E) && tyB P E e))))
    | _ => false
  | t, .st fs => match P.underlying t with
    | some (.struct fds) => Nat.beq (P.cellsOf t) fs.size && (fieldsB fds.toList 0 fs && tysB P fs)
    | _ => false
  | t, .ar n E fs => match P.underlying t with
    | some (.array n' E') => Nat.beq n' n && (Nat.beq E' E && (Nat.beq (P.cellsOf t) fs.size && (fieldsB (arFs E (P.cellsOf E) n 0) 0 fs && tysB P fs)))
    | _ => false
def tysB (P : Program) : TyL → Bool
  | .nil => true
  | .cons t ty r => Nat.beq (P.cellsOf t) ty.size && (tyB P t ty && tysB P r)
end
def isSt : Ty → Bool
  | .st _ => true
  | .ar _ _ _ => true
  | _ => false
def mkD (ty : Ty) (ds : List Dat) : Dat := bif isSt ty then .agg ds else ds.headD (.tup [])
mutual
def Sh : Ty → List Dat → Prop
  | .int k, ds => ∃ z, ds = [.val (.int k z)] ∧ (Lit.int k z).wf = true
  | .bool, ds => ∃ b, ds = [.val (.bool b)]
  | .sl E s e, ds => ∃ es : List (List Dat), ds = [.sl E s (es.map (mkD e))] ∧ es.length ≤ 140737488355328 ∧ ∀ x ∈ es, Sh e x
  | .st fs, ds => ShL fs ds
  | .ar _ _ fs, ds => ShL fs ds
def ShL : TyL → List Dat → Prop
  | .nil, ds => ds = []
  | .cons _ ty r, ds => ∃ a b, ds = a ++ b ∧ Sh ty a ∧ ShL r b
end
mutual
theorem Sh.len : ∀ {ty : Ty} {ds : List Dat}, Sh ty ds → ds.length = ty.size
  | .int k, ds, h => by obtain ⟨z, rfl, _⟩ := h; rfl
  | .bool, ds, h => by obtain ⟨b, rfl⟩ := h; rfl
  | .sl E s e, ds, h => by obtain ⟨es, rfl, _⟩ := h; rfl
  | .st fs, ds, h => ShL.len (h : ShL fs ds)
  | .ar _ _ fs, ds, h => ShL.len (h : ShL fs ds)
theorem ShL.len : ∀ {fs : TyL} {ds : List Dat}, ShL fs ds → ds.length = fs.size
  | .nil, ds, h => by have h : ds = [] := h; subst h; rfl
  | .cons t ty r, ds, h => by
    obtain ⟨a, b, rfl, h1, h2⟩ := h
    rw [List.length_append, Sh.len h1, ShL.len h2]; rfl
end
theorem mkD_cells {ty : Ty} {ds : List Dat} (h : Sh ty ds) : (mkD ty ds).cells = ds := by
  cases ty with
  | int k => obtain ⟨z, rfl, _⟩ := h; rfl
  | bool => obtain ⟨b, rfl⟩ := h; rfl
  | sl E s e => obtain ⟨es, rfl, _⟩ := h; rfl
  | st fs => rfl
  | ar n E fs => rfl
def oldD (w : World) : DSet := fun _ g _ => g < w.heap.size
def RepC (w : World) (cs : List Value) (ds : List Dat) : Prop := ds.length = cs.length ∧ (∀ v ∈ cs, v.oneCell' = true) ∧ ∀ (i : Nat) v d, cs[i]? = some v → ds[i]? = some d → Rep w (oldD w) v d
theorem RepC.append {w : World} {cs1 cs2 : List Value} {d1 d2 : List Dat} (h1 : RepC w cs1 d1) (h2 : RepC w cs2 d2) : RepC w (cs1 ++ cs2) (d1 ++ d2) := by
  refine ⟨by rw [List.length_append, List.length_append, h1.1, h2.1], fun v hv => ?_, fun i v d hv hd => ?_⟩
  · rcases List.mem_append.1 hv with h | h
    · exact h1.2.1 v h
    · exact h2.2.1 v h
  · by_cases hi : i < cs1.length
    · rw [List.getElem?_append_left hi] at hv
      rw [List.getElem?_append_left (by rw [h1.1]; exact hi)] at hd
      exact h1.2.2 i v d hv hd
    · rw [List.getElem?_append_right (by omega)] at hv
      rw [List.getElem?_append_right (by rw [h1.1]; omega), h1.1] at hd
      exact h2.2.2 _ v d hv hd
section
variable {H : Type} {enc : TypeId × Value → H} {P : Program} {w : World} {sp : Nat → Bool} {held : Bool}
theorem weightsAll_mem {e : TypeId} : ∀ {l : List (DataW H)} {d : DataW H}, d ∈ l → ∀ {n : Nat}, n ∈ d.weights P e → n ∈ DataW.weightsAll P e l
  | [], _, h, _, _ => by cases h
  | x :: l, d, h, n, hn => by
    simp only [DataW.weightsAll]
    rcases List.mem_cons.1 h with rfl | h
    · exact List.mem_append_left _ hn
    · exact List.mem_append_right _ (weightsAll_mem h hn)
theorem cells_get {a : Addr} {n : Nat} {cs : List Value} (h : w.cells? 0 a n = some cs) : cs.length = n ∧ ∀ i, i < n → w.cell? (a.add i) = cs[i]? := by
  unfold World.cells? at h
  rw [if_pos (Nat.zero_le _)] at h
  refine ⟨by simpa using mapM_some_length h, fun i hi => ?_⟩
  have := mapM_some_get h i i (by simp [hi])
  exact this
theorem drop_take_split {α : Type} {cs : List α} {off n m : Nat} (h : cs.length = off + (n + m)) : cs.drop off = (cs.drop off).take n ++ cs.drop (off + n) := by
  rw [← List.drop_drop, List.take_append_drop]
mutual
theorem bridge : ∀ {ty : Ty} {t : TypeId} {fuel : Nat} {cs : List Value} {x : DataW H × List MemPlace}, tyB P t ty = true → DataW.trod enc P w 0 sp held fuel t cs = some x → (∀ n ∈ x.1.weights P t, n ≤ reachBytes) → ∃ ds, RepC w cs ds ∧ Sh ty ds
  | .int k, t, fuel, cs, x, ht, h, _ => by
    unfold tyB at ht
    split at ht
    · rename_i k' hu
      obtain rfl : k' = k := of_decide_eq_true ht
      obtain ⟨n, rfl, _, hw⟩ := DataW.trod_int hu h
      refine ⟨[.val (.int k' n)], ⟨rfl, by simp [Value.oneCell'], fun i v d hv hd => ?_⟩, n, rfl, hw⟩
      rcases i with _ | i
      · simp at hv hd; subst hv; subst hd; exact .val _
      · simp at hv
    · cases ht
  | .bool, t, fuel, cs, x, ht, h, _ => by
    unfold tyB at ht
    split at ht
    · rename_i hu
      obtain ⟨b, rfl, _⟩ := DataW.trod_bool hu h
      refine ⟨[.val (.bool b)], ⟨rfl, by simp [Value.oneCell'], fun i v d hv hd => ?_⟩, b, rfl⟩
      rcases i with _ | i
      · simp at hv hd; subst hv; subst hd; exact .val _
      · simp at hv
    · cases ht
  | .sl E s e, t, fuel, cs, x, ht, h, hwt => by
    unfold tyB at ht
    split at ht
    · rename_i E' hu
      simp only [Bool.and_eq_true] at ht
      obtain ⟨h1, h2, h3, h4, h6, h5⟩ := ht
      obtain rfl : E' = E := Nat.eq_of_beq_eq_true h1
      have hs : P.cellsOf E' = s := Nat.eq_of_beq_eq_true h2
      have hes : e.size = s := Nat.eq_of_beq_eq_true h3
      have hs1 : 1 ≤ s := Nat.le_of_ble_eq_true h4
      have one : ∀ v : Value, v.oneCell' = true → ∀ d, Rep w (oldD w) v d → RepC w [v] [d] := fun v h1 d h2 => ⟨rfl, by simpa using h1, fun i v' d' hv hd => by
        rcases i with _ | i
        · simp at hv hd; subst hv; subst hd; exact h2
        · simp at hv⟩
      rcases DataW.trod_slice hu h with ⟨rfl, _⟩ | ⟨a, len, cap, elems, rest, n, _, rfl, hx, _, hl, hm, hlen, hel, _⟩
      · exact ⟨[.sl E' s []], one _ rfl _ (rep_nil w _ E' s), [], rfl, Nat.zero_le _, by simp⟩
      · have hws : ∀ n ∈ (elems.length + rest.length) * P.bytesOf E' :: (DataW.weightsAll P E' (elems.map (·.1)) ++ DataW.weightsAll P E' (rest.map (·.1))), n ≤ reachBytes := by
          intro n hn
          refine hwt n ?_
          rw [hx]
          simp only [DataW.weights, hu, List.length_map]
          exact hn
        have hlen47 : len ≤ 140737488355328 := by
          have h7 := hws _ (List.mem_cons_self)
          have h8 : 1 ≤ P.bytesOf E' := Nat.le_of_ble_eq_true h6
          have h9 := Nat.mul_le_mul_left (elems.length + rest.length) h8
          have h10 := reachBytes_lt
          omega
        have each : ∀ i, ∃ d : List Dat × List Value, i < len → (d.2.length = s ∧ (∀ j, j < s → w.cell? ((a.add (i * s)).add j) = d.2[j]?) ∧ RepC w d.2 d.1 ∧ Sh e d.1) := by
          intro i
          by_cases hi : i < len
          · have he := hel i hi
            rw [List.getElem?_eq_getElem (by omega), hs] at he
            cases hc : w.cells? 0 (a.add (i * s)) s with
            | none => rw [hc] at he; cases he
            | some ci =>
              rw [hc] at he
              obtain ⟨g1, g2⟩ := cells_get hc
              have hmem : elems[i] ∈ elems := List.getElem_mem _
              obtain ⟨ds, r1, r2⟩ := bridge (ty := e) h5 he (fun n hn => hws n (by
                refine List.mem_cons_of_mem _ (List.mem_append_left _ ?_)
                exact weightsAll_mem (List.mem_map_of_mem (f := (·.1)) hmem) hn))
              exact ⟨(ds, ci), fun _ => ⟨g1, g2, r1, r2⟩⟩
          · exact ⟨([], []), fun h => absurd h hi⟩
        obtain ⟨F, hF⟩ := Classical.axiomOfChoice each
        have hspot : 0 < len → a = ⟨a.block, a.off, none⟩ ∧ a.block < w.heap.size := by
          intro h0
          obtain ⟨q1, q2, _, _⟩ := hF 0 h0
          have q3 := q2 0 (by omega)
          rw [List.getElem?_eq_getElem (by omega)] at q3
          obtain ⟨b, o, sp'⟩ := a
          cases sp' with
          | none =>
            refine ⟨rfl, ?_⟩
            unfold World.cell? at q3
            split at q3
            · rename_i c _ _ hh
              simpa [Addr.add] using (Array.getElem?_eq_some_iff.1 hh).1
            · cases q3
          | some z =>
            exfalso
            unfold World.cell? at q3
            split at q3
            · simp [Addr.add] at q3
            · cases q3
        have hesl : ∀ d ∈ ((List.range len).map fun i => mkD e (F i).1), d.cells.length = s := by
          intro d hd
          rw [List.mem_map] at hd
          obtain ⟨i, hi, rfl⟩ := hd
          obtain ⟨q1, q2, q3, q4⟩ := hF i (by simpa using hi)
          rw [mkD_cells q4, Sh.len q4, hes]
        have hfl := flat_length hesl
        rw [List.length_map, List.length_range] at hfl
        have hget : ∀ q, q < len * s → ∃ u d, w.cell? (a.add q) = some u ∧ (flat ((List.range len).map fun i => mkD e (F i).1))[q]? = some d ∧ u.oneCell' = true ∧ Rep w (oldD w) u d := by
          intro q hq
          have hi : q / s < len := (Nat.div_lt_iff_lt_mul (by omega)).2 hq
          have hj : q % s < s := Nat.mod_lt _ (by omega)
          have hqe : q / s * s + q % s = q := by rw [Nat.mul_comm]; exact Nat.div_add_mod q s
          obtain ⟨q1, q2, q3, q4⟩ := hF (q / s) hi
          have c1 := q2 (q % s) hj
          have c2 : ((a.add (q / s * s)).add (q % s)) = a.add q := by
            rw [(hspot (Nat.lt_of_le_of_lt (Nat.zero_le _) hi)).1, Addr.add_lit, Addr.add_lit, Addr.add_lit, Nat.add_assoc, hqe]
          have hlen1 : (F (q / s)).1.length = s := by rw [q3.1, q1]
          have c4 : (F (q / s)).1[q % s]? = some ((F (q / s)).1[q % s]'(by rw [hlen1]; exact hj)) := List.getElem?_eq_getElem _
          have c5 : (F (q / s)).2[q % s]? = some ((F (q / s)).2[q % s]'(by rw [q1]; exact hj)) := List.getElem?_eq_getElem _
          rw [c2, c5] at c1
          have c3 := flat_get (es := (List.range len).map fun i => mkD e (F i).1) (i := q / s) (j := q % s) (e := mkD e (F (q / s)).1) hesl (by rw [List.getElem?_map, List.getElem?_range hi]; rfl) hj
          rw [hqe, mkD_cells q4, c4] at c3
          exact ⟨_, _, c1, c3, q3.2.1 _ (List.getElem_mem _), q3.2.2 (q % s) _ _ c5 c4⟩
        refine ⟨[.sl E' s ((List.range len).map fun i => mkD e (F i).1)], one _ rfl _ ?_, (List.range len).map fun i => (F i).1, ?_, by simpa using hlen47, ?_⟩
        · rcases Nat.eq_zero_or_pos len with h0 | h0
          · subst h0
            exact Rep.sl 0 0 (fun _ => undef) (by simp) hl hm (by simp) (fun h => absurd h (Nat.lt_irrefl 0)) (by simp [flat]) (by simp [flat]) (by simp [flat]) (by simp [flat])
          · obtain ⟨ha, hb⟩ := hspot h0
            refine Rep.sl a.block a.off (fun q => (w.cell? (a.add q)).getD undef) (by simp) hl hm hesl (fun _ => congrArg some ha) (fun q hq => hb) (fun q hq => ?_) (fun q hq => ?_) (fun q d hd => ?_)
            · obtain ⟨u, d, g1, _, _, _⟩ := hget q (by omega)
              have e1 : a.add q = ⟨a.block, a.off + q, none⟩ := by rw [ha, Addr.add_lit]
              rw [← e1, g1]; rfl
            · obtain ⟨u, d, g1, _, g3, _⟩ := hget q (by omega)
              rw [g1]; exact g3
            · have hq := (List.getElem?_eq_some_iff.1 hd).1
              obtain ⟨u, d', g1, g2, _, g4⟩ := hget q (by omega)
              rw [hd] at g2
              injection g2 with g2
              subst g2
              rw [g1]; exact g4
        · rw [List.map_map]; rfl
        · intro y hy
          rw [List.mem_map] at hy
          obtain ⟨i, hi, rfl⟩ := hy
          exact (hF i (by simpa using hi)).2.2.2
    · cases ht
  | .st fs, t, fuel, cs, x, ht, h, hwt => by
    unfold tyB at ht
    split at ht
    · rename_i fds hu
      simp only [Bool.and_eq_true] at ht
      obtain ⟨h1, h2, h3⟩ := ht
      obtain ⟨xs, n, _, hx, hl, hxl, hf⟩ := DataW.trod_struct hu h
      have hcl : cs.length = 0 + fs.size := by rw [hl, Nat.eq_of_beq_eq_true h1, Nat.zero_add]
      have key := bridgeL (fs := fs) (off := 0) (cs := cs) (l := fds.toList) (n := n) h2 h3 hcl (fun f hfm => by
        obtain ⟨i, hi⟩ := List.getElem?_of_mem hfm
        have := hf i f (by simpa using hi)
        have hlt : i < xs.length := by
          have := (List.getElem?_eq_some_iff.1 hi).1
          simp at this; omega
        rw [List.getElem?_eq_getElem hlt] at this
        refine ⟨_, this, fun m hm => hwt m ?_⟩
        rw [hx]
        simp only [DataW.weights, hu]
        exact DataW.weights_mem_each (j := i) (by rw [List.getElem?_map, hi]; rfl) (by rw [List.getElem?_map, List.getElem?_eq_getElem hlt]; rfl) m hm)
      rw [List.drop_zero] at key
      exact key
    · cases ht
  | .ar k E fs, t, fuel, cs, x, ht, h, hwt => by
    unfold tyB at ht
    split at ht
    · rename_i k' E' hu
      simp only [Bool.and_eq_true] at ht
      obtain ⟨h0, h1, h4, h2, h3⟩ := ht
      obtain rfl : k' = k := Nat.eq_of_beq_eq_true h0
      obtain rfl : E' = E := Nat.eq_of_beq_eq_true h1
      obtain ⟨xs, n, _, hx, hl, hxl, hf⟩ := DataW.trod_array hu h
      have hcl : cs.length = 0 + fs.size := by rw [hl, Nat.eq_of_beq_eq_true h4, Nat.zero_add]
      have key := bridgeL (fs := fs) (off := 0) (cs := cs) (l := arFs E' (P.cellsOf E') k' 0) (n := n) h2 h3 hcl (fun f hfm => by
        obtain ⟨j, hj, ft, fo⟩ := arFs_mem hfm
        have := hf j hj
        have hlt : j < xs.length := by omega
        rw [List.getElem?_eq_getElem hlt] at this
        refine ⟨xs[j], ?_, fun m hm => hwt m ?_⟩
        · rw [ft, fo, Nat.zero_add]; exact this
        · rw [hx]
          simp only [DataW.weights, hu]
          rw [ft] at hm
          exact weightsAll_mem (List.mem_map_of_mem (f := (·.1)) (List.getElem_mem hlt)) hm)
      rw [List.drop_zero] at key
      exact key
    · cases ht
theorem bridgeL : ∀ {fs : TyL} {l : List Field} {off n : Nat} {cs : List Value}, fieldsB l off fs = true → tysB P fs = true → cs.length = off + fs.size → (∀ f ∈ l, ∃ y, DataW.trod enc P w 0 sp held n f.type ((cs.drop f.offset).take (P.cellsOf f.type)) = some y ∧ ∀ m ∈ y.1.weights P f.type, m ≤ reachBytes) →
    ∃ ds, RepC w (cs.drop off) ds ∧ ShL fs ds
  | .nil, l, off, n, cs, h1, h2, h3, h4 => by
    have : cs.drop off = [] := List.drop_eq_nil_of_le (by rw [h3]; exact Nat.le_refl _)
    rw [this]
    exact ⟨[], ⟨rfl, by simp, by simp⟩, rfl⟩
  | .cons t ty r, l, off, n, cs, h1, h2, h3, h4 => by
    cases l with
    | nil => cases h1
    | cons f l =>
      simp only [fieldsB, Bool.and_eq_true] at h1
      obtain ⟨e1, e2, e3⟩ := h1
      simp only [tysB, Bool.and_eq_true] at h2
      obtain ⟨f1, f2, f3⟩ := h2
      have et := Nat.eq_of_beq_eq_true e1
      have eo := Nat.eq_of_beq_eq_true e2
      have ec := Nat.eq_of_beq_eq_true f1
      obtain ⟨y, hy, hyw⟩ := h4 f (by simp)
      rw [et, eo, ec] at hy
      rw [et] at hyw
      obtain ⟨d1, r1, s1⟩ := bridge (ty := ty) f2 hy hyw
      have h3' : cs.length = off + ty.size + r.size := by rw [h3]; show off + (ty.size + r.size) = _; omega
      obtain ⟨d2, r2, s2⟩ := bridgeL (fs := r) (off := off + ty.size) (cs := cs) (l := l) (n := n) e3 f3 h3' (fun g hg => h4 g (by simp [hg]))
      refine ⟨d1 ++ d2, ?_, d1, d2, rfl, s1, s2⟩
      rw [drop_take_split (cs := cs) (off := off) (n := ty.size) (m := r.size) (by omega)]
      exact r1.append r2
end
theorem open_arg {ty : Ty} {t : TypeId} {v : Value} {d : DataW H} {p : List MemPlace} (hty : tyB P t ty = true) (hv : isSt ty = true → ∃ cs, v = .agg cs) (hv1 : isSt ty = false → v.cells = #[v]) (h : DataW.Trod enc P w 0 sp held t v d p) (hwt : ∀ n ∈ d.weights P t, n ≤ reachBytes) :
    ∃ ds, Rep w (oldD w) v (mkD ty ds) ∧ Sh ty ds := by
  obtain ⟨fuel, hf⟩ := h
  obtain ⟨ds, hr, hs⟩ := bridge (ty := ty) hty hf hwt
  refine ⟨ds, ?_, hs⟩
  cases hst : isSt ty with
  | true =>
    obtain ⟨cs, rfl⟩ := hv hst
    have e : mkD ty ds = .agg ds := by unfold mkD; rw [hst]; rfl
    rw [e]
    have := Rep.agg (w := w) (D := oldD w) (cs := ds) cs.toList hr.1.symm hr.2.1 hr.2.2
    simpa using this
  | false =>
    have hv2 := hv1 hst
    have hc := hr.1
    rw [hv2] at hr
    simp only [Array.toList] at hr
    obtain ⟨h1, h2, h3⟩ := hr
    have hl : ds.length = 1 := by simpa using h1
    obtain ⟨d0, rfl⟩ := List.length_eq_one_iff.1 hl
    have e : mkD ty [d0] = d0 := by unfold mkD; rw [hst]; rfl
    rw [e]
    exact h3 0 v d0 rfl rfl
end
theorem oldD_ok (w : World) : DOk (oldD w) w := fun _ _ _ h => h
end Go.Fid
