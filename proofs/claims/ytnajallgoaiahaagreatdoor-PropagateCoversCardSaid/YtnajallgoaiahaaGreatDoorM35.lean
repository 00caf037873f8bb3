/- Part 35 of a proof: rules, plain facts, and functions walked. -/
import Derived.Test.YtnajallgoaiahaaGreatDoorM34
import Derived.Test.YtnajallgoaiahaaGreatDoorM33
import Derived.Test.YtnajallgoaiahaaGreatDoorM21
import Derived.Test.YtnajallgoaiahaaGreatDoorM19
import Derived.Test.YtnajallgoaiahaaGreatDoorM25
import Derived.Test.YtnajallgoaiahaaGreatDoorM20
import Derived.Test.YtnajallgoaiahaaGreatDoorM11
namespace Go.Proofs.YtnajallgoaiahaaGreatDoor
open Go.Fid
set_option maxRecDepth 4000
set_option linter.unusedVariables false
set_option linter.unusedSimpArgs false
theorem cb151 : callB Tryz.prog 151 = true := by kernel_rfl
theorem d_froot (x : Rat) (hx : QL x 100) (k : Nat) (hk : k ≤ 512) (hx0 : 0 ≤ x) : jW Tryz.prog 151 [(jL (jS x)), (.val (.int .i64 (((k : Nat) : Int))))] (.tup [(jL (jS (Rat.divInt (qE (yV (x * (((((2 ^ k : Nat) : Int) : Int) : Rat) * ((((2 ^ k : Nat) : Int) : Int) : Rat))))) ((2 ^ k : Nat) : Int)))), (jL (jS (Rat.divInt (upI (x * (((((2 ^ k : Nat) : Int) : Int) : Rat) * ((((2 ^ k : Nat) : Int) : Int) : Rat)))) ((2 ^ k : Nat) : Int)))), (.val (.int .i64 (0)))]) := by
 have hp0 : ((2 ^ k : Nat) : Int) ≠ 0 := Int.ne_of_gt (two_pos k)
 let y3 := (kJ (qE (yV (x * (((((2 ^ k : Nat) : Int) : Int) : Rat) * ((((2 ^ k : Nat) : Int) : Int) : Rat))))))
 let y2 := (bx (jL (jS (Rat.divInt (qE (yV (x * (((((2 ^ k : Nat) : Int) : Int) : Rat) * ((((2 ^ k : Nat) : Int) : Int) : Rat))))) ((2 ^ k : Nat) : Int)))))
 let y1 := (jS (((qE (yV (x * (((((2 ^ k : Nat) : Int) : Int) : Rat) * ((((2 ^ k : Nat) : Int) : Int) : Rat))))) * (qE (yV (x * (((((2 ^ k : Nat) : Int) : Int) : Rat) * ((((2 ^ k : Nat) : Int) : Int) : Rat))))) : Int) : Rat))
 refine jM Tryz.func151 rfl cb151 rfl ?_
 show qJ _ _ _ _ ⟨[(0, (.d (jL (jS x)))), (1, (jN k))], []⟩
 refine jB <| kx [(2, (.ref 0 0)), (4, (.ref 1 0)), (5, (.ref 2 0))] [(0, some (bx (jL (jS x)))), (1, some (bx (jL (jJ.mk (jE.mk false []) (jE.mk false []))))), (2, some (bx (jL (jJ.mk (jE.mk false []) (jE.mk false [])))))] (zN (uZ 0) <| zN (qS 1 qO qR) <| zN (qS 2 qO qR) <| zM <| zZ) ?_
 refine jB ?_
 have bn1 : QL (x * ((((2 ^ k : Nat) : Int) : Int) : Rat)) 120 := (qQ (k := 120) hx (dG (k := k) (by omega)) (by decide))
 refine kx [(6, (vi 0)), (7, (.ref 3 0)), (8, (.ref 4 0))] [(3, some (bx (jL (jS (x * ((((2 ^ k : Nat) : Int) : Int) : Rat)))))), (4, some (bx (jQ (kJ ((2 ^ k : Nat) : Int)))))] (zR (kK jO) <| zM <| zE (kG (d_scaled x hx k (by omega))) <| zM <| zE vX <| zE vX <| zE vX <| zN (qS 3 qO qR) <| zN (qS 4 zJ zL) <| zT (qF jO) <| zT (qF kB) <| zM <| zZ) ?_
 refine jB <| jB <| kx [(25, (vb false))] [] (zM <| zE (uX false oNe) <| zM <| zR (kK jO) <| zE (kG (fF (jS x) x (jR (kM hx) (by decide)))) <| zE (uX false vW (by exact decide_eq_false (sgn_nn hx0))) <| zE nA <| zZ) ?_
 refine kO ?_
 refine jF <| jB ?_
 have bn2 : QL (x * (((((2 ^ k : Nat) : Int) : Int) : Rat) * ((((2 ^ k : Nat) : Int) : Int) : Rat))) 140 := (ql_eqz (Eq.symm (Rat.mul_assoc _ _ _)) (qQ (k := 140) bn1 (dG (k := k) (by omega)) (by decide)))
 refine kd [] [(3, some (bx (jL (jS (x * (((((2 ^ k : Nat) : Int) : Int) : Rat) * ((((2 ^ k : Nat) : Int) : Int) : Rat)))))))] mo (wR (kK jO) <| wR (kK kB) <| wE (kG (t_of 1 (by decide) (by decide))) <| wE (oQd (jL (jJ.mk (kJ ((2 ^ k : Nat) : Int)) (kJ 1))) (jL (jS ((((2 ^ k : Nat) : Int) : Int) : Rat))) (fM pl45 qO qR) (by exact rfl)) <| wE (kG (by have h := dL (jS (x * ((((2 ^ k : Nat) : Int) : Int) : Rat))) (jS ((((2 ^ k : Nat) : Int) : Int) : Rat)) (x * ((((2 ^ k : Nat) : Int) : Int) : Rat)) ((((2 ^ k : Nat) : Int) : Int) : Rat) (jR (kM bn1) (by decide)) (jR (kM (dG (k := k) (by omega))) (by decide)); rw [(Rat.mul_assoc _ _ _)] at h; exact h)) <| wT (qF jO) <| wZ) ?_
 refine jB ?_
 have bn3 : yK (kJ (qE (yV (x * (((((2 ^ k : Nat) : Int) : Int) : Rat) * ((((2 ^ k : Nat) : Int) : Int) : Rat)))))) (qE (yV (x * (((((2 ^ k : Nat) : Int) : Int) : Rat) * ((((2 ^ k : Nat) : Int) : Int) : Rat))))) 141 := (iok_root (fl_nn (fE hx0)) (eU (k := 141) bn2 (by decide)))
 refine kx [(9, (.ref 5 0))] [(5, some (bx (jQ y3)))] (zR (kK jO) <| zE (kG (d_floor (x * (((((2 ^ k : Nat) : Int) : Int) : Rat) * ((((2 ^ k : Nat) : Int) : Int) : Rat))) (qu bn2))) <| zE (kG (d_root (yV (x * (((((2 ^ k : Nat) : Int) : Int) : Rat) * ((((2 ^ k : Nat) : Int) : Int) : Rat)))) (gN (eU (k := 141) bn2 (by decide)) (by decide)) (fl_nn (fE hx0)))) <| zM <| zE vX <| zE vX <| zN (qS 5 zJ zL) <| zT (qF kB) <| zM <| zZ) ?_
 refine jB <| kx [(11, (.ref 6 0))] [(6, some (bx (jQ y3)))] (zR (kK kB) <| zN (qS 6 zJ zL) <| zT (qF kB) <| zZ) ?_
 refine jB <| jB <| kd [(47, (vb (decide ((yE (((qE (yV (x * (((((2 ^ k : Nat) : Int) : Int) : Rat) * ((((2 ^ k : Nat) : Int) : Int) : Rat))))) * (qE (yV (x * (((((2 ^ k : Nat) : Int) : Int) : Rat) * ((((2 ^ k : Nat) : Int) : Int) : Rat))))) : Int) : Rat) (x * (((((2 ^ k : Nat) : Int) : Int) : Rat) * ((((2 ^ k : Nat) : Int) : Int) : Rat)))) < ((0 : Nat) : Int)))))] [] mo (wR (kK kB) <| wR (kK kB) <| wE (kG (s_mul bn3 bn3 (by decide) (by decide))) <| wE (kG (t_of 1 (by decide) (by decide))) <| wE (oQd (jL (jJ.mk (kJ ((qE (yV (x * (((((2 ^ k : Nat) : Int) : Int) : Rat) * ((((2 ^ k : Nat) : Int) : Int) : Rat))))) * (qE (yV (x * (((((2 ^ k : Nat) : Int) : Int) : Rat) * ((((2 ^ k : Nat) : Int) : Int) : Rat))))))) (kJ 1))) (jL y1) (fM pl45 qO qR) (by exact rfl)) <| wR (kK jO) <| wE (kG (mI y1 (jS (x * (((((2 ^ k : Nat) : Int) : Int) : Rat) * ((((2 ^ k : Nat) : Int) : Int) : Rat)))) (((qE (yV (x * (((((2 ^ k : Nat) : Int) : Int) : Rat) * ((((2 ^ k : Nat) : Int) : Int) : Rat))))) * (qE (yV (x * (((((2 ^ k : Nat) : Int) : Int) : Rat) * ((((2 ^ k : Nat) : Int) : Int) : Rat))))) : Int) : Rat) (x * (((((2 ^ k : Nat) : Int) : Int) : Rat) * ((((2 ^ k : Nat) : Int) : Int) : Rat))) (jR (kM (yW (z := ((qE (yV (x * (((((2 ^ k : Nat) : Int) : Int) : Rat) * ((((2 ^ k : Nat) : Int) : Int) : Rat))))) * (qE (yV (x * (((((2 ^ k : Nat) : Int) : Int) : Rat) * ((((2 ^ k : Nat) : Int) : Int) : Rat))))))) (n := 282) (yK.ln (zP (k := 282) bn3 bn3 (by decide))) (by decide))) (by decide)) (jR (kM bn2) (by decide)))) <| wE vW <| wZ) ?_
 refine jK rfl (fun h1 => ?_) (fun h1 => ?_)
 ·replace h1 := of_decide_eq_true h1
  have hup := upI_t h1
  have bn4 : yK (kJ ((qE (yV (x * (((((2 ^ k : Nat) : Int) : Int) : Rat) * ((((2 ^ k : Nat) : Int) : Int) : Rat))))) + 1)) ((qE (yV (x * (((((2 ^ k : Nat) : Int) : Int) : Rat) * ((((2 ^ k : Nat) : Int) : Int) : Rat))))) + 1) 142 := (iok_add (k := 142) bn3 (fV (z := 1) (by decide)) (by decide))
  refine kd [] [(6, some (bx (jQ (kJ ((qE (yV (x * (((((2 ^ k : Nat) : Int) : Int) : Rat) * ((((2 ^ k : Nat) : Int) : Int) : Rat))))) + 1)))))] mo (wR (kK kB) <| wE (kG (t_of 1 (by decide) (by decide))) <| wE (kG (s_add bn3 (fV (z := 1) (by decide)) (by decide) (by decide))) <| wT (qF kB) <| wZ) ?_
  refine jB ?_
  have bn5 : QL (Rat.divInt (qE (yV (x * (((((2 ^ k : Nat) : Int) : Int) : Rat) * ((((2 ^ k : Nat) : Int) : Int) : Rat))))) ((2 ^ k : Nat) : Int)) 141 := (xV (n := 141) (Nat.le_trans (yK.ln bn3) (by decide)) (Nat.le_trans (yK.ln (mY (k := k) (by omega))) (by decide)) (by decide))
  have bn6 : QL (Rat.divInt ((qE (yV (x * (((((2 ^ k : Nat) : Int) : Int) : Rat) * ((((2 ^ k : Nat) : Int) : Int) : Rat))))) + 1) ((2 ^ k : Nat) : Int)) 142 := (xV (n := 142) (Nat.le_trans (yK.ln bn4) (by decide)) (Nat.le_trans (yK.ln (mY (k := k) (by omega))) (by decide)) (by decide))
  refine kd [(6, (jN 0))] [(1, some y2), (2, some (bx (jL (jS (Rat.divInt ((qE (yV (x * (((((2 ^ k : Nat) : Int) : Int) : Rat) * ((((2 ^ k : Nat) : Int) : Int) : Rat))))) + 1) ((2 ^ k : Nat) : Int))))))] mo (wR (kK kB) <| wR (kK kB) <| wE (kG (mK y3 (kJ ((2 ^ k : Nat) : Int)) (qE (yV (x * (((((2 ^ k : Nat) : Int) : Int) : Rat) * ((((2 ^ k : Nat) : Int) : Int) : Rat))))) ((2 ^ k : Nat) : Int) (iu bn3) (gN (mY (k := k) (by omega)) (by decide)) (by assumption))) <| wR (kK kB) <| wR (kK kB) <| wE (kG (mK (kJ ((qE (yV (x * (((((2 ^ k : Nat) : Int) : Int) : Rat) * ((((2 ^ k : Nat) : Int) : Int) : Rat))))) + 1)) (kJ ((2 ^ k : Nat) : Int)) ((qE (yV (x * (((((2 ^ k : Nat) : Int) : Int) : Rat) * ((((2 ^ k : Nat) : Int) : Int) : Rat))))) + 1) ((2 ^ k : Nat) : Int) (iu bn4) (gN (mY (k := k) (by omega)) (by decide)) (by assumption))) <| wT (qF jO) <| wT (qF jO) <| wM <| wZ) ?_
  refine jH ⟨_, (qA (cs := (bx (jL (jS (Rat.divInt (qE (yV (x * (((((2 ^ k : Nat) : Int) : Int) : Rat) * ((((2 ^ k : Nat) : Int) : Int) : Rat))))) ((2 ^ k : Nat) : Int)))))) (d := (jL (jS (Rat.divInt (qE (yV (x * (((((2 ^ k : Nat) : Int) : Int) : Rat) * ((((2 ^ k : Nat) : Int) : Int) : Rat))))) ((2 ^ k : Nat) : Int))))) rfl rfl jO rfl rfl (qA (cs := (bx (jL (jS (Rat.divInt ((qE (yV (x * (((((2 ^ k : Nat) : Int) : Int) : Rat) * ((((2 ^ k : Nat) : Int) : Int) : Rat))))) + 1) ((2 ^ k : Nat) : Int)))))) (d := (jL (jS (Rat.divInt ((qE (yV (x * (((((2 ^ k : Nat) : Int) : Int) : Rat) * ((((2 ^ k : Nat) : Int) : Int) : Rat))))) + 1) ((2 ^ k : Nat) : Int))))) rfl rfl jO rfl rfl (.tmp (d := (.val (.int .i64 (((0 : Nat) : Int))))) rfl .nil))), ?_⟩
  rw [hup]; rfl
 ·replace h1 := of_decide_eq_false h1
  have hup := upI_f h1
  refine jF <| jB ?_
  have bn7 : QL (Rat.divInt (qE (yV (x * (((((2 ^ k : Nat) : Int) : Int) : Rat) * ((((2 ^ k : Nat) : Int) : Int) : Rat))))) ((2 ^ k : Nat) : Int)) 141 := (xV (n := 141) (Nat.le_trans (yK.ln bn3) (by decide)) (Nat.le_trans (yK.ln (mY (k := k) (by omega))) (by decide)) (by decide))
  refine kd [(6, (jN 0))] [(1, some y2), (2, some y2)] mo (wR (kK kB) <| wR (kK kB) <| wE (kG (mK y3 (kJ ((2 ^ k : Nat) : Int)) (qE (yV (x * (((((2 ^ k : Nat) : Int) : Int) : Rat) * ((((2 ^ k : Nat) : Int) : Int) : Rat))))) ((2 ^ k : Nat) : Int) (iu bn3) (gN (mY (k := k) (by omega)) (by decide)) (by assumption))) <| wR (kK kB) <| wR (kK kB) <| wE (kG (mK y3 (kJ ((2 ^ k : Nat) : Int)) (qE (yV (x * (((((2 ^ k : Nat) : Int) : Int) : Rat) * ((((2 ^ k : Nat) : Int) : Int) : Rat))))) ((2 ^ k : Nat) : Int) (iu bn3) (gN (mY (k := k) (by omega)) (by decide)) (by assumption))) <| wT (qF jO) <| wT (qF jO) <| wM <| wZ) ?_
  refine jH ⟨_, (qA (cs := (bx (jL (jS (Rat.divInt (qE (yV (x * (((((2 ^ k : Nat) : Int) : Int) : Rat) * ((((2 ^ k : Nat) : Int) : Int) : Rat))))) ((2 ^ k : Nat) : Int)))))) (d := (jL (jS (Rat.divInt (qE (yV (x * (((((2 ^ k : Nat) : Int) : Int) : Rat) * ((((2 ^ k : Nat) : Int) : Int) : Rat))))) ((2 ^ k : Nat) : Int))))) rfl rfl jO rfl rfl (qA (cs := (bx (jL (jS (Rat.divInt (qE (yV (x * (((((2 ^ k : Nat) : Int) : Int) : Rat) * ((((2 ^ k : Nat) : Int) : Int) : Rat))))) ((2 ^ k : Nat) : Int)))))) (d := (jL (jS (Rat.divInt (qE (yV (x * (((((2 ^ k : Nat) : Int) : Int) : Rat) * ((((2 ^ k : Nat) : Int) : Int) : Rat))))) ((2 ^ k : Nat) : Int))))) rfl rfl jO rfl rfl (.tmp (d := (.val (.int .i64 (((0 : Nat) : Int))))) rfl .nil))), ?_⟩
  rw [hup]; rfl
end Go.Proofs.YtnajallgoaiahaaGreatDoor
namespace Go.Proofs.YtnajallgoaiahaaGreatDoor
open Go.Fid
set_option maxRecDepth 4000
set_option linter.unusedVariables false
set_option linter.unusedSimpArgs false
end Go.Proofs.YtnajallgoaiahaaGreatDoor
namespace Go.Proofs.YtnajallgoaiahaaGreatDoor
open Go.Fid
set_option maxRecDepth 4000
set_option linter.unusedVariables false
set_option linter.unusedSimpArgs false
theorem cb91 : callB Tryz.prog 91 = true := by kernel_rfl
theorem di_root (p : Rat) (q : Rat) (hp : QL p 100) (hq : QL q 100) (hpq : p ≤ q) (k : Nat) (hk : k ≤ 512) (hp0_ : 0 ≤ p) : jW Tryz.prog 91 [(jG (kD.mk (jS p) (jS q))), (.val (.int .i64 (((k : Nat) : Int))))] (.tup [(jG (kD.mk (jS (Rat.divInt (qE (yV (p * (((((2 ^ k : Nat) : Int) : Int) : Rat) * ((((2 ^ k : Nat) : Int) : Int) : Rat))))) ((2 ^ k : Nat) : Int))) (jS (Rat.divInt (upI (q * (((((2 ^ k : Nat) : Int) : Int) : Rat) * ((((2 ^ k : Nat) : Int) : Int) : Rat)))) ((2 ^ k : Nat) : Int))))), (.val (.int .i64 (0)))]) := by
 refine jM Tryz.func91 rfl cb91 rfl ?_
 show qJ _ _ _ _ ⟨[(0, (.d (jG (kD.mk (jS p) (jS q))))), (1, (jN k))], []⟩
 refine jB <| kx [(2, (.ref 0 0)), (4, (.ref 1 0))] [(0, some (bx (jG (kD.mk (jS p) (jS q))))), (1, some (bx (jG (kD.mk (jJ.mk (jE.mk false []) (jE.mk false [])) (jJ.mk (jE.mk false []) (jE.mk false []))))))] (zN (uZ 0) <| zN (qS 1 uI uP) <| zM <| zZ) ?_
 refine jB <| jB <| kx [(14, (vb false))] [] (zR (kK kS) <| zE (kG (by have h := i_valid (kD.mk (jS p) (jS q)) (nT (⟨uE (jR (kM hp) (by decide : 100 ≤ 100)), uE (jR (kM hq) (by decide : 100 ≤ 100))⟩) (by decide)); rw [show xB (kD.mk (jS p) (jS q)) = true from yO hpq] at h; exact h)) <| zE cE <| zZ) ?_
 refine kO ?_
 refine jF <| jB <| jB <| kx [(27, (vb false))] [] (zM <| zE (uX false vW (by exact decide_eq_false (show ¬ ((k : Nat) : Int) < 0 by omega))) <| zM <| zM <| zE (uX false yN (by exact decide_eq_false (show ¬ 512 < ((k : Nat) : Int) by omega))) <| zE nA <| zM <| zE (qC xJ) <| zR (kK jO) <| zE (kG (fF (jS p) p (jR (kM hp) (by decide)))) <| zE (uX false vW (by exact decide_eq_false (sgn_nn hp0_))) <| zE nA <| zZ) ?_
 refine kO ?_
 refine jF <| jB ?_
 have bn1 : QL (Rat.divInt (qE (yV (p * (((((2 ^ k : Nat) : Int) : Int) : Rat) * ((((2 ^ k : Nat) : Int) : Int) : Rat))))) ((2 ^ k : Nat) : Int)) 141 := (xV (n := 141) (Nat.le_trans (yK.ln (iok_root (fl_nn (fE hp0_)) (eU (k := 141) (qQ (k := 140) hp (qQ (k := 40) (dG (k := k) (by omega)) (dG (k := k) (by omega)) (by decide)) (by decide)) (by decide)))) (by decide)) (Nat.le_trans (yK.ln (mY (k := k) (by omega))) (by decide)) (by decide))
 have bn2 : QL (Rat.divInt (upI (p * (((((2 ^ k : Nat) : Int) : Int) : Rat) * ((((2 ^ k : Nat) : Int) : Int) : Rat)))) ((2 ^ k : Nat) : Int)) 142 := (xV (n := 142) (Nat.le_trans (yK.ln (iok_upI (k := 142) (fl_nn (fE hp0_)) (eU (k := 141) (qQ (k := 140) hp (qQ (k := 40) (dG (k := k) (by omega)) (dG (k := k) (by omega)) (by decide)) (by decide)) (by decide)) (by decide) (by decide))) (by decide)) (Nat.le_trans (yK.ln (mY (k := k) (by omega))) (by decide)) (by decide))
 refine kx [(6, (.ref 2 0))] [(2, some (bx (jL (jS (Rat.divInt (qE (yV (p * (((((2 ^ k : Nat) : Int) : Int) : Rat) * ((((2 ^ k : Nat) : Int) : Int) : Rat))))) ((2 ^ k : Nat) : Int)))))), (3, none)] (zE (qC xJ) <| zR (kK jO) <| zM <| zE (kG (d_froot p hp k (by omega) hp0_)) <| zM <| zE vX <| zE vX <| zE vX <| zN (qS 2 qO qR) <| zN (qS 3 qO qR) <| zT (qF jO) <| zT (qF jO) <| zM <| zZ) ?_
 refine jB ?_
 have bn3 : QL (Rat.divInt (qE (yV (q * (((((2 ^ k : Nat) : Int) : Int) : Rat) * ((((2 ^ k : Nat) : Int) : Int) : Rat))))) ((2 ^ k : Nat) : Int)) 141 := (xV (n := 141) (Nat.le_trans (yK.ln (iok_root (fl_nn (fE (Rat.le_trans hp0_ hpq))) (eU (k := 141) (qQ (k := 140) hq (qQ (k := 40) (dG (k := k) (by omega)) (dG (k := k) (by omega)) (by decide)) (by decide)) (by decide)))) (by decide)) (Nat.le_trans (yK.ln (mY (k := k) (by omega))) (by decide)) (by decide))
 have bn4 : QL (Rat.divInt (upI (q * (((((2 ^ k : Nat) : Int) : Int) : Rat) * ((((2 ^ k : Nat) : Int) : Int) : Rat)))) ((2 ^ k : Nat) : Int)) 142 := (xV (n := 142) (Nat.le_trans (yK.ln (iok_upI (k := 142) (fl_nn (fE (Rat.le_trans hp0_ hpq))) (eU (k := 141) (qQ (k := 140) hq (qQ (k := 40) (dG (k := k) (by omega)) (dG (k := k) (by omega)) (by decide)) (by decide)) (by decide)) (by decide) (by decide))) (by decide)) (Nat.le_trans (yK.ln (mY (k := k) (by omega))) (by decide)) (by decide))
 refine kx [(10, (.ref 5 0))] [(5, some (bx (jL (jS (Rat.divInt (upI (q * (((((2 ^ k : Nat) : Int) : Int) : Rat) * ((((2 ^ k : Nat) : Int) : Int) : Rat)))) ((2 ^ k : Nat) : Int)))))), (4, none)] (zE (qC xR) <| zR (kK jO) <| zM <| zE (kG (d_froot q hq k (by omega) (Rat.le_trans hp0_ hpq))) <| zM <| zE vX <| zE vX <| zE vX <| zN (qS 4 qO qR) <| zN (qS 5 qO qR) <| zT (qF jO) <| zT (qF jO) <| zM <| zZ) ?_
 refine jB <| kx [(5, (jN 0))] [(1, some (bx (jG (kD.mk (jS (Rat.divInt (qE (yV (p * (((((2 ^ k : Nat) : Int) : Int) : Rat) * ((((2 ^ k : Nat) : Int) : Int) : Rat))))) ((2 ^ k : Nat) : Int))) (jS (Rat.divInt (upI (q * (((((2 ^ k : Nat) : Int) : Int) : Rat) * ((((2 ^ k : Nat) : Int) : Int) : Rat)))) ((2 ^ k : Nat) : Int)))))))] (zR (kK jO) <| zR (kK jO) <| zE (fM pl61 uI uP) <| zT (qF kS) <| zM <| zZ) ?_
 refine jH ⟨_, (qA (cs := (bx (jG (kD.mk (jS (Rat.divInt (qE (yV (p * (((((2 ^ k : Nat) : Int) : Int) : Rat) * ((((2 ^ k : Nat) : Int) : Int) : Rat))))) ((2 ^ k : Nat) : Int))) (jS (Rat.divInt (upI (q * (((((2 ^ k : Nat) : Int) : Int) : Rat) * ((((2 ^ k : Nat) : Int) : Int) : Rat)))) ((2 ^ k : Nat) : Int))))))) (d := (jG (kD.mk (jS (Rat.divInt (qE (yV (p * (((((2 ^ k : Nat) : Int) : Int) : Rat) * ((((2 ^ k : Nat) : Int) : Int) : Rat))))) ((2 ^ k : Nat) : Int))) (jS (Rat.divInt (upI (q * (((((2 ^ k : Nat) : Int) : Int) : Rat) * ((((2 ^ k : Nat) : Int) : Int) : Rat)))) ((2 ^ k : Nat) : Int)))))) rfl rfl kS rfl rfl (.tmp (d := (.val (.int .i64 (((0 : Nat) : Int))))) rfl .nil)), ?_⟩
 rfl
end Go.Proofs.YtnajallgoaiahaaGreatDoor
namespace Go.Proofs.YtnajallgoaiahaaGreatDoor
open Go.Fid
set_option maxRecDepth 4000
set_option linter.unusedVariables false
set_option linter.unusedSimpArgs false
theorem cb14 : callB Tryz.prog 14 = true := by kernel_rfl
theorem cb27 : callB Tryz.prog 27 = true := by kernel_rfl
theorem m_vlist (l : List jJ) (hl : yI 1048576 l) : jW Tryz.prog 14 [(.sl 45 4 (List.map jL l))] (.val (.bool ((cN l)))) := by
 have hb := hl.2
 refine jM Tryz.func14 rfl cb14 rfl ?_
 show qJ _ _ _ _ ⟨[(0, (vl 45 4 jL l))], []⟩
 refine jB <| kx [] [] (zM <| zZ) ?_
 refine jB <| jB <| kx [(3, (jN 0))] [] (zM <| zZ) ?_
 refine jI <| kU (α := Nat) (fun i => ⟨[(0, (vl 45 4 jL l)), (3, (jN i))], []⟩) (fun i => i ≤ l.length ∧ (l.take i).all jX = true) (fun i => l.length - i) 0 wk ⟨Nat.zero_le _, by simp⟩ ?_
 rintro i ⟨hi, hal⟩
 refine jB <| jB <| kx [(7, (vb (decide (((i : Nat) : Int) < ((l.length : Nat) : Int)))))] [] (zM <| zM <| zE (zB uL) <| zE vW <| zZ) ?_
 refine jK rfl (fun h1 => ?_) (fun h1 => ?_)
 ·replace h1 := of_decide_eq_true h1
  refine jF <| jB <| jI <| jB <| kx [(15, (vb (!(jX (l.getD i (jJ.mk (jE.mk false []) (jE.mk false [])))))))] [] (zM <| zM <| zE (hZ uL i (jJ.mk (jE.mk false []) (jE.mk false []))) <| zE (gH jO) <| zE (kG (g_valid (l.getD i (jJ.mk (jE.mk false []) (jE.mk false []))) (kH (l.getD i (jJ.mk (jE.mk false []) (jE.mk false [])))) (jR (xI hl.1 (show i < l.length by omega)) (by decide)))) <| zE cE <| zZ) ?_
  refine jK rfl (fun h2 => ?_) (fun h2 => ?_)
  ·refine jB <| kx [(2, (vb false))] [] (zM <| zZ) ?_
   refine jH ⟨_, (.tmp (d := (.val (.bool (false)))) rfl .nil), ?_⟩
   rw [show cN l = false from all_not (f := jX) (l := l) (i := i) (d := (jJ.mk (jE.mk false []) (jE.mk false []))) (by omega) (by simpa using h2)]; rfl
  ·refine jF <| kx [(3, (jN (i + 1)))] [] (zM <| zE (vJ (i + 1)) <| zM <| zZ) ?_
   exact ⟨(i + 1), wk, ⟨by omega, all_take (d := (jJ.mk (jE.mk false []) (jE.mk false []))) (by omega) hal (by simpa using h2)⟩, (by first | omega | (dsimp only; omega))⟩
 ·replace h1 := of_decide_eq_false h1
  have hie : i = l.length := by omega
  rw [hie, List.take_length] at hal
  refine kP <| jB <| kx [(2, (vb true))] [] (zM <| zZ) ?_
  refine jH ⟨_, (.tmp (d := (.val (.bool (true)))) rfl .nil), ?_⟩
  rw [show cN l = true from hal]; rfl
theorem p_covI (x : jJ) (p : Rat) (hx : yT x p 200) (a : jJ) (q : Rat) (ha : yT a q 200) (b : jJ) (r : Rat) (hb : yT b r 200) (y : jJ) (s : Rat) (hy : yT y s 200) (hv : (((jX x && jX a) && jX b) && jX y) = false) : jW Tryz.prog 27 [(jL x), (jL a), (jL b), (jL y)] (.tup [(.val (.bool (false))), (.val (.int .i64 (((1 : Nat) : Int))))]) := by
 refine jM Tryz.func27 rfl cb27 rfl ?_
 show qJ _ _ _ _ ⟨[(0, (.d (jL x))), (1, (.d (jL a))), (2, (.d (jL b))), (3, (.d (jL y)))], []⟩
 refine jB <| kx [(4, (.ref 0 0)), (5, (.ref 1 0)), (6, (.ref 2 0)), (7, (.ref 3 0))] [(0, some (bx (jL x))), (1, some (bx (jL a))), (2, some (bx (jL b))), (3, some (bx (jL y)))] (zN (uZ 0) <| zN (uZ 1) <| zN (uZ 2) <| zN (uZ 3) <| zM <| zM <| zZ) ?_
 refine jB <| jB <| kx [(17, (vl 45 4 jL [x, a, b, y])), (18, (jN 4)), (19, (jN 0))] [] (zR (kK jO) <| zR (kK jO) <| zR (kK jO) <| zR (kK jO) <| zE (nU uL qO qR) <| zE (oLn uL 4) <| zM <| zZ) ?_
 refine jI <| mF 5 ?_
 refine cT <| jB <| kx [(20, (vb true))] [] (zE (uX true vW) <| zZ) ?_
 refine jB <| qL ?_
 refine jF <| jB <| jI <| jB <| kx [(11, (.ref 4 0))] [(4, some (bx (jL x)))] (zE (oXs uL 0) <| zE (gH jO) <| zN (qS 4 qO qR) <| zT (qF jO) <| zZ) ?_
 refine jB <| kx [(25, (vb (!(jX x))))] [] (zR (kK jO) <| zE (kG (xU x p (jR hx (by decide)))) <| zE cE <| zZ) ?_
 refine jK (b := !(jX x)) rfl (fun h1 => ?_) (fun h1 => ?_)
 ·refine jB <| kx [(8, (vb false)), (9, (jN 1))] [] (zM <| zM <| zZ) ?_
  refine jH ⟨_, (.tmp (d := (.val (.bool (false)))) rfl (.tmp (d := (.val (.int .i64 (((1 : Nat) : Int))))) rfl .nil)), ?_⟩
  rfl
 ·refine jF <| kx [(19, (jN 1))] [] (zE (vJ 1 (hr := by decide)) <| zM <| zZ) ?_
  refine uK (qW.refl _) ?_
  refine jB <| kx [(20, (vb true))] [] (zE (uX true vW) <| zZ) ?_
  refine jB <| qL ?_
  refine jF <| jB <| jI <| jB <| kx [(11, (.ref 5 0))] [(5, some (bx (jL a)))] (zE (oXs uL 1) <| zE (gH jO) <| zN (qS 5 qO qR) <| zT (qF jO) <| zZ) ?_
  refine jB <| kx [(25, (vb (!(jX a))))] [] (zR (kK jO) <| zE (kG (xU a q (jR ha (by decide)))) <| zE cE <| zZ) ?_
  refine jK (b := !(jX a)) rfl (fun h2 => ?_) (fun h2 => ?_)
  ·refine jB <| kx [(8, (vb false)), (9, (jN 1))] [] (zM <| zM <| zZ) ?_
   refine jH ⟨_, (.tmp (d := (.val (.bool (false)))) rfl (.tmp (d := (.val (.int .i64 (((1 : Nat) : Int))))) rfl .nil)), ?_⟩
   rfl
  ·refine jF <| kx [(19, (jN 2))] [] (zE (vJ 2 (hr := by decide)) <| zM <| zZ) ?_
   refine uK (qW.refl _) ?_
   refine jB <| kx [(20, (vb true))] [] (zE (uX true vW) <| zZ) ?_
   refine jB <| qL ?_
   refine jF <| jB <| jI <| jB <| kx [(11, (.ref 6 0))] [(6, some (bx (jL b)))] (zE (oXs uL 2) <| zE (gH jO) <| zN (qS 6 qO qR) <| zT (qF jO) <| zZ) ?_
   refine jB <| kx [(25, (vb (!(jX b))))] [] (zR (kK jO) <| zE (kG (xU b r (jR hb (by decide)))) <| zE cE <| zZ) ?_
   refine jK (b := !(jX b)) rfl (fun h3 => ?_) (fun h3 => ?_)
   ·refine jB <| kx [(8, (vb false)), (9, (jN 1))] [] (zM <| zM <| zZ) ?_
    refine jH ⟨_, (.tmp (d := (.val (.bool (false)))) rfl (.tmp (d := (.val (.int .i64 (((1 : Nat) : Int))))) rfl .nil)), ?_⟩
    rfl
   ·refine jF <| kx [(19, (jN 3))] [] (zE (vJ 3 (hr := by decide)) <| zM <| zZ) ?_
    refine uK (qW.refl _) ?_
    refine jB <| kA (wk (l := [(4, (.ref 0 0)), (5, (.ref 1 0)), (6, (.ref 2 0)), (7, (.ref 3 0)), (17, (vl 45 4 jL [x, a, b, y])), (18, (jN 4)), (19, (jN 3))]) (b := [(0, some (bx (jL x))), (1, some (bx (jL a))), (2, some (bx (jL b))), (3, some (bx (jL y)))])) ?_
    refine kx [(20, (vb true))] [] (zE (uX true vW) <| zZ) ?_
    refine jB <| qL ?_
    refine jF <| jB <| jI <| jB <| kx [(11, (.ref 7 0))] [(7, some (bx (jL y)))] (zE (oXs uL 3) <| zE (gH jO) <| zN (qS 7 qO qR) <| zT (qF jO) <| zZ) ?_
    refine jB <| kx [(25, (vb (!(jX y))))] [] (zR (kK jO) <| zE (kG (xU y s (jR hy (by decide)))) <| zE cE <| zZ) ?_
    refine jK (b := !(jX y)) rfl (fun h4 => ?_) (fun h4 => ?_)
    ·refine jB <| kx [(8, (vb false)), (9, (jN 1))] [] (zM <| zM <| zZ) ?_
     refine jH ⟨_, (.tmp (d := (.val (.bool (false)))) rfl (.tmp (d := (.val (.int .i64 (((1 : Nat) : Int))))) rfl .nil)), ?_⟩
     rfl
    ·exfalso; simp_all
theorem p_covN (x : jJ) (p : Rat) (hx : yT x p 200) (a : jJ) (q : Rat) (ha : yT a q 200) (b : jJ) (r : Rat) (hb : yT b r 200) (y : jJ) (s : Rat) (hy : yT y s 200) (gx : jX x = true) (ga : jX a = true) (gb : jX b = true) (gy : jX y = true) (hn : (decide ((vT q) < 0) || decide ((vT r) < 0)) = true) : jW Tryz.prog 27 [(jL x), (jL a), (jL b), (jL y)] (.tup [(.val (.bool (false))), (.val (.int .i64 (((2 : Nat) : Int))))]) := by
 refine jM Tryz.func27 rfl cb27 rfl ?_
 show qJ _ _ _ _ ⟨[(0, (.d (jL x))), (1, (.d (jL a))), (2, (.d (jL b))), (3, (.d (jL y)))], []⟩
 refine jB <| kx [(4, (.ref 0 0)), (5, (.ref 1 0)), (6, (.ref 2 0)), (7, (.ref 3 0))] [(0, some (bx (jL x))), (1, some (bx (jL a))), (2, some (bx (jL b))), (3, some (bx (jL y)))] (zN (uZ 0) <| zN (uZ 1) <| zN (uZ 2) <| zN (uZ 3) <| zM <| zM <| zZ) ?_
 refine jB <| jB <| kx [(17, (vl 45 4 jL [x, a, b, y])), (18, (jN 4)), (19, (jN 0))] [] (zR (kK jO) <| zR (kK jO) <| zR (kK jO) <| zR (kK jO) <| zE (nU uL qO qR) <| zE (oLn uL 4) <| zM <| zZ) ?_
 refine jI <| mF 5 ?_
 refine cT <| jB <| kx [(20, (vb true))] [] (zE (uX true vW) <| zZ) ?_
 refine jB <| qL ?_
 refine jF <| jB <| jI <| jB <| kx [(11, (.ref 4 0))] [(4, some (bx (jL x)))] (zE (oXs uL 0) <| zE (gH jO) <| zN (qS 4 qO qR) <| zT (qF jO) <| zZ) ?_
 refine jB <| kx [(25, (vb (!(jX x))))] [] (zR (kK jO) <| zE (kG (xU x p (jR hx (by decide)))) <| zE cE <| zZ) ?_
 refine jK rfl (fun h => absurd (Eq.trans (Eq.symm (show (!(jX x)) = false from congrArg (!·) gx)) h) (by decide)) (fun _ => ?_)
 refine jF <| kx [(19, (jN 1))] [] (zE (vJ 1 (hr := by decide)) <| zM <| zZ) ?_
 refine uK (qW.refl _) ?_
 refine jB <| kx [(20, (vb true))] [] (zE (uX true vW) <| zZ) ?_
 refine jB <| qL ?_
 refine jF <| jB <| jI <| jB <| kx [(11, (.ref 5 0))] [(5, some (bx (jL a)))] (zE (oXs uL 1) <| zE (gH jO) <| zN (qS 5 qO qR) <| zT (qF jO) <| zZ) ?_
 refine jB <| kx [(25, (vb (!(jX a))))] [] (zR (kK jO) <| zE (kG (xU a q (jR ha (by decide)))) <| zE cE <| zZ) ?_
 refine jK rfl (fun h => absurd (Eq.trans (Eq.symm (show (!(jX a)) = false from congrArg (!·) ga)) h) (by decide)) (fun _ => ?_)
 refine jF <| kx [(19, (jN 2))] [] (zE (vJ 2 (hr := by decide)) <| zM <| zZ) ?_
 refine uK (qW.refl _) ?_
 refine jB <| kx [(20, (vb true))] [] (zE (uX true vW) <| zZ) ?_
 refine jB <| qL ?_
 refine jF <| jB <| jI <| jB <| kx [(11, (.ref 6 0))] [(6, some (bx (jL b)))] (zE (oXs uL 2) <| zE (gH jO) <| zN (qS 6 qO qR) <| zT (qF jO) <| zZ) ?_
 refine jB <| kx [(25, (vb (!(jX b))))] [] (zR (kK jO) <| zE (kG (xU b r (jR hb (by decide)))) <| zE cE <| zZ) ?_
 refine jK rfl (fun h => absurd (Eq.trans (Eq.symm (show (!(jX b)) = false from congrArg (!·) gb)) h) (by decide)) (fun _ => ?_)
 refine jF <| kx [(19, (jN 3))] [] (zE (vJ 3 (hr := by decide)) <| zM <| zZ) ?_
 refine uK (qW.refl _) ?_
 refine jB <| kA (wk (l := [(4, (.ref 0 0)), (5, (.ref 1 0)), (6, (.ref 2 0)), (7, (.ref 3 0)), (17, (vl 45 4 jL [x, a, b, y])), (18, (jN 4)), (19, (jN 3))]) (b := [(0, some (bx (jL x))), (1, some (bx (jL a))), (2, some (bx (jL b))), (3, some (bx (jL y)))])) ?_
 refine kx [(20, (vb true))] [] (zE (uX true vW) <| zZ) ?_
 refine jB <| qL ?_
 refine jF <| jB <| jI <| jB <| kx [(11, (.ref 7 0))] [(7, some (bx (jL y)))] (zE (oXs uL 3) <| zE (gH jO) <| zN (qS 7 qO qR) <| zT (qF jO) <| zZ) ?_
 refine jB <| kx [(25, (vb (!(jX y))))] [] (zR (kK jO) <| zE (kG (xU y s (jR hy (by decide)))) <| zE cE <| zZ) ?_
 refine jK rfl (fun h => absurd (Eq.trans (Eq.symm (show (!(jX y)) = false from congrArg (!·) gy)) h) (by decide)) (fun _ => ?_)
 refine jF <| kx [(19, (jN 4))] [] (zE (vJ 4 (hr := by decide)) <| zM <| zZ) ?_
 refine uK (qW.refl _) ?_
 refine jB <| kx [(20, (vb false))] [] (zE (uX false vW) <| zZ) ?_
 refine jB <| kO ?_
 refine kP <| jB <| jB <| kx [(34, (vb (decide ((vT q) < ((0 : Nat) : Int)) || decide ((vT r) < ((0 : Nat) : Int)))))] [] ?_ ?_
 ·refine zR (kK jO) <| zE (kG (fF a q (jR ha (by decide)))) <| zE vW <| zE (oV (vb (decide ((vT q) < ((0 : Nat) : Int)))) (uA (by kernel_rfl))) <| ?_
  rcases hb1 : (decide ((vT q) < ((0 : Nat) : Int))) with _ | _
  ·replace hb1 := of_decide_eq_false hb1
   exact zR (kK jO) <| zE (kG (fF b r (jR hb (by decide)))) <| zE vW <| zE oPo <| zZ
  ·replace hb1 := of_decide_eq_true hb1
   exact zK <| zK <| zK <| zE cR <| zZ
 refine jK rfl (fun _ => ?_) (fun h => absurd (Eq.trans (Eq.symm (show ((decide ((vT q) < ((0 : Nat) : Int)) || decide ((vT r) < ((0 : Nat) : Int)))) = true from hn)) h) (by decide))
 refine jB <| kx [(8, (vb false)), (9, (jN 2))] [] (zM <| zM <| zZ) ?_
 refine jH ⟨_, (.tmp (d := (.val (.bool (false)))) rfl (.tmp (d := (.val (.int .i64 (((2 : Nat) : Int))))) rfl .nil)), ?_⟩
 rfl
theorem p_cov (x : jJ) (p : Rat) (hx : yT x p 200) (a : jJ) (q : Rat) (ha : yT a q 200) (b : jJ) (r : Rat) (hb : yT b r 200) (y : jJ) (s : Rat) (hy : yT y s 200) (gx : jX x = true) (ga : jX a = true) (gb : jX b = true) (gy : jX y = true) (hq : ¬ (vT q) < 0) (hr : ¬ (vT r) < 0) : jW Tryz.prog 27 [(jL x), (jL a), (jL b), (jL y)] (.tup [(.val (.bool ((decide ((yE ((s - p) * (s - p)) (q * r)) ≤ 0))))), (.val (.int .i64 (((0 : Nat) : Int))))]) := by
 refine jM Tryz.func27 rfl cb27 rfl ?_
 show qJ _ _ _ _ ⟨[(0, (.d (jL x))), (1, (.d (jL a))), (2, (.d (jL b))), (3, (.d (jL y)))], []⟩
 refine jB <| kx [(4, (.ref 0 0)), (5, (.ref 1 0)), (6, (.ref 2 0)), (7, (.ref 3 0))] [(0, some (bx (jL x))), (1, some (bx (jL a))), (2, some (bx (jL b))), (3, some (bx (jL y)))] (zN (uZ 0) <| zN (uZ 1) <| zN (uZ 2) <| zN (uZ 3) <| zM <| zM <| zZ) ?_
 refine jB <| jB <| kx [(17, (vl 45 4 jL [x, a, b, y])), (18, (jN 4)), (19, (jN 0))] [] (zR (kK jO) <| zR (kK jO) <| zR (kK jO) <| zR (kK jO) <| zE (nU uL qO qR) <| zE (oLn uL 4) <| zM <| zZ) ?_
 refine jI <| mF 5 ?_
 refine cT <| jB <| kx [(20, (vb true))] [] (zE (uX true vW) <| zZ) ?_
 refine jB <| qL ?_
 refine jF <| jB <| jI <| jB <| kx [(11, (.ref 4 0))] [(4, some (bx (jL x)))] (zE (oXs uL 0) <| zE (gH jO) <| zN (qS 4 qO qR) <| zT (qF jO) <| zZ) ?_
 refine jB <| kx [(25, (vb false))] [] (zR (kK jO) <| zE (uX true (kG (xU x p (jR hx (by decide)))) (by exact gx)) <| zE cE <| zZ) ?_
 refine kO ?_
 refine jF <| kx [(19, (jN 1))] [] (zE (vJ 1 (hr := by decide)) <| zM <| zZ) ?_
 refine uK (qW.refl _) ?_
 refine jB <| kx [(20, (vb true))] [] (zE (uX true vW) <| zZ) ?_
 refine jB <| qL ?_
 refine jF <| jB <| jI <| jB <| kx [(11, (.ref 5 0))] [(5, some (bx (jL a)))] (zE (oXs uL 1) <| zE (gH jO) <| zN (qS 5 qO qR) <| zT (qF jO) <| zZ) ?_
 refine jB <| kx [(25, (vb false))] [] (zR (kK jO) <| zE (uX true (kG (xU a q (jR ha (by decide)))) (by exact ga)) <| zE cE <| zZ) ?_
 refine kO ?_
 refine jF <| kx [(19, (jN 2))] [] (zE (vJ 2 (hr := by decide)) <| zM <| zZ) ?_
 refine uK (qW.refl _) ?_
 refine jB <| kx [(20, (vb true))] [] (zE (uX true vW) <| zZ) ?_
 refine jB <| qL ?_
 refine jF <| jB <| jI <| jB <| kx [(11, (.ref 6 0))] [(6, some (bx (jL b)))] (zE (oXs uL 2) <| zE (gH jO) <| zN (qS 6 qO qR) <| zT (qF jO) <| zZ) ?_
 refine jB <| kx [(25, (vb false))] [] (zR (kK jO) <| zE (uX true (kG (xU b r (jR hb (by decide)))) (by exact gb)) <| zE cE <| zZ) ?_
 refine kO ?_
 refine jF <| kx [(19, (jN 3))] [] (zE (vJ 3 (hr := by decide)) <| zM <| zZ) ?_
 refine uK (qW.refl _) ?_
 refine jB <| kA (wk (l := [(4, (.ref 0 0)), (5, (.ref 1 0)), (6, (.ref 2 0)), (7, (.ref 3 0)), (17, (vl 45 4 jL [x, a, b, y])), (18, (jN 4)), (19, (jN 3))]) (b := [(0, some (bx (jL x))), (1, some (bx (jL a))), (2, some (bx (jL b))), (3, some (bx (jL y)))])) ?_
 refine kx [(20, (vb true))] [] (zE (uX true vW) <| zZ) ?_
 refine jB <| qL ?_
 refine jF <| jB <| jI <| jB <| kx [(11, (.ref 7 0))] [(7, some (bx (jL y)))] (zE (oXs uL 3) <| zE (gH jO) <| zN (qS 7 qO qR) <| zT (qF jO) <| zZ) ?_
 refine jB <| kx [(25, (vb false))] [] (zR (kK jO) <| zE (uX true (kG (xU y s (jR hy (by decide)))) (by exact gy)) <| zE cE <| zZ) ?_
 refine kO ?_
 refine jF <| kx [(19, (jN 4))] [] (zE (vJ 4 (hr := by decide)) <| zM <| zZ) ?_
 refine uK (qW.refl _) ?_
 refine jB <| kx [(20, (vb false))] [] (zE (uX false vW) <| zZ) ?_
 refine jB <| kO ?_
 refine kP <| jB <| jB <| kx [(34, (vb false))] [] (zR (kK jO) <| zE (kG (fF a q (jR ha (by decide)))) <| zE (uX false vW (by exact decide_eq_false hq)) <| zM <| zR (kK jO) <| zE (kG (fF b r (jR hb (by decide)))) <| zE (uX false vW (by exact decide_eq_false hr)) <| zE nA <| zZ) ?_
 refine kO ?_
 refine jF <| jB <| kx [(12, (.ref 8 0))] [(8, some (bx (jL (jS (s - p)))))] (zR (kK jO) <| zR (kK jO) <| zE (kG (f_sub y x s p (jR hy (by decide)) (jR hx (by decide)))) <| zN (qS 8 qO qR) <| zT (qF jO) <| zZ) ?_
 refine jB <| kd [(8, (vb (decide ((yE ((s - p) * (s - p)) (r * q)) ≤ ((0 : Nat) : Int))))), (9, (jN 0))] [] mo (wR (kK jO) <| wR (kK jO) <| wE (kG (dL (jS (s - p)) (jS (s - p)) (s - p) (s - p) (jR (kM (mS (k := 401) hy.ql hx.ql (by decide))) (by decide)) (jR (kM (mS (k := 401) hy.ql hx.ql (by decide))) (by decide)))) <| wR (kK jO) <| wR (kK jO) <| wE (kG (dL b a r q (jR hb (by decide)) (jR ha (by decide)))) <| wE (kG (mI (jS ((s - p) * (s - p))) (jS (r * q)) ((s - p) * (s - p)) (r * q) (jR (kM (qQ (k := 802) (mS (k := 401) hy.ql hx.ql (by decide)) (mS (k := 401) hy.ql hx.ql (by decide)) (by decide))) (by decide)) (jR (kM (qQ (k := 400) hb.ql ha.ql (by decide))) (by decide)))) <| wE oLe <| wM <| wM <| wZ) ?_
 refine jH ⟨_, (.tmp (d := (.val (.bool (decide ((yE ((s - p) * (s - p)) (r * q)) ≤ ((0 : Nat) : Int)))))) rfl (.tmp (d := (.val (.int .i64 (((0 : Nat) : Int))))) rfl .nil)), ?_⟩
 rw [Rat.mul_comm q r]; rfl
end Go.Proofs.YtnajallgoaiahaaGreatDoor
set_option linter.unusedVariables false
set_option linter.unusedSimpArgs false
namespace Go.Fid
end Go.Fid
set_option linter.unusedVariables false
set_option linter.unusedSimpArgs false
namespace Go.Fid
end Go.Fid
set_option linter.unusedVariables false
set_option linter.unusedSimpArgs false
namespace Go.Fid
theorem den_pos (u : Rat) : ((u.den : Nat) : Int) ≠ 0 := by have := u.den_pos; omega
end Go.Fid
namespace Go.Proofs.YtnajallgoaiahaaGreatDoor
open Go.Fid
set_option maxRecDepth 4000
set_option linter.unusedVariables false
set_option linter.unusedSimpArgs false
theorem cb148 : callB Tryz.prog 148 = true := by kernel_rfl
theorem cb228 : callB Tryz.prog 228 = true := by kernel_rfl
theorem f_counted (x : jE) (a : Int) (hx : yK x a 68719476736) : jW Tryz.prog 228 [(jQ x)] (jQ (kJ a)) := by
 refine jM Tryz.func228 rfl cb228 rfl ?_
 show qJ _ _ _ _ ⟨[(0, (.d (jQ x)))], []⟩
 refine jB <| kx [(1, (.ref 0 0)), (2, (.ref 1 0))] [(0, some (bx (jQ x))), (1, some (bx (jQ (jE.mk false []))))] (zN (uZ 0) <| zN (qS 1 zJ zL) <| zZ) ?_
 refine jB <| jB <| kx [(4, (vb (uO x)))] [] (zR (kK kB) <| zE (kG (t_valid x (Nat.le_trans hx.l (by decide)))) <| zZ) ?_
 refine jK (b := (uO x)) rfl (fun h1 => ?_) (fun h1 => ?_)
 ·refine jB <| kx [] [(1, some (bx (jQ x)))] (zR (kK kB) <| zT (qF kB) <| zZ) ?_
  refine jH ⟨_, (qA (cs := (bx (jQ x))) (d := (jQ x)) rfl rfl kB rfl rfl .nil), ?_⟩
  rw [← hx.v, ofZ_toZ h1]; rfl
 ·refine jF <| jB <| kx [] [(1, some (bx (jQ (kJ 0))))] (zE (kG (t_of 0 (by decide) (by decide))) <| zT (qF kB) <| zZ) ?_
  refine jH ⟨_, (qA (cs := (bx (jQ (kJ 0)))) (d := (jQ (kJ 0))) rfl rfl kB rfl rfl .nil), ?_⟩
  rw [← hx.v, toZ_bad h1, ofZ_zero]; rfl
theorem f_newO (num : jE) (a : Int) (fG : yK num a 68719476736) (den : jE) (b : Int) (dT : yK den b 68719476736) (hb : b ≠ 0) : jW Tryz.prog 148 [(jQ num), (jQ den)] (.tup [(jL (jS (Rat.divInt a b))), (.val (.int .i64 (0)))]) := by
 refine jM Tryz.func148 rfl cb148 rfl ?_
 show qJ _ _ _ _ ⟨[(0, (.d (jQ num))), (1, (.d (jQ den)))], []⟩
 refine jB <| kx [(2, (.ref 0 0)), (3, (.ref 1 0)), (4, (.ref 2 0))] [(0, some (bx (jQ num))), (1, some (bx (jQ den))), (2, some (bx (jL (jJ.mk (jE.mk false []) (jE.mk false [])))))] (zN (uZ 0) <| zN (uZ 1) <| zN (qS 2 qO qR) <| zM <| zZ) ?_
 refine jB <| kd [] [(0, some (bx (jQ (kJ a)))), (1, some (bx (jQ (kJ b))))] mo (wR (kK kB) <| wE (kG (f_counted num a fG)) <| wR (kK kB) <| wE (kG (f_counted den b dT)) <| wT (qF kB) <| wT (qF kB) <| wZ) ?_
 refine jB <| jB <| kx [(12, (vb false))] [] (zR (kK kB) <| zE (kG (s_sign (nR (yK.ln dT)) (by decide))) <| zE (uX false gJ (by exact beq_eq_false_iff_ne.2 (signI_ne hb))) <| zZ) ?_
 refine kO ?_
 refine jF <| jB <| kx [(5, (jN 0))] [(2, some (bx (jL (jS (Rat.divInt a b)))))] (zR (kK kB) <| zR (kK kB) <| zE (kG (mK (kJ a) (kJ b) a b (nR (yK.ln fG)) (nR (yK.ln dT)) (by assumption))) <| zT (qF jO) <| zM <| zZ) ?_
 refine jH ⟨_, (qA (cs := (bx (jL (jS (Rat.divInt a b))))) (d := (jL (jS (Rat.divInt a b)))) rfl rfl jO rfl rfl (.tmp (d := (.val (.int .i64 (0)))) rfl .nil)), ?_⟩
 rfl
end Go.Proofs.YtnajallgoaiahaaGreatDoor
