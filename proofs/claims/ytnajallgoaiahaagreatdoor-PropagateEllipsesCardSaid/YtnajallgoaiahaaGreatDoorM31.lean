/- Part 31 of a proof: rules, plain facts, and functions walked. -/
import Derived.Test.YtnajallgoaiahaaGreatDoorM30
import Derived.Test.YtnajallgoaiahaaGreatDoorM29
namespace Go.Proofs.YtnajallgoaiahaaGreatDoor
open Go.Fid
set_option maxRecDepth 4000
set_option linter.unusedVariables false
set_option linter.unusedSimpArgs false
theorem cb151 : callB Tryz.prog 151 = true := by kernel_rfl
theorem d_froot (x : Rat) (hx : QL x 100) (k : Nat) (hk : k ≤ 512) (hx0 : 0 ≤ x) : jV Tryz.prog 151 [(jK (jT x)), (.val (.int .i64 (((k : Nat) : Int))))] (.tup [(jK (jT (Rat.divInt (kH (vF (x * (((((2 ^ k : Nat) : Int) : Int) : Rat) * ((((2 ^ k : Nat) : Int) : Int) : Rat))))) ((2 ^ k : Nat) : Int)))), (jK (jT (Rat.divInt (mW (x * (((((2 ^ k : Nat) : Int) : Int) : Rat) * ((((2 ^ k : Nat) : Int) : Int) : Rat)))) ((2 ^ k : Nat) : Int)))), (.val (.int .i64 (0)))]) := by
 have hp0 : ((2 ^ k : Nat) : Int) ≠ 0 := Int.ne_of_gt (two_pos k)
 let y3 := (jZ (kH (vF (x * (((((2 ^ k : Nat) : Int) : Int) : Rat) * ((((2 ^ k : Nat) : Int) : Int) : Rat))))))
 let y2 := (bx (jK (jT (Rat.divInt (kH (vF (x * (((((2 ^ k : Nat) : Int) : Int) : Rat) * ((((2 ^ k : Nat) : Int) : Int) : Rat))))) ((2 ^ k : Nat) : Int)))))
 let y1 := (jT (((kH (vF (x * (((((2 ^ k : Nat) : Int) : Int) : Rat) * ((((2 ^ k : Nat) : Int) : Int) : Rat))))) * (kH (vF (x * (((((2 ^ k : Nat) : Int) : Int) : Rat) * ((((2 ^ k : Nat) : Int) : Int) : Rat))))) : Int) : Rat))
 refine jJ Tryz.func151 rfl cb151 rfl ?_
 show qI _ _ _ _ ⟨[(0, (.d (jK (jT x)))), (1, (jW k))], []⟩
 refine jB <| kx [(2, (.ref 0 0)), (4, (.ref 1 0)), (5, (.ref 2 0))] [(0, some (bx (jK (jT x)))), (1, some (bx (jK (jE.mk (jD.mk false []) (jD.mk false []))))), (2, some (bx (jK (jE.mk (jD.mk false []) (jD.mk false [])))))] (zN (vL 0) <| zN (qS 1 qX uA) <| zN (qS 2 qX uA) <| zM <| zZ) ?_
 refine jB ?_
 have bn1 : QL (x * ((((2 ^ k : Nat) : Int) : Int) : Rat)) 120 := (kM (k := 120) hx (vX (k := k) (by omega)) (by decide))
 refine kx [(6, (vi 0)), (7, (.ref 3 0)), (8, (.ref 4 0))] [(3, some (bx (jK (jT (x * ((((2 ^ k : Nat) : Int) : Int) : Rat)))))), (4, some (bx (jM (jZ ((2 ^ k : Nat) : Int)))))] (zR (kR jR) <| zM <| zE (jX (d_scaled x hx k (by omega))) <| zM <| zE uZ <| zE uZ <| zE uZ <| zN (qS 3 qX uA) <| zN (qS 4 vP vQ) <| zT (qC jR) <| zT (qC jS) <| zM <| zZ) ?_
 refine jB <| jB <| kx [(25, (vb false))] [] (zM <| zE (xI false cS) <| zM <| zR (kR jR) <| zE (jX (f_sign (jT x) x (jP (kA hx) (by decide)))) <| zE (xI false xK (by exact decide_eq_false (sgn_nn hx0))) <| zE yI <| zZ) ?_
 refine qA ?_
 refine jF <| jB ?_
 have bn2 : QL (x * (((((2 ^ k : Nat) : Int) : Int) : Rat) * ((((2 ^ k : Nat) : Int) : Int) : Rat))) 140 := (ql_eqz (Eq.symm (Rat.mul_assoc _ _ _)) (kM (k := 140) bn1 (vX (k := k) (by omega)) (by decide)))
 refine kd [] [(3, some (bx (jK (jT (x * (((((2 ^ k : Nat) : Int) : Int) : Rat) * ((((2 ^ k : Nat) : Int) : Int) : Rat)))))))] mo (wR (kR jR) <| wR (kR jS) <| wE (jX (t_of 1 (by decide) (by decide))) <| wE (oQd (jK (jE.mk (jZ ((2 ^ k : Nat) : Int)) (jZ 1))) (jK (jT ((((2 ^ k : Nat) : Int) : Int) : Rat))) (eJ pl45 qX uA) (by exact rfl)) <| wE (jX (by have h := eC (jT (x * ((((2 ^ k : Nat) : Int) : Int) : Rat))) (jT ((((2 ^ k : Nat) : Int) : Int) : Rat)) (x * ((((2 ^ k : Nat) : Int) : Int) : Rat)) ((((2 ^ k : Nat) : Int) : Int) : Rat) (jP (kA bn1) (by decide)) (jP (kA (vX (k := k) (by omega))) (by decide)); rw [(Rat.mul_assoc _ _ _)] at h; exact h)) <| wT (qC jR) <| wZ) ?_
 refine jB ?_
 have bn3 : vO (jZ (kH (vF (x * (((((2 ^ k : Nat) : Int) : Int) : Rat) * ((((2 ^ k : Nat) : Int) : Int) : Rat)))))) (kH (vF (x * (((((2 ^ k : Nat) : Int) : Int) : Rat) * ((((2 ^ k : Nat) : Int) : Int) : Rat))))) 141 := (yO (gG (xJ hx0)) (zL (k := 141) bn2 (by decide)))
 refine kx [(9, (.ref 5 0))] [(5, some (bx (jM y3)))] (zR (kR jR) <| zE (jX (d_floor (x * (((((2 ^ k : Nat) : Int) : Int) : Rat) * ((((2 ^ k : Nat) : Int) : Int) : Rat))) (qu bn2))) <| zE (jX (d_root (vF (x * (((((2 ^ k : Nat) : Int) : Int) : Rat) * ((((2 ^ k : Nat) : Int) : Int) : Rat)))) (yS (zL (k := 141) bn2 (by decide)) (by decide)) (gG (xJ hx0)))) <| zM <| zE uZ <| zE uZ <| zN (qS 5 vP vQ) <| zT (qC jS) <| zM <| zZ) ?_
 refine jB <| kx [(11, (.ref 6 0))] [(6, some (bx (jM y3)))] (zR (kR jS) <| zN (qS 6 vP vQ) <| zT (qC jS) <| zZ) ?_
 refine jB <| jB <| kd [(47, (vb (decide ((xC (((kH (vF (x * (((((2 ^ k : Nat) : Int) : Int) : Rat) * ((((2 ^ k : Nat) : Int) : Int) : Rat))))) * (kH (vF (x * (((((2 ^ k : Nat) : Int) : Int) : Rat) * ((((2 ^ k : Nat) : Int) : Int) : Rat))))) : Int) : Rat) (x * (((((2 ^ k : Nat) : Int) : Int) : Rat) * ((((2 ^ k : Nat) : Int) : Int) : Rat)))) < ((0 : Nat) : Int)))))] [] mo (wR (kR jS) <| wR (kR jS) <| wE (jX (s_mul bn3 bn3 (by decide) (by decide))) <| wE (jX (t_of 1 (by decide) (by decide))) <| wE (oQd (jK (jE.mk (jZ ((kH (vF (x * (((((2 ^ k : Nat) : Int) : Int) : Rat) * ((((2 ^ k : Nat) : Int) : Int) : Rat))))) * (kH (vF (x * (((((2 ^ k : Nat) : Int) : Int) : Rat) * ((((2 ^ k : Nat) : Int) : Int) : Rat))))))) (jZ 1))) (jK y1) (eJ pl45 qX uA) (by exact rfl)) <| wR (kR jR) <| wE (jX (mG y1 (jT (x * (((((2 ^ k : Nat) : Int) : Int) : Rat) * ((((2 ^ k : Nat) : Int) : Int) : Rat)))) (((kH (vF (x * (((((2 ^ k : Nat) : Int) : Int) : Rat) * ((((2 ^ k : Nat) : Int) : Int) : Rat))))) * (kH (vF (x * (((((2 ^ k : Nat) : Int) : Int) : Rat) * ((((2 ^ k : Nat) : Int) : Int) : Rat))))) : Int) : Rat) (x * (((((2 ^ k : Nat) : Int) : Int) : Rat) * ((((2 ^ k : Nat) : Int) : Int) : Rat))) (jP (kA (yR (z := ((kH (vF (x * (((((2 ^ k : Nat) : Int) : Int) : Rat) * ((((2 ^ k : Nat) : Int) : Int) : Rat))))) * (kH (vF (x * (((((2 ^ k : Nat) : Int) : Int) : Rat) * ((((2 ^ k : Nat) : Int) : Int) : Rat))))))) (n := 282) (vO.ln (zV (k := 282) bn3 bn3 (by decide))) (by decide))) (by decide)) (jP (kA bn2) (by decide)))) <| wE xK <| wZ) ?_
 refine jH rfl (fun h1 => ?_) (fun h1 => ?_)
 ·replace h1 := of_decide_eq_true h1
  have hup := upI_t h1
  have bn4 : vO (jZ ((kH (vF (x * (((((2 ^ k : Nat) : Int) : Int) : Rat) * ((((2 ^ k : Nat) : Int) : Int) : Rat))))) + 1)) ((kH (vF (x * (((((2 ^ k : Nat) : Int) : Int) : Rat) * ((((2 ^ k : Nat) : Int) : Int) : Rat))))) + 1) 142 := (gU (k := 142) bn3 (uU (z := 1) (by decide)) (by decide))
  refine kd [] [(6, some (bx (jM (jZ ((kH (vF (x * (((((2 ^ k : Nat) : Int) : Int) : Rat) * ((((2 ^ k : Nat) : Int) : Int) : Rat))))) + 1)))))] mo (wR (kR jS) <| wE (jX (t_of 1 (by decide) (by decide))) <| wE (jX (s_add bn3 (uU (z := 1) (by decide)) (by decide) (by decide))) <| wT (qC jS) <| wZ) ?_
  refine jB ?_
  have bn5 : QL (Rat.divInt (kH (vF (x * (((((2 ^ k : Nat) : Int) : Int) : Rat) * ((((2 ^ k : Nat) : Int) : Int) : Rat))))) ((2 ^ k : Nat) : Int)) 141 := (qB (n := 141) (Nat.le_trans (vO.ln bn3) (by decide)) (Nat.le_trans (vO.ln (xH (k := k) (by omega))) (by decide)) (by decide))
  have bn6 : QL (Rat.divInt ((kH (vF (x * (((((2 ^ k : Nat) : Int) : Int) : Rat) * ((((2 ^ k : Nat) : Int) : Int) : Rat))))) + 1) ((2 ^ k : Nat) : Int)) 142 := (qB (n := 142) (Nat.le_trans (vO.ln bn4) (by decide)) (Nat.le_trans (vO.ln (xH (k := k) (by omega))) (by decide)) (by decide))
  refine kd [(6, (jW 0))] [(1, some y2), (2, some (bx (jK (jT (Rat.divInt ((kH (vF (x * (((((2 ^ k : Nat) : Int) : Int) : Rat) * ((((2 ^ k : Nat) : Int) : Int) : Rat))))) + 1) ((2 ^ k : Nat) : Int))))))] mo (wR (kR jS) <| wR (kR jS) <| wE (jX (mZ y3 (jZ ((2 ^ k : Nat) : Int)) (kH (vF (x * (((((2 ^ k : Nat) : Int) : Int) : Rat) * ((((2 ^ k : Nat) : Int) : Int) : Rat))))) ((2 ^ k : Nat) : Int) (iu bn3) (yS (xH (k := k) (by omega)) (by decide)) (by assumption))) <| wR (kR jS) <| wR (kR jS) <| wE (jX (mZ (jZ ((kH (vF (x * (((((2 ^ k : Nat) : Int) : Int) : Rat) * ((((2 ^ k : Nat) : Int) : Int) : Rat))))) + 1)) (jZ ((2 ^ k : Nat) : Int)) ((kH (vF (x * (((((2 ^ k : Nat) : Int) : Int) : Rat) * ((((2 ^ k : Nat) : Int) : Int) : Rat))))) + 1) ((2 ^ k : Nat) : Int) (iu bn4) (yS (xH (k := k) (by omega)) (by decide)) (by assumption))) <| wT (qC jR) <| wT (qC jR) <| wM <| wZ) ?_
  refine jG ⟨_, (kU (cs := (bx (jK (jT (Rat.divInt (kH (vF (x * (((((2 ^ k : Nat) : Int) : Int) : Rat) * ((((2 ^ k : Nat) : Int) : Int) : Rat))))) ((2 ^ k : Nat) : Int)))))) (d := (jK (jT (Rat.divInt (kH (vF (x * (((((2 ^ k : Nat) : Int) : Int) : Rat) * ((((2 ^ k : Nat) : Int) : Int) : Rat))))) ((2 ^ k : Nat) : Int))))) rfl rfl jR rfl rfl (kU (cs := (bx (jK (jT (Rat.divInt ((kH (vF (x * (((((2 ^ k : Nat) : Int) : Int) : Rat) * ((((2 ^ k : Nat) : Int) : Int) : Rat))))) + 1) ((2 ^ k : Nat) : Int)))))) (d := (jK (jT (Rat.divInt ((kH (vF (x * (((((2 ^ k : Nat) : Int) : Int) : Rat) * ((((2 ^ k : Nat) : Int) : Int) : Rat))))) + 1) ((2 ^ k : Nat) : Int))))) rfl rfl jR rfl rfl (.tmp (d := (.val (.int .i64 (((0 : Nat) : Int))))) rfl .nil))), ?_⟩
  rw [hup]; rfl
 ·replace h1 := of_decide_eq_false h1
  have hup := upI_f h1
  refine jF <| jB ?_
  have bn7 : QL (Rat.divInt (kH (vF (x * (((((2 ^ k : Nat) : Int) : Int) : Rat) * ((((2 ^ k : Nat) : Int) : Int) : Rat))))) ((2 ^ k : Nat) : Int)) 141 := (qB (n := 141) (Nat.le_trans (vO.ln bn3) (by decide)) (Nat.le_trans (vO.ln (xH (k := k) (by omega))) (by decide)) (by decide))
  refine kd [(6, (jW 0))] [(1, some y2), (2, some y2)] mo (wR (kR jS) <| wR (kR jS) <| wE (jX (mZ y3 (jZ ((2 ^ k : Nat) : Int)) (kH (vF (x * (((((2 ^ k : Nat) : Int) : Int) : Rat) * ((((2 ^ k : Nat) : Int) : Int) : Rat))))) ((2 ^ k : Nat) : Int) (iu bn3) (yS (xH (k := k) (by omega)) (by decide)) (by assumption))) <| wR (kR jS) <| wR (kR jS) <| wE (jX (mZ y3 (jZ ((2 ^ k : Nat) : Int)) (kH (vF (x * (((((2 ^ k : Nat) : Int) : Int) : Rat) * ((((2 ^ k : Nat) : Int) : Int) : Rat))))) ((2 ^ k : Nat) : Int) (iu bn3) (yS (xH (k := k) (by omega)) (by decide)) (by assumption))) <| wT (qC jR) <| wT (qC jR) <| wM <| wZ) ?_
  refine jG ⟨_, (kU (cs := (bx (jK (jT (Rat.divInt (kH (vF (x * (((((2 ^ k : Nat) : Int) : Int) : Rat) * ((((2 ^ k : Nat) : Int) : Int) : Rat))))) ((2 ^ k : Nat) : Int)))))) (d := (jK (jT (Rat.divInt (kH (vF (x * (((((2 ^ k : Nat) : Int) : Int) : Rat) * ((((2 ^ k : Nat) : Int) : Int) : Rat))))) ((2 ^ k : Nat) : Int))))) rfl rfl jR rfl rfl (kU (cs := (bx (jK (jT (Rat.divInt (kH (vF (x * (((((2 ^ k : Nat) : Int) : Int) : Rat) * ((((2 ^ k : Nat) : Int) : Int) : Rat))))) ((2 ^ k : Nat) : Int)))))) (d := (jK (jT (Rat.divInt (kH (vF (x * (((((2 ^ k : Nat) : Int) : Int) : Rat) * ((((2 ^ k : Nat) : Int) : Int) : Rat))))) ((2 ^ k : Nat) : Int))))) rfl rfl jR rfl rfl (.tmp (d := (.val (.int .i64 (((0 : Nat) : Int))))) rfl .nil))), ?_⟩
  rw [hup]; rfl
end Go.Proofs.YtnajallgoaiahaaGreatDoor
namespace Go.Proofs.YtnajallgoaiahaaGreatDoor
open Go.Fid
set_option maxRecDepth 4000
set_option linter.unusedVariables false
set_option linter.unusedSimpArgs false
theorem cb97 : callB Tryz.prog 97 = true := by kernel_rfl
theorem cb157 : callB Tryz.prog 157 = true := by kernel_rfl
theorem cb158 : callB Tryz.prog 158 = true := by kernel_rfl
theorem cb161 : callB Tryz.prog 161 = true := by kernel_rfl
theorem dr_plc (k : Nat) (hk : k ≤ 512) : jV Tryz.prog 157 [(.val (.int .i64 (((k : Nat) : Int))))] (.val (.bool (true))) := by
 refine jJ Tryz.func157 rfl cb157 rfl ?_
 show qI _ _ _ _ ⟨[(0, (jW k))], []⟩
 refine jB <| kx [] [] (zM <| zZ) ?_
 refine jB <| kx [(2, (vb true))] [] (zM <| zE (xI true oGe (by exact decide_eq_true (show 0 ≤ ((k : Nat) : Int) by omega))) <| zM <| zM <| zE (xI true oLe (by exact decide_eq_true (show ((k : Nat) : Int) ≤ 512 by omega))) <| zE vY <| zM <| zZ) ?_
 refine jG ⟨_, (.tmp (d := (.val (.bool (true)))) rfl .nil), ?_⟩
 rfl
theorem dr_pow (k : Nat) (hk : k ≤ 512) : jV Tryz.prog 158 [(.val (.int .i64 (((k : Nat) : Int))))] (jK (jT ((((2 ^ k : Nat) : Int) : Int) : Rat))) := by
 refine jJ Tryz.func158 rfl cb158 rfl ?_
 show qI _ _ _ _ ⟨[(0, (jW k))], []⟩
 refine jB <| kx [(2, (.ref 0 0))] [(0, some (bx (jK (jE.mk (jD.mk false []) (jD.mk false [])))))] (zN (qS 0 qX uA) <| zZ) ?_
 refine jB <| kx [(3, (.ref 1 0))] [(1, some (bx (jM (jZ ((2 ^ k : Nat) : Int)))))] (zE (jX (cP 2 (by decide) (by decide))) <| zM <| zE (jX (d_rpow k (by omega))) <| zM <| zE uZ <| zE uZ <| zN (qS 1 vP vQ) <| zT (qC jS) <| zM <| zZ) ?_
 refine jB <| kd [] [(0, some (bx (jK (jT ((((2 ^ k : Nat) : Int) : Int) : Rat)))))] mo (wR (kR jS) <| wE (jX (cP 1 (by decide) (by decide))) <| wE (oQd (jK (jE.mk (jZ ((2 ^ k : Nat) : Int)) (jZ 1))) (jK (jT ((((2 ^ k : Nat) : Int) : Int) : Rat))) (eJ pl45 qX uA) (by exact rfl)) <| wT (qC jR) <| wZ) ?_
 refine jG ⟨_, (kU (cs := (bx (jK (jT ((((2 ^ k : Nat) : Int) : Int) : Rat))))) (d := (jK (jT ((((2 ^ k : Nat) : Int) : Int) : Rat)))) rfl rfl jR rfl rfl .nil), ?_⟩
 rfl
theorem dr_part (z : Int) (hz : vO (jZ z) z 300) (k : Nat) (hk : k ≤ 512) : jV Tryz.prog 161 [(jM (jZ z)), (.val (.int .i64 (((k : Nat) : Int))))] (jK (jT (Rat.divInt z ((2 ^ k : Nat) : Int)))) := by
 have hp0 : ((2 ^ k : Nat) : Int) ≠ 0 := Int.ne_of_gt (two_pos k)
 refine jJ Tryz.func161 rfl cb161 rfl ?_
 show qI _ _ _ _ ⟨[(0, (.d (jM (jZ z)))), (1, (jW k))], []⟩
 refine jB <| kx [(2, (.ref 0 0)), (4, (.ref 1 0))] [(0, some (bx (jM (jZ z)))), (1, some (bx (jK (jE.mk (jD.mk false []) (jD.mk false [])))))] (zN (vL 0) <| zN (qS 1 qX uA) <| zZ) ?_
 refine jB ?_
 have bn1 : QL (Rat.divInt z ((2 ^ k : Nat) : Int)) 300 := (qB (n := 300) (Nat.le_trans (vO.ln hz) (by decide)) (Nat.le_trans (vO.ln (xH (k := k) (by omega))) (by decide)) (by decide))
 refine kd [] [(1, some (bx (jK (jT (Rat.divInt z ((2 ^ k : Nat) : Int))))))] mo (wR (kR jS) <| wM <| wE (jX (dr_pow k (by omega))) <| wE (oQd (jM ((jT ((((2 ^ k : Nat) : Int) : Int) : Rat)).num)) (jM (jZ ((2 ^ k : Nat) : Int))) (oFv ft45_0 jS) (by exact rfl)) <| wE (jX (g_reduced (jZ z) (jZ ((2 ^ k : Nat) : Int)) z ((2 ^ k : Nat) : Int) (iu hz) (yS (xH (k := k) (by omega)) (by decide)) (by assumption))) <| wT (qC jR) <| wZ) ?_
 refine jG ⟨_, (kU (cs := (bx (jK (jT (Rat.divInt z ((2 ^ k : Nat) : Int)))))) (d := (jK (jT (Rat.divInt z ((2 ^ k : Nat) : Int))))) rfl rfl jR rfl rfl .nil), ?_⟩
 rfl
theorem dr_root (x : Rat) (hx : QL x 100) (k : Nat) (hk : k ≤ 512) (hx0 : 0 ≤ x) : jV Tryz.prog 97 [(jK (jT x)), (.val (.int .i64 (((k : Nat) : Int))))] (.tup [(jK (jT (Rat.divInt (kH (vF (x * (((((2 ^ k : Nat) : Int) : Int) : Rat) * ((((2 ^ k : Nat) : Int) : Int) : Rat))))) ((2 ^ k : Nat) : Int)))), (jK (jT (Rat.divInt (mW (x * (((((2 ^ k : Nat) : Int) : Int) : Rat) * ((((2 ^ k : Nat) : Int) : Int) : Rat)))) ((2 ^ k : Nat) : Int)))), (.val (.int .i64 (0)))]) := by
 let y2 := (jT (Rat.divInt (kH (vF (x * (((((2 ^ k : Nat) : Int) : Int) : Rat) * ((((2 ^ k : Nat) : Int) : Int) : Rat))))) ((2 ^ k : Nat) : Int)))
 let y1 := (bx (jK y2))
 refine jJ Tryz.func97 rfl cb97 rfl ?_
 show qI _ _ _ _ ⟨[(0, (.d (jK (jT x)))), (1, (jW k))], []⟩
 refine jB <| kx [(2, (.ref 0 0)), (4, (.ref 1 0)), (5, (.ref 2 0))] [(0, some (bx (jK (jT x)))), (1, some (bx (jK (jE.mk (jD.mk false []) (jD.mk false []))))), (2, some (bx (jK (jE.mk (jD.mk false []) (jD.mk false [])))))] (zN (vL 0) <| zN (qS 1 qX uA) <| zN (qS 2 qX uA) <| zM <| zZ) ?_
 refine jB <| jB <| kx [(18, (vb false))] [] (zM <| zE (jX (dr_plc k (by omega))) <| zE mM <| zM <| zR (kR jR) <| zE (jX (g_sign (jT x) x (jP (kA hx) (by decide)))) <| zE (xI false xK (by exact decide_eq_false (sgn_nn hx0))) <| zE yI <| zZ) ?_
 refine qA ?_
 refine jF <| jB ?_
 have bn1 : QL (((((2 ^ k : Nat) : Int) : Int) : Rat) * ((((2 ^ k : Nat) : Int) : Int) : Rat)) 40 := (kM (k := 40) (vX (k := k) (by omega)) (vX (k := k) (by omega)) (by decide))
 refine kd [(7, (.ref 3 0))] [(3, some (bx (jK (jT (x * (((((2 ^ k : Nat) : Int) : Int) : Rat) * ((((2 ^ k : Nat) : Int) : Int) : Rat)))))))] mo (wR (kR jR) <| wM <| wE (jX (dr_pow k (by omega))) <| wM <| wE (jX (dr_pow k (by omega))) <| wE (jX (g_mul (jT ((((2 ^ k : Nat) : Int) : Int) : Rat)) (jT ((((2 ^ k : Nat) : Int) : Int) : Rat)) ((((2 ^ k : Nat) : Int) : Int) : Rat) ((((2 ^ k : Nat) : Int) : Int) : Rat) (jP (kA (vX (k := k) (by omega))) (by decide)) (jP (kA (vX (k := k) (by omega))) (by decide)))) <| wE (jX (g_mul (jT x) (jT (((((2 ^ k : Nat) : Int) : Int) : Rat) * ((((2 ^ k : Nat) : Int) : Int) : Rat))) x (((((2 ^ k : Nat) : Int) : Int) : Rat) * ((((2 ^ k : Nat) : Int) : Int) : Rat)) (jP (kA hx) (by decide)) (jP (kA bn1) (by decide)))) <| wN (qS 3 qX uA) <| wT (qC jR) <| wZ) ?_
 refine jB ?_
 have bn2 : vO (jZ (vF (x * (((((2 ^ k : Nat) : Int) : Int) : Rat) * ((((2 ^ k : Nat) : Int) : Int) : Rat))))) (vF (x * (((((2 ^ k : Nat) : Int) : Int) : Rat) * ((((2 ^ k : Nat) : Int) : Int) : Rat)))) 141 := (zL (k := 141) (kM (k := 140) hx bn1 (by decide)) (by decide))
 refine kx [(8, (.ref 4 0))] [(4, some (bx (jM (jZ (kH (vF (x * (((((2 ^ k : Nat) : Int) : Int) : Rat) * ((((2 ^ k : Nat) : Int) : Int) : Rat)))))))))] (zR (kR jR) <| zE (jX (dr_floor (x * (((((2 ^ k : Nat) : Int) : Int) : Rat) * ((((2 ^ k : Nat) : Int) : Int) : Rat))) (yA (kM (k := 140) hx bn1 (by decide)) (by decide)))) <| zE (jX (d_rroot (vF (x * (((((2 ^ k : Nat) : Int) : Int) : Rat) * ((((2 ^ k : Nat) : Int) : Int) : Rat)))) (iu bn2) (gG (xJ hx0)))) <| zM <| zE uZ <| zE uZ <| zN (qS 4 vP vQ) <| zT (qC jS) <| zM <| zZ) ?_
 refine jB ?_
 have bn3 : QL (Rat.divInt (kH (vF (x * (((((2 ^ k : Nat) : Int) : Int) : Rat) * ((((2 ^ k : Nat) : Int) : Int) : Rat))))) ((2 ^ k : Nat) : Int)) 141 := (qB (n := 141) (Nat.le_trans (vO.ln (yO (gG (xJ hx0)) bn2)) (by decide)) (Nat.le_trans (vO.ln (xH (k := k) (by omega))) (by decide)) (by decide))
 refine kx [(10, (.ref 5 0))] [(5, some y1)] (zR (kR jS) <| zM <| zE (jX (dr_part (kH (vF (x * (((((2 ^ k : Nat) : Int) : Int) : Rat) * ((((2 ^ k : Nat) : Int) : Int) : Rat))))) (yS (yO (gG (xJ hx0)) bn2) (by decide)) k (by omega))) <| zN (qS 5 qX uA) <| zT (qC jR) <| zZ) ?_
 refine jB <| jB <| kd [(42, (vb ((xC ((Rat.divInt (kH (vF (x * (((((2 ^ k : Nat) : Int) : Int) : Rat) * ((((2 ^ k : Nat) : Int) : Int) : Rat))))) ((2 ^ k : Nat) : Int)) * (Rat.divInt (kH (vF (x * (((((2 ^ k : Nat) : Int) : Int) : Rat) * ((((2 ^ k : Nat) : Int) : Int) : Rat))))) ((2 ^ k : Nat) : Int))) x) == ((0 : Nat) : Int))))] [] mo (wR (kR jR) <| wR (kR jR) <| wE (jX (g_mul y2 y2 (Rat.divInt (kH (vF (x * (((((2 ^ k : Nat) : Int) : Int) : Rat) * ((((2 ^ k : Nat) : Int) : Int) : Rat))))) ((2 ^ k : Nat) : Int)) (Rat.divInt (kH (vF (x * (((((2 ^ k : Nat) : Int) : Int) : Rat) * ((((2 ^ k : Nat) : Int) : Int) : Rat))))) ((2 ^ k : Nat) : Int)) (jP (kA bn3) (by decide)) (jP (kA bn3) (by decide)))) <| wR (kR jR) <| wE (jX (g_compare (jT ((Rat.divInt (kH (vF (x * (((((2 ^ k : Nat) : Int) : Int) : Rat) * ((((2 ^ k : Nat) : Int) : Int) : Rat))))) ((2 ^ k : Nat) : Int)) * (Rat.divInt (kH (vF (x * (((((2 ^ k : Nat) : Int) : Int) : Rat) * ((((2 ^ k : Nat) : Int) : Int) : Rat))))) ((2 ^ k : Nat) : Int)))) (jT x) ((Rat.divInt (kH (vF (x * (((((2 ^ k : Nat) : Int) : Int) : Rat) * ((((2 ^ k : Nat) : Int) : Int) : Rat))))) ((2 ^ k : Nat) : Int)) * (Rat.divInt (kH (vF (x * (((((2 ^ k : Nat) : Int) : Int) : Rat) * ((((2 ^ k : Nat) : Int) : Int) : Rat))))) ((2 ^ k : Nat) : Int))) x (jP (kA (kM (k := 282) bn3 bn3 (by decide))) (by decide)) (jP (kA hx) (by decide)))) <| wE nF <| wZ) ?_
 refine jH rfl (fun h1 => ?_) (fun h1 => ?_)
 ·replace h1 := eq_of_beq h1
  have hup := upI_q h1
  refine jB <| kd [(6, (jW 0))] [(1, some y1), (2, some y1)] mo (wR (kR jR) <| wR (kR jR) <| wT (qC jR) <| wT (qC jR) <| wM <| wZ) ?_
  refine jG ⟨_, (kU (cs := (bx (jK (jT (Rat.divInt (kH (vF (x * (((((2 ^ k : Nat) : Int) : Int) : Rat) * ((((2 ^ k : Nat) : Int) : Int) : Rat))))) ((2 ^ k : Nat) : Int)))))) (d := (jK (jT (Rat.divInt (kH (vF (x * (((((2 ^ k : Nat) : Int) : Int) : Rat) * ((((2 ^ k : Nat) : Int) : Int) : Rat))))) ((2 ^ k : Nat) : Int))))) rfl rfl jR rfl rfl (kU (cs := (bx (jK (jT (Rat.divInt (kH (vF (x * (((((2 ^ k : Nat) : Int) : Int) : Rat) * ((((2 ^ k : Nat) : Int) : Int) : Rat))))) ((2 ^ k : Nat) : Int)))))) (d := (jK (jT (Rat.divInt (kH (vF (x * (((((2 ^ k : Nat) : Int) : Int) : Rat) * ((((2 ^ k : Nat) : Int) : Int) : Rat))))) ((2 ^ k : Nat) : Int))))) rfl rfl jR rfl rfl (.tmp (d := (.val (.int .i64 (((0 : Nat) : Int))))) rfl .nil))), ?_⟩
  rw [hup]; rfl
 ·replace h1 := ne_of_beq_false h1
  have hup := upI_n hx0 h1
  refine jF <| jB ?_
  have bn4 : vO (jZ ((kH (vF (x * (((((2 ^ k : Nat) : Int) : Int) : Rat) * ((((2 ^ k : Nat) : Int) : Int) : Rat))))) + 1)) ((kH (vF (x * (((((2 ^ k : Nat) : Int) : Int) : Rat) * ((((2 ^ k : Nat) : Int) : Int) : Rat))))) + 1) 142 := (gU (k := 142) (yO (gG (xJ hx0)) bn2) (uU (z := 1) (by decide)) (by decide))
  have bn5 : QL (Rat.divInt ((kH (vF (x * (((((2 ^ k : Nat) : Int) : Int) : Rat) * ((((2 ^ k : Nat) : Int) : Int) : Rat))))) + 1) ((2 ^ k : Nat) : Int)) 142 := (qB (n := 142) (Nat.le_trans (vO.ln bn4) (by decide)) (Nat.le_trans (vO.ln (xH (k := k) (by omega))) (by decide)) (by decide))
  refine kd [(6, (jW 0))] [(1, some y1), (2, some (bx (jK (jT (Rat.divInt ((kH (vF (x * (((((2 ^ k : Nat) : Int) : Int) : Rat) * ((((2 ^ k : Nat) : Int) : Int) : Rat))))) + 1) ((2 ^ k : Nat) : Int))))))] mo (wR (kR jR) <| wR (kR jS) <| wE (jX (cP 1 (by decide) (by decide))) <| wE (jX (rs_add (yO (gG (xJ hx0)) bn2) (uU (z := 1) (by decide)) (by decide) (by decide))) <| wM <| wE (jX (dr_part ((kH (vF (x * (((((2 ^ k : Nat) : Int) : Int) : Rat) * ((((2 ^ k : Nat) : Int) : Int) : Rat))))) + 1) (iu bn4) k (by omega))) <| wT (qC jR) <| wT (qC jR) <| wM <| wZ) ?_
  refine jG ⟨_, (kU (cs := (bx (jK (jT (Rat.divInt (kH (vF (x * (((((2 ^ k : Nat) : Int) : Int) : Rat) * ((((2 ^ k : Nat) : Int) : Int) : Rat))))) ((2 ^ k : Nat) : Int)))))) (d := (jK (jT (Rat.divInt (kH (vF (x * (((((2 ^ k : Nat) : Int) : Int) : Rat) * ((((2 ^ k : Nat) : Int) : Int) : Rat))))) ((2 ^ k : Nat) : Int))))) rfl rfl jR rfl rfl (kU (cs := (bx (jK (jT (Rat.divInt ((kH (vF (x * (((((2 ^ k : Nat) : Int) : Int) : Rat) * ((((2 ^ k : Nat) : Int) : Int) : Rat))))) + 1) ((2 ^ k : Nat) : Int)))))) (d := (jK (jT (Rat.divInt ((kH (vF (x * (((((2 ^ k : Nat) : Int) : Int) : Rat) * ((((2 ^ k : Nat) : Int) : Int) : Rat))))) + 1) ((2 ^ k : Nat) : Int))))) rfl rfl jR rfl rfl (.tmp (d := (.val (.int .i64 (((0 : Nat) : Int))))) rfl .nil))), ?_⟩
  rw [hup]; rfl
end Go.Proofs.YtnajallgoaiahaaGreatDoor
namespace Go.Proofs.YtnajallgoaiahaaGreatDoor
open Go.Fid
set_option maxRecDepth 4000
set_option linter.unusedVariables false
set_option linter.unusedSimpArgs false
theorem cb36 : callB Tryz.prog 36 = true := by kernel_rfl
theorem cb91 : callB Tryz.prog 91 = true := by kernel_rfl
theorem di_root (p : Rat) (q : Rat) (hp : QL p 100) (hq : QL q 100) (hpq : p ≤ q) (k : Nat) (hk : k ≤ 512) (hp0_ : 0 ≤ p) : jV Tryz.prog 91 [(jO (kG.mk (jT p) (jT q))), (.val (.int .i64 (((k : Nat) : Int))))] (.tup [(jO (kG.mk (jT (Rat.divInt (kH (vF (p * (((((2 ^ k : Nat) : Int) : Int) : Rat) * ((((2 ^ k : Nat) : Int) : Int) : Rat))))) ((2 ^ k : Nat) : Int))) (jT (Rat.divInt (mW (q * (((((2 ^ k : Nat) : Int) : Int) : Rat) * ((((2 ^ k : Nat) : Int) : Int) : Rat)))) ((2 ^ k : Nat) : Int))))), (.val (.int .i64 (0)))]) := by
 refine jJ Tryz.func91 rfl cb91 rfl ?_
 show qI _ _ _ _ ⟨[(0, (.d (jO (kG.mk (jT p) (jT q))))), (1, (jW k))], []⟩
 refine jB <| kx [(2, (.ref 0 0)), (4, (.ref 1 0))] [(0, some (bx (jO (kG.mk (jT p) (jT q))))), (1, some (bx (jO (kG.mk (jE.mk (jD.mk false []) (jD.mk false [])) (jE.mk (jD.mk false []) (jD.mk false []))))))] (zN (vL 0) <| zN (qS 1 uO uY) <| zM <| zZ) ?_
 refine jB <| jB <| kx [(14, (vb false))] [] (zR (kR kZ) <| zE (jX (by have h := i_valid (kG.mk (jT p) (jT q)) (yE (⟨qQ (jP (kA hp) (by decide : 100 ≤ 100)), qQ (jP (kA hq) (by decide : 100 ≤ 100))⟩) (by decide)); rw [show xN (kG.mk (jT p) (jT q)) = true from nB hpq] at h; exact h)) <| zE mM <| zZ) ?_
 refine qA ?_
 refine jF <| jB <| jB <| kx [(27, (vb false))] [] (zM <| zE (xI false xK (by exact decide_eq_false (show ¬ ((k : Nat) : Int) < 0 by omega))) <| zM <| zM <| zE (xI false hC (by exact decide_eq_false (show ¬ 512 < ((k : Nat) : Int) by omega))) <| zE yI <| zM <| zE (qH xL) <| zR (kR jR) <| zE (jX (f_sign (jT p) p (jP (kA hp) (by decide)))) <| zE (xI false xK (by exact decide_eq_false (sgn_nn hp0_))) <| zE yI <| zZ) ?_
 refine qA ?_
 refine jF <| jB ?_
 have bn1 : QL (Rat.divInt (kH (vF (p * (((((2 ^ k : Nat) : Int) : Int) : Rat) * ((((2 ^ k : Nat) : Int) : Int) : Rat))))) ((2 ^ k : Nat) : Int)) 141 := (qB (n := 141) (Nat.le_trans (vO.ln (yO (gG (xJ hp0_)) (zL (k := 141) (kM (k := 140) hp (kM (k := 40) (vX (k := k) (by omega)) (vX (k := k) (by omega)) (by decide)) (by decide)) (by decide)))) (by decide)) (Nat.le_trans (vO.ln (xH (k := k) (by omega))) (by decide)) (by decide))
 have bn2 : QL (Rat.divInt (mW (p * (((((2 ^ k : Nat) : Int) : Int) : Rat) * ((((2 ^ k : Nat) : Int) : Int) : Rat)))) ((2 ^ k : Nat) : Int)) 142 := (qB (n := 142) (Nat.le_trans (vO.ln (eP (k := 142) (gG (xJ hp0_)) (zL (k := 141) (kM (k := 140) hp (kM (k := 40) (vX (k := k) (by omega)) (vX (k := k) (by omega)) (by decide)) (by decide)) (by decide)) (by decide) (by decide))) (by decide)) (Nat.le_trans (vO.ln (xH (k := k) (by omega))) (by decide)) (by decide))
 refine kx [(6, (.ref 2 0))] [(2, some (bx (jK (jT (Rat.divInt (kH (vF (p * (((((2 ^ k : Nat) : Int) : Int) : Rat) * ((((2 ^ k : Nat) : Int) : Int) : Rat))))) ((2 ^ k : Nat) : Int)))))), (3, none)] (zE (qH xL) <| zR (kR jR) <| zM <| zE (jX (d_froot p hp k (by omega) hp0_)) <| zM <| zE uZ <| zE uZ <| zE uZ <| zN (qS 2 qX uA) <| zN (qS 3 qX uA) <| zT (qC jR) <| zT (qC jR) <| zM <| zZ) ?_
 refine jB ?_
 have bn3 : QL (Rat.divInt (kH (vF (q * (((((2 ^ k : Nat) : Int) : Int) : Rat) * ((((2 ^ k : Nat) : Int) : Int) : Rat))))) ((2 ^ k : Nat) : Int)) 141 := (qB (n := 141) (Nat.le_trans (vO.ln (yO (gG (xJ (Rat.le_trans hp0_ hpq))) (zL (k := 141) (kM (k := 140) hq (kM (k := 40) (vX (k := k) (by omega)) (vX (k := k) (by omega)) (by decide)) (by decide)) (by decide)))) (by decide)) (Nat.le_trans (vO.ln (xH (k := k) (by omega))) (by decide)) (by decide))
 have bn4 : QL (Rat.divInt (mW (q * (((((2 ^ k : Nat) : Int) : Int) : Rat) * ((((2 ^ k : Nat) : Int) : Int) : Rat)))) ((2 ^ k : Nat) : Int)) 142 := (qB (n := 142) (Nat.le_trans (vO.ln (eP (k := 142) (gG (xJ (Rat.le_trans hp0_ hpq))) (zL (k := 141) (kM (k := 140) hq (kM (k := 40) (vX (k := k) (by omega)) (vX (k := k) (by omega)) (by decide)) (by decide)) (by decide)) (by decide) (by decide))) (by decide)) (Nat.le_trans (vO.ln (xH (k := k) (by omega))) (by decide)) (by decide))
 refine kx [(10, (.ref 5 0))] [(5, some (bx (jK (jT (Rat.divInt (mW (q * (((((2 ^ k : Nat) : Int) : Int) : Rat) * ((((2 ^ k : Nat) : Int) : Int) : Rat)))) ((2 ^ k : Nat) : Int)))))), (4, none)] (zE (qH xT) <| zR (kR jR) <| zM <| zE (jX (d_froot q hq k (by omega) (Rat.le_trans hp0_ hpq))) <| zM <| zE uZ <| zE uZ <| zE uZ <| zN (qS 4 qX uA) <| zN (qS 5 qX uA) <| zT (qC jR) <| zT (qC jR) <| zM <| zZ) ?_
 refine jB <| kx [(5, (jW 0))] [(1, some (bx (jO (kG.mk (jT (Rat.divInt (kH (vF (p * (((((2 ^ k : Nat) : Int) : Int) : Rat) * ((((2 ^ k : Nat) : Int) : Int) : Rat))))) ((2 ^ k : Nat) : Int))) (jT (Rat.divInt (mW (q * (((((2 ^ k : Nat) : Int) : Int) : Rat) * ((((2 ^ k : Nat) : Int) : Int) : Rat)))) ((2 ^ k : Nat) : Int)))))))] (zR (kR jR) <| zR (kR jR) <| zE (eJ pl61 uO uY) <| zT (qC kZ) <| zM <| zZ) ?_
 refine jG ⟨_, (kU (cs := (bx (jO (kG.mk (jT (Rat.divInt (kH (vF (p * (((((2 ^ k : Nat) : Int) : Int) : Rat) * ((((2 ^ k : Nat) : Int) : Int) : Rat))))) ((2 ^ k : Nat) : Int))) (jT (Rat.divInt (mW (q * (((((2 ^ k : Nat) : Int) : Int) : Rat) * ((((2 ^ k : Nat) : Int) : Int) : Rat)))) ((2 ^ k : Nat) : Int))))))) (d := (jO (kG.mk (jT (Rat.divInt (kH (vF (p * (((((2 ^ k : Nat) : Int) : Int) : Rat) * ((((2 ^ k : Nat) : Int) : Int) : Rat))))) ((2 ^ k : Nat) : Int))) (jT (Rat.divInt (mW (q * (((((2 ^ k : Nat) : Int) : Int) : Rat) * ((((2 ^ k : Nat) : Int) : Int) : Rat)))) ((2 ^ k : Nat) : Int)))))) rfl rfl kZ rfl rfl (.tmp (d := (.val (.int .i64 (((0 : Nat) : Int))))) rfl .nil)), ?_⟩
 rfl
theorem dh_root (p : Rat) (q : Rat) (hp : QL p 100) (hq : QL q 100) (hpq : p ≤ q) (k : Nat) (hk : k ≤ 512) (hp0_ : 0 ≤ p) : jV Tryz.prog 36 [(jO (kG.mk (jT p) (jT q))), (.val (.int .i64 (((k : Nat) : Int))))] (.tup [(jO (kG.mk (jT (Rat.divInt (kH (vF (p * (((((2 ^ k : Nat) : Int) : Int) : Rat) * ((((2 ^ k : Nat) : Int) : Int) : Rat))))) ((2 ^ k : Nat) : Int))) (jT (Rat.divInt (mW (q * (((((2 ^ k : Nat) : Int) : Int) : Rat) * ((((2 ^ k : Nat) : Int) : Int) : Rat)))) ((2 ^ k : Nat) : Int))))), (.val (.int .i64 (0)))]) := by
 refine jJ Tryz.func36 rfl cb36 rfl ?_
 show qI _ _ _ _ ⟨[(0, (.d (jO (kG.mk (jT p) (jT q))))), (1, (jW k))], []⟩
 refine jB <| kx [(2, (.ref 0 0)), (4, (.ref 1 0))] [(0, some (bx (jO (kG.mk (jT p) (jT q))))), (1, some (bx (jO (kG.mk (jE.mk (jD.mk false []) (jD.mk false [])) (jE.mk (jD.mk false []) (jD.mk false []))))))] (zN (vL 0) <| zN (qS 1 uO uY) <| zM <| zZ) ?_
 refine jB <| jB <| kx [(23, (vb false))] [] (zM <| zE (xI false xK (by exact decide_eq_false (show ¬ ((k : Nat) : Int) < 0 by omega))) <| zM <| zM <| zE (xI false hC (by exact decide_eq_false (show ¬ 512 < ((k : Nat) : Int) by omega))) <| zE yI <| zM <| zE (qH xL) <| zR (kR jR) <| zE (jX (g_sign (jT p) p (jP (kA hp) (by decide)))) <| zE (xI false xK (by exact decide_eq_false (sgn_nn hp0_))) <| zE yI <| zZ) ?_
 refine qA ?_
 refine jF <| jB ?_
 have bn1 : QL (Rat.divInt (kH (vF (p * (((((2 ^ k : Nat) : Int) : Int) : Rat) * ((((2 ^ k : Nat) : Int) : Int) : Rat))))) ((2 ^ k : Nat) : Int)) 141 := (qB (n := 141) (Nat.le_trans (vO.ln (yO (gG (xJ hp0_)) (zL (k := 141) (kM (k := 140) hp (kM (k := 40) (vX (k := k) (by omega)) (vX (k := k) (by omega)) (by decide)) (by decide)) (by decide)))) (by decide)) (Nat.le_trans (vO.ln (xH (k := k) (by omega))) (by decide)) (by decide))
 have bn2 : QL (Rat.divInt (mW (p * (((((2 ^ k : Nat) : Int) : Int) : Rat) * ((((2 ^ k : Nat) : Int) : Int) : Rat)))) ((2 ^ k : Nat) : Int)) 142 := (qB (n := 142) (Nat.le_trans (vO.ln (eP (k := 142) (gG (xJ hp0_)) (zL (k := 141) (kM (k := 140) hp (kM (k := 40) (vX (k := k) (by omega)) (vX (k := k) (by omega)) (by decide)) (by decide)) (by decide)) (by decide) (by decide))) (by decide)) (Nat.le_trans (vO.ln (xH (k := k) (by omega))) (by decide)) (by decide))
 refine kx [(6, (.ref 2 0))] [(2, some (bx (jK (jT (Rat.divInt (kH (vF (p * (((((2 ^ k : Nat) : Int) : Int) : Rat) * ((((2 ^ k : Nat) : Int) : Int) : Rat))))) ((2 ^ k : Nat) : Int)))))), (3, none)] (zE (qH xL) <| zR (kR jR) <| zM <| zE (jX (dr_root p hp k (by omega) hp0_)) <| zM <| zE uZ <| zE uZ <| zE uZ <| zN (qS 2 qX uA) <| zN (qS 3 qX uA) <| zT (qC jR) <| zT (qC jR) <| zM <| zZ) ?_
 refine jB ?_
 have bn3 : QL (Rat.divInt (kH (vF (q * (((((2 ^ k : Nat) : Int) : Int) : Rat) * ((((2 ^ k : Nat) : Int) : Int) : Rat))))) ((2 ^ k : Nat) : Int)) 141 := (qB (n := 141) (Nat.le_trans (vO.ln (yO (gG (xJ (Rat.le_trans hp0_ hpq))) (zL (k := 141) (kM (k := 140) hq (kM (k := 40) (vX (k := k) (by omega)) (vX (k := k) (by omega)) (by decide)) (by decide)) (by decide)))) (by decide)) (Nat.le_trans (vO.ln (xH (k := k) (by omega))) (by decide)) (by decide))
 have bn4 : QL (Rat.divInt (mW (q * (((((2 ^ k : Nat) : Int) : Int) : Rat) * ((((2 ^ k : Nat) : Int) : Int) : Rat)))) ((2 ^ k : Nat) : Int)) 142 := (qB (n := 142) (Nat.le_trans (vO.ln (eP (k := 142) (gG (xJ (Rat.le_trans hp0_ hpq))) (zL (k := 141) (kM (k := 140) hq (kM (k := 40) (vX (k := k) (by omega)) (vX (k := k) (by omega)) (by decide)) (by decide)) (by decide)) (by decide) (by decide))) (by decide)) (Nat.le_trans (vO.ln (xH (k := k) (by omega))) (by decide)) (by decide))
 refine kx [(10, (.ref 5 0))] [(5, some (bx (jK (jT (Rat.divInt (mW (q * (((((2 ^ k : Nat) : Int) : Int) : Rat) * ((((2 ^ k : Nat) : Int) : Int) : Rat)))) ((2 ^ k : Nat) : Int)))))), (4, none)] (zE (qH xT) <| zR (kR jR) <| zM <| zE (jX (dr_root q hq k (by omega) (Rat.le_trans hp0_ hpq))) <| zM <| zE uZ <| zE uZ <| zE uZ <| zN (qS 4 qX uA) <| zN (qS 5 qX uA) <| zT (qC jR) <| zT (qC jR) <| zM <| zZ) ?_
 refine jB <| kx [(5, (jW 0))] [(1, some (bx (jO (kG.mk (jT (Rat.divInt (kH (vF (p * (((((2 ^ k : Nat) : Int) : Int) : Rat) * ((((2 ^ k : Nat) : Int) : Int) : Rat))))) ((2 ^ k : Nat) : Int))) (jT (Rat.divInt (mW (q * (((((2 ^ k : Nat) : Int) : Int) : Rat) * ((((2 ^ k : Nat) : Int) : Int) : Rat)))) ((2 ^ k : Nat) : Int)))))))] (zR (kR jR) <| zR (kR jR) <| zE (eJ pl61 uO uY) <| zT (qC kZ) <| zM <| zZ) ?_
 refine jG ⟨_, (kU (cs := (bx (jO (kG.mk (jT (Rat.divInt (kH (vF (p * (((((2 ^ k : Nat) : Int) : Int) : Rat) * ((((2 ^ k : Nat) : Int) : Int) : Rat))))) ((2 ^ k : Nat) : Int))) (jT (Rat.divInt (mW (q * (((((2 ^ k : Nat) : Int) : Int) : Rat) * ((((2 ^ k : Nat) : Int) : Int) : Rat)))) ((2 ^ k : Nat) : Int))))))) (d := (jO (kG.mk (jT (Rat.divInt (kH (vF (p * (((((2 ^ k : Nat) : Int) : Int) : Rat) * ((((2 ^ k : Nat) : Int) : Int) : Rat))))) ((2 ^ k : Nat) : Int))) (jT (Rat.divInt (mW (q * (((((2 ^ k : Nat) : Int) : Int) : Rat) * ((((2 ^ k : Nat) : Int) : Int) : Rat)))) ((2 ^ k : Nat) : Int)))))) rfl rfl kZ rfl rfl (.tmp (d := (.val (.int .i64 (((0 : Nat) : Int))))) rfl .nil)), ?_⟩
 rfl
end Go.Proofs.YtnajallgoaiahaaGreatDoor
namespace Go.Proofs.YtnajallgoaiahaaGreatDoor
open Go.Fid
set_option maxRecDepth 4000
set_option linter.unusedVariables false
set_option linter.unusedSimpArgs false
theorem cb14 : callB Tryz.prog 14 = true := by kernel_rfl
theorem cb27 : callB Tryz.prog 27 = true := by kernel_rfl
theorem m_vlist (l : List jE) (hl : zG 1048576 l) : jV Tryz.prog 14 [(.sl 45 4 (List.map jK l))] (.val (.bool ((eT l)))) := by
 have hb := hl.2
 refine jJ Tryz.func14 rfl cb14 rfl ?_
 show qI _ _ _ _ ⟨[(0, (vl 45 4 jK l))], []⟩
 refine jB <| kx [] [] (zM <| zZ) ?_
 refine jB <| jB <| kx [(3, (jW 0))] [] (zM <| zZ) ?_
 refine jI <| kN (α := Nat) (fun i => ⟨[(0, (vl 45 4 jK l)), (3, (jW i))], []⟩) (fun i => i ≤ l.length ∧ (l.take i).all kP = true) (fun i => l.length - i) 0 wk ⟨Nat.zero_le _, by simp⟩ ?_
 rintro i ⟨hi, hal⟩
 refine jB <| jB <| kx [(7, (vb (decide (((i : Nat) : Int) < ((l.length : Nat) : Int)))))] [] (zM <| zM <| zE (vG uN) <| zE xK <| zZ) ?_
 refine jH rfl (fun h1 => ?_) (fun h1 => ?_)
 ·replace h1 := of_decide_eq_true h1
  refine jF <| jB <| jI <| jB <| kx [(15, (vb (!(kP (l.getD i (jE.mk (jD.mk false []) (jD.mk false [])))))))] [] (zM <| zM <| zE (xM uN i (jE.mk (jD.mk false []) (jD.mk false []))) <| zE (dK jR) <| zE (jX (g_valid (l.getD i (jE.mk (jD.mk false []) (jD.mk false []))) (jN (l.getD i (jE.mk (jD.mk false []) (jD.mk false [])))) (jP (qN hl.1 (show i < l.length by omega)) (by decide)))) <| zE mM <| zZ) ?_
  refine jH rfl (fun h2 => ?_) (fun h2 => ?_)
  ·refine jB <| kx [(2, (vb false))] [] (zM <| zZ) ?_
   refine jG ⟨_, (.tmp (d := (.val (.bool (false)))) rfl .nil), ?_⟩
   rw [show eT l = false from all_not (f := kP) (l := l) (i := i) (d := (jE.mk (jD.mk false []) (jD.mk false []))) (by omega) (by simpa using h2)]; rfl
  ·refine jF <| kx [(3, (jW (i + 1)))] [] (zM <| zE (vU (i + 1)) <| zM <| zZ) ?_
   exact ⟨(i + 1), wk, ⟨by omega, all_take (d := (jE.mk (jD.mk false []) (jD.mk false []))) (by omega) hal (by simpa using h2)⟩, (by first | omega | (dsimp only; omega))⟩
 ·replace h1 := of_decide_eq_false h1
  have hie : i = l.length := by omega
  rw [hie, List.take_length] at hal
  refine kL <| jB <| kx [(2, (vb true))] [] (zM <| zZ) ?_
  refine jG ⟨_, (.tmp (d := (.val (.bool (true)))) rfl .nil), ?_⟩
  rw [show eT l = true from hal]; rfl
theorem p_cov (x : jE) (p : Rat) (hx : hH x p 200) (a : jE) (q : Rat) (ha : hH a q 200) (b : jE) (r : Rat) (hb : hH b r 200) (y : jE) (s : Rat) (hy : hH y s 200) (gx : kP x = true) (ga : kP a = true) (gb : kP b = true) (gy : kP y = true) (hq : ¬ (dA q) < 0) (hr : ¬ (dA r) < 0) : jV Tryz.prog 27 [(jK x), (jK a), (jK b), (jK y)] (.tup [(.val (.bool ((decide ((xC ((s - p) * (s - p)) (q * r)) ≤ 0))))), (.val (.int .i64 (((0 : Nat) : Int))))]) := by
 refine jJ Tryz.func27 rfl cb27 rfl ?_
 show qI _ _ _ _ ⟨[(0, (.d (jK x))), (1, (.d (jK a))), (2, (.d (jK b))), (3, (.d (jK y)))], []⟩
 refine jB <| kx [(4, (.ref 0 0)), (5, (.ref 1 0)), (6, (.ref 2 0)), (7, (.ref 3 0))] [(0, some (bx (jK x))), (1, some (bx (jK a))), (2, some (bx (jK b))), (3, some (bx (jK y)))] (zN (vL 0) <| zN (vL 1) <| zN (vL 2) <| zN (vL 3) <| zM <| zM <| zZ) ?_
 refine jB <| jB <| kx [(17, (vl 45 4 jK [x, a, b, y])), (18, (jW 4)), (19, (jW 0))] [] (zR (kR jR) <| zR (kR jR) <| zR (kR jR) <| zR (kR jR) <| zE (eI uN qX uA) <| zE (oLn uN 4) <| zM <| zZ) ?_
 refine jI <| pwp_rounds 5 ?_
 refine pwp_round <| jB <| kx [(20, (vb true))] [] (zE (xI true xK) <| zZ) ?_
 refine jB <| gB ?_
 refine jF <| jB <| jI <| jB <| kx [(11, (.ref 4 0))] [(4, some (bx (jK x)))] (zE (oXs uN 0) <| zE (dK jR) <| zN (qS 4 qX uA) <| zT (qC jR) <| zZ) ?_
 refine jB <| kx [(25, (vb false))] [] (zR (kR jR) <| zE (xI true (jX (nR x p (jP hx (by decide)))) (by exact gx)) <| zE mM <| zZ) ?_
 refine qA ?_
 refine jF <| kx [(19, (jW 1))] [] (zE (vU 1 (hr := by decide)) <| zM <| zZ) ?_
 refine fN (uP.refl _) ?_
 refine jB <| kx [(20, (vb true))] [] (zE (xI true xK) <| zZ) ?_
 refine jB <| gB ?_
 refine jF <| jB <| jI <| jB <| kx [(11, (.ref 5 0))] [(5, some (bx (jK a)))] (zE (oXs uN 1) <| zE (dK jR) <| zN (qS 5 qX uA) <| zT (qC jR) <| zZ) ?_
 refine jB <| kx [(25, (vb false))] [] (zR (kR jR) <| zE (xI true (jX (nR a q (jP ha (by decide)))) (by exact ga)) <| zE mM <| zZ) ?_
 refine qA ?_
 refine jF <| kx [(19, (jW 2))] [] (zE (vU 2 (hr := by decide)) <| zM <| zZ) ?_
 refine fN (uP.refl _) ?_
 refine jB <| kx [(20, (vb true))] [] (zE (xI true xK) <| zZ) ?_
 refine jB <| gB ?_
 refine jF <| jB <| jI <| jB <| kx [(11, (.ref 6 0))] [(6, some (bx (jK b)))] (zE (oXs uN 2) <| zE (dK jR) <| zN (qS 6 qX uA) <| zT (qC jR) <| zZ) ?_
 refine jB <| kx [(25, (vb false))] [] (zR (kR jR) <| zE (xI true (jX (nR b r (jP hb (by decide)))) (by exact gb)) <| zE mM <| zZ) ?_
 refine qA ?_
 refine jF <| kx [(19, (jW 3))] [] (zE (vU 3 (hr := by decide)) <| zM <| zZ) ?_
 refine fN (uP.refl _) ?_
 refine jB <| qE (wk (l := [(4, (.ref 0 0)), (5, (.ref 1 0)), (6, (.ref 2 0)), (7, (.ref 3 0)), (17, (vl 45 4 jK [x, a, b, y])), (18, (jW 4)), (19, (jW 3))]) (b := [(0, some (bx (jK x))), (1, some (bx (jK a))), (2, some (bx (jK b))), (3, some (bx (jK y)))])) ?_
 refine kx [(20, (vb true))] [] (zE (xI true xK) <| zZ) ?_
 refine jB <| gB ?_
 refine jF <| jB <| jI <| jB <| kx [(11, (.ref 7 0))] [(7, some (bx (jK y)))] (zE (oXs uN 3) <| zE (dK jR) <| zN (qS 7 qX uA) <| zT (qC jR) <| zZ) ?_
 refine jB <| kx [(25, (vb false))] [] (zR (kR jR) <| zE (xI true (jX (nR y s (jP hy (by decide)))) (by exact gy)) <| zE mM <| zZ) ?_
 refine qA ?_
 refine jF <| kx [(19, (jW 4))] [] (zE (vU 4 (hr := by decide)) <| zM <| zZ) ?_
 refine fN (uP.refl _) ?_
 refine jB <| kx [(20, (vb false))] [] (zE (xI false xK) <| zZ) ?_
 refine jB <| qA ?_
 refine kL <| jB <| jB <| kx [(34, (vb false))] [] (zR (kR jR) <| zE (jX (f_sign a q (jP ha (by decide)))) <| zE (xI false xK (by exact decide_eq_false hq)) <| zM <| zR (kR jR) <| zE (jX (f_sign b r (jP hb (by decide)))) <| zE (xI false xK (by exact decide_eq_false hr)) <| zE yI <| zZ) ?_
 refine qA ?_
 refine jF <| jB <| kx [(12, (.ref 8 0))] [(8, some (bx (jK (jT (s - p)))))] (zR (kR jR) <| zR (kR jR) <| zE (jX (f_sub y x s p (jP hy (by decide)) (jP hx (by decide)))) <| zN (qS 8 qX uA) <| zT (qC jR) <| zZ) ?_
 refine jB <| kd [(8, (vb (decide ((xC ((s - p) * (s - p)) (r * q)) ≤ ((0 : Nat) : Int))))), (9, (jW 0))] [] mo (wR (kR jR) <| wR (kR jR) <| wE (jX (eC (jT (s - p)) (jT (s - p)) (s - p) (s - p) (jP (kA (yF (k := 401) hy.ql hx.ql (by decide))) (by decide)) (jP (kA (yF (k := 401) hy.ql hx.ql (by decide))) (by decide)))) <| wR (kR jR) <| wR (kR jR) <| wE (jX (eC b a r q (jP hb (by decide)) (jP ha (by decide)))) <| wE (jX (mG (jT ((s - p) * (s - p))) (jT (r * q)) ((s - p) * (s - p)) (r * q) (jP (kA (kM (k := 802) (yF (k := 401) hy.ql hx.ql (by decide)) (yF (k := 401) hy.ql hx.ql (by decide)) (by decide))) (by decide)) (jP (kA (kM (k := 400) hb.ql ha.ql (by decide))) (by decide)))) <| wE oLe <| wM <| wM <| wZ) ?_
 refine jG ⟨_, (.tmp (d := (.val (.bool (decide ((xC ((s - p) * (s - p)) (r * q)) ≤ ((0 : Nat) : Int)))))) rfl (.tmp (d := (.val (.int .i64 (((0 : Nat) : Int))))) rfl .nil)), ?_⟩
 rw [Rat.mul_comm q r]; rfl
end Go.Proofs.YtnajallgoaiahaaGreatDoor
