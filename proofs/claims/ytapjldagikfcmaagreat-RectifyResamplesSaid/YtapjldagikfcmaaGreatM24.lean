/- Part 24 of a proof: rules, plain facts, and functions walked. -/
import Derived.Test.YtapjldagikfcmaaGreatM23
import Derived.Test.YtapjldagikfcmaaGreatM19
import Derived.Test.YtapjldagikfcmaaGreatM21
import Derived.Test.YtapjldagikfcmaaGreatM20
import Derived.Test.YtapjldagikfcmaaGreatM11
namespace Go.Proofs.YtapjldagikfcmaaGreat
open Go.Fid
set_option maxRecDepth 4000
set_option linter.unusedVariables false
set_option linter.unusedSimpArgs false
theorem cb124 : callB Tryz.prog 124 = true := by kernel_rfl
theorem cb183 : callB Tryz.prog 183 = true := by kernel_rfl
theorem cb203 : callB Tryz.prog 203 = true := by kernel_rfl
theorem cb223 : callB Tryz.prog 223 = true := by kernel_rfl
theorem q_norm (a b c d : Int) (ha : -1048576 ≤ a ∧ a ≤ 1048576) (hb : -1048576 ≤ b ∧ b ≤ 1048576) (hc : -1048576 ≤ c ∧ c ≤ 1048576) (hd : -1048576 ≤ d ∧ d ≤ 1048576) : kH Tryz.prog 223 [(uR (jL.mk a b c d))] (.val (.int .i64 ((nq a b c d)))) := by
 have saa := vM ha ha
 have sab := vM ha hb
 have sac := vM ha hc
 have sad := vM ha hd
 have sbb := vM hb hb
 have sbc := vM hb hc
 have sbd := vM hb hd
 have scc := vM hc hc
 have scd := vM hc hd
 have sdd := vM hd hd
 refine jM Tryz.func223 rfl cb223 rfl ?_
 show uY _ _ _ _ ⟨[(0, (.d (uR (jL.mk a b c d))))], []⟩
 refine jA <| kx [(1, (.ref 0 0))] [(0, some (bx (uR (jL.mk a b c d))))] (zN (vD 0) <| zM <| zZ) ?_
 refine jA <| kx [(2, (vi ((((a * a) + (b * b)) + (c * c)) + (d * d))))] [] (zE (kE dV) <| zR (qR qP) <| zE (kE dV) <| zR (qR qP) <| zE (nJ (a * a) (hr := by exact (qO rfl (by simp only [vP]; omega) (by simp only [vS]; omega)))) <| zE (kE dZ) <| zR (qR qP) <| zE (kE dZ) <| zR (qR qP) <| zE (nJ (b * b) (hr := by exact (qO rfl (by simp only [vP]; omega) (by simp only [vS]; omega)))) <| zE (zAd ((a * a) + (b * b)) (hr := by exact (qO rfl (by simp only [vP]; omega) (by simp only [vS]; omega)))) <| zE (kE dW) <| zR (qR qP) <| zE (kE dW) <| zR (qR qP) <| zE (nJ (c * c) (hr := by exact (qO rfl (by simp only [vP]; omega) (by simp only [vS]; omega)))) <| zE (zAd (((a * a) + (b * b)) + (c * c)) (hr := by exact (qO rfl (by simp only [vP]; omega) (by simp only [vS]; omega)))) <| zE (kE dT) <| zR (qR qP) <| zE (kE dT) <| zR (qR qP) <| zE (nJ (d * d) (hr := by exact (qO rfl (by simp only [vP]; omega) (by simp only [vS]; omega)))) <| zE (zAd ((((a * a) + (b * b)) + (c * c)) + (d * d)) (hr := by exact (qO rfl (by simp only [vP]; omega) (by simp only [vS]; omega)))) <| zM <| zZ) ?_
 refine jF ⟨_, (.tmp (d := (.val (.int .i64 (((((a * a) + (b * b)) + (c * c)) + (d * d)))))) rfl .nil), ?_⟩
 rfl
theorem fF (a b c d : Int) (ha : -1048576 ≤ a ∧ a ≤ 1048576) (hb : -1048576 ≤ b ∧ b ≤ 1048576) (hc : -1048576 ≤ c ∧ c ≤ 1048576) (hd : -1048576 ≤ d ∧ d ≤ 1048576) : kH Tryz.prog 183 [(uR (jL.mk a b c d))] (.val (.int .i64 ((nq a b c d)))) := by
 have saa := vM ha ha
 have sab := vM ha hb
 have sac := vM ha hc
 have sad := vM ha hd
 have sbb := vM hb hb
 have sbc := vM hb hc
 have sbd := vM hb hd
 have scc := vM hc hc
 have scd := vM hc hd
 have sdd := vM hd hd
 refine jM Tryz.func183 rfl cb183 rfl ?_
 show uY _ _ _ _ ⟨[(0, (.d (uR (jL.mk a b c d))))], []⟩
 refine jA <| kx [(1, (.ref 0 0))] [(0, some (bx (uR (jL.mk a b c d))))] (zN (vD 0) <| zM <| zZ) ?_
 refine jA <| kx [(2, (vi ((((a * a) + (b * b)) + (c * c)) + (d * d))))] [] (zE (kE dV) <| zR (qR qP) <| zE (kE dV) <| zR (qR qP) <| zE (nJ (a * a) (hr := by exact (qO rfl (by simp only [vP]; omega) (by simp only [vS]; omega)))) <| zE (kE dZ) <| zR (qR qP) <| zE (kE dZ) <| zR (qR qP) <| zE (nJ (b * b) (hr := by exact (qO rfl (by simp only [vP]; omega) (by simp only [vS]; omega)))) <| zE (zAd ((a * a) + (b * b)) (hr := by exact (qO rfl (by simp only [vP]; omega) (by simp only [vS]; omega)))) <| zE (kE dW) <| zR (qR qP) <| zE (kE dW) <| zR (qR qP) <| zE (nJ (c * c) (hr := by exact (qO rfl (by simp only [vP]; omega) (by simp only [vS]; omega)))) <| zE (zAd (((a * a) + (b * b)) + (c * c)) (hr := by exact (qO rfl (by simp only [vP]; omega) (by simp only [vS]; omega)))) <| zE (kE dT) <| zR (qR qP) <| zE (kE dT) <| zR (qR qP) <| zE (nJ (d * d) (hr := by exact (qO rfl (by simp only [vP]; omega) (by simp only [vS]; omega)))) <| zE (zAd ((((a * a) + (b * b)) + (c * c)) + (d * d)) (hr := by exact (qO rfl (by simp only [vP]; omega) (by simp only [vS]; omega)))) <| zM <| zZ) ?_
 refine jF ⟨_, (.tmp (d := (.val (.int .i64 (((((a * a) + (b * b)) + (c * c)) + (d * d)))))) rfl .nil), ?_⟩
 rfl
theorem fD (a b c d : Int) (ha : -1048576 ≤ a ∧ a ≤ 1048576) (hb : -1048576 ≤ b ∧ b ≤ 1048576) (hc : -1048576 ≤ c ∧ c ≤ 1048576) (hd : -1048576 ≤ d ∧ d ≤ 1048576) : kH Tryz.prog 203 [(uR (jL.mk a b c d))] (.val (.int .i64 ((nq a b c d)))) := by
 have saa := vM ha ha
 have sab := vM ha hb
 have sac := vM ha hc
 have sad := vM ha hd
 have sbb := vM hb hb
 have sbc := vM hb hc
 have sbd := vM hb hd
 have scc := vM hc hc
 have scd := vM hc hd
 have sdd := vM hd hd
 refine jM Tryz.func203 rfl cb203 rfl ?_
 show uY _ _ _ _ ⟨[(0, (.d (uR (jL.mk a b c d))))], []⟩
 refine jA <| kx [(1, (.ref 0 0))] [(0, some (bx (uR (jL.mk a b c d))))] (zN (vD 0) <| zM <| zZ) ?_
 refine jA <| kx [(2, (vi ((((a * a) + (b * b)) + (c * c)) + (d * d))))] [] (zE (kE dV) <| zR (qR qP) <| zE (kE dV) <| zR (qR qP) <| zE (nJ (a * a) (hr := by exact (qO rfl (by simp only [vP]; omega) (by simp only [vS]; omega)))) <| zE (kE dZ) <| zR (qR qP) <| zE (kE dZ) <| zR (qR qP) <| zE (nJ (b * b) (hr := by exact (qO rfl (by simp only [vP]; omega) (by simp only [vS]; omega)))) <| zE (zAd ((a * a) + (b * b)) (hr := by exact (qO rfl (by simp only [vP]; omega) (by simp only [vS]; omega)))) <| zE (kE dW) <| zR (qR qP) <| zE (kE dW) <| zR (qR qP) <| zE (nJ (c * c) (hr := by exact (qO rfl (by simp only [vP]; omega) (by simp only [vS]; omega)))) <| zE (zAd (((a * a) + (b * b)) + (c * c)) (hr := by exact (qO rfl (by simp only [vP]; omega) (by simp only [vS]; omega)))) <| zE (kE dT) <| zR (qR qP) <| zE (kE dT) <| zR (qR qP) <| zE (nJ (d * d) (hr := by exact (qO rfl (by simp only [vP]; omega) (by simp only [vS]; omega)))) <| zE (zAd ((((a * a) + (b * b)) + (c * c)) + (d * d)) (hr := by exact (qO rfl (by simp only [vP]; omega) (by simp only [vS]; omega)))) <| zM <| zZ) ?_
 refine jF ⟨_, (.tmp (d := (.val (.int .i64 (((((a * a) + (b * b)) + (c * c)) + (d * d)))))) rfl .nil), ?_⟩
 rfl
theorem bR (a b c d : Int) (ha : -1048576 ≤ a ∧ a ≤ 1048576) (hb : -1048576 ≤ b ∧ b ≤ 1048576) (hc : -1048576 ≤ c ∧ c ≤ 1048576) (hd : -1048576 ≤ d ∧ d ≤ 1048576) : kH Tryz.prog 124 [(uR (jL.mk a b c d))] (jP (jD (N4 a b c d))) := by
 have saa := vM ha ha
 have sab := vM ha hb
 have sac := vM ha hc
 have sad := vM ha hd
 have sbb := vM hb hb
 have sbc := vM hb hc
 have sbd := vM hb hd
 have scc := vM hc hc
 have scd := vM hc hd
 have sdd := vM hd hd
 refine jM Tryz.func124 rfl cb124 rfl ?_
 show uY _ _ _ _ ⟨[(0, (.d (uR (jL.mk a b c d))))], []⟩
 refine jA <| kx [(1, (.ref 0 0)), (2, (.ref 1 0))] [(0, some (bx (uR (jL.mk a b c d)))), (1, some (bx (jP (jZ.mk (jI.mk false []) (jI.mk false [])))))] (zN (vD 0) <| zN (uK 1 qZ uF) <| zZ) ?_
 refine jA <| kx [] [(1, some (bx (jP (jD (((((a * a) + (b * b)) + (c * c)) + (d * d) : Int) : Rat)))))] (zE (kE dV) <| zR (qR qP) <| zE (kE dV) <| zR (qR qP) <| zE (nJ (a * a) (hr := by exact (qO rfl (by simp only [vP]; omega) (by simp only [vS]; omega)))) <| zE (kE dZ) <| zR (qR qP) <| zE (kE dZ) <| zR (qR qP) <| zE (nJ (b * b) (hr := by exact (qO rfl (by simp only [vP]; omega) (by simp only [vS]; omega)))) <| zE (zAd ((a * a) + (b * b)) (hr := by exact (qO rfl (by simp only [vP]; omega) (by simp only [vS]; omega)))) <| zE (kE dW) <| zR (qR qP) <| zE (kE dW) <| zR (qR qP) <| zE (nJ (c * c) (hr := by exact (qO rfl (by simp only [vP]; omega) (by simp only [vS]; omega)))) <| zE (zAd (((a * a) + (b * b)) + (c * c)) (hr := by exact (qO rfl (by simp only [vP]; omega) (by simp only [vS]; omega)))) <| zE (kE dT) <| zR (qR qP) <| zE (kE dT) <| zR (qR qP) <| zE (nJ (d * d) (hr := by exact (qO rfl (by simp only [vP]; omega) (by simp only [vS]; omega)))) <| zE (zAd ((((a * a) + (b * b)) + (c * c)) + (d * d)) (hr := by exact (qO rfl (by simp only [vP]; omega) (by simp only [vS]; omega)))) <| zE (kB (nQ ((((a * a) + (b * b)) + (c * c)) + (d * d)) (by omega) (by omega))) <| zT (qG jR) <| zZ) ?_
 refine jF ⟨_, (qS (cs := (bx (jP (jD (((((a * a) + (b * b)) + (c * c)) + (d * d) : Int) : Rat))))) (d := (jP (jD (((((a * a) + (b * b)) + (c * c)) + (d * d) : Int) : Rat)))) rfl rfl jR rfl rfl .nil), ?_⟩
 rfl
end Go.Proofs.YtapjldagikfcmaaGreat
set_option linter.unusedVariables false
set_option linter.unusedSimpArgs false
namespace Go.Fid
end Go.Fid
set_option linter.unusedVariables false
set_option linter.unusedSimpArgs false
namespace Go.Fid
end Go.Fid
set_option linter.unusedVariables false
set_option linter.unusedSimpArgs false
namespace Go.Fid
theorem den_pos (u : Rat) : ((u.den : Nat) : Int) ≠ 0 := by have := u.den_pos; omega
end Go.Fid
namespace Go.Proofs.YtapjldagikfcmaaGreat
open Go.Fid
set_option maxRecDepth 4000
set_option linter.unusedVariables false
set_option linter.unusedSimpArgs false
theorem cb181 : callB Tryz.prog 181 = true := by kernel_rfl
theorem cb253 : callB Tryz.prog 253 = true := by kernel_rfl
theorem f_counted (x : jI) (a : Int) (hx : nO x a 68719476736) : kH Tryz.prog 253 [(jV x)] (jV (kN a)) := by
 refine jM Tryz.func253 rfl cb253 rfl ?_
 show uY _ _ _ _ ⟨[(0, (.d (jV x)))], []⟩
 refine jA <| kx [(1, (.ref 0 0)), (2, (.ref 1 0))] [(0, some (bx (jV x))), (1, some (bx (jV (jI.mk false []))))] (zN (vD 0) <| zN (uK 1 hH hM) <| zZ) ?_
 refine jA <| jA <| kx [(4, (vb (vO x)))] [] (zR (kC kK) <| zE (kB (t_valid x (Nat.le_trans hx.l (by decide)))) <| zZ) ?_
 refine jO (b := (vO x)) rfl (fun h1 => ?_) (fun h1 => ?_)
 ·refine jA <| kx [] [(1, some (bx (jV x)))] (zR (kC kK) <| zT (qG kK) <| zZ) ?_
  refine jF ⟨_, (qS (cs := (bx (jV x))) (d := (jV x)) rfl rfl kK rfl rfl .nil), ?_⟩
  rw [← hx.v, ofZ_toZ h1]; rfl
 ·refine jB <| jA <| kx [] [(1, some (bx (jV (kN 0))))] (zE (kB (t_of 0 (by decide) (by decide))) <| zT (qG kK) <| zZ) ?_
  refine jF ⟨_, (qS (cs := (bx (jV (kN 0)))) (d := (jV (kN 0))) rfl rfl kK rfl rfl .nil), ?_⟩
  rw [← hx.v, toZ_bad h1, ofZ_zero]; rfl
theorem f_newO (num : jI) (a : Int) (eU : nO num a 68719476736) (den : jI) (b : Int) (cP : nO den b 68719476736) (hb : b ≠ 0) : kH Tryz.prog 181 [(jV num), (jV den)] (.tup [(jP (jD (Rat.divInt a b))), (.val (.int .i64 (0)))]) := by
 refine jM Tryz.func181 rfl cb181 rfl ?_
 show uY _ _ _ _ ⟨[(0, (.d (jV num))), (1, (.d (jV den)))], []⟩
 refine jA <| kx [(2, (.ref 0 0)), (3, (.ref 1 0)), (4, (.ref 2 0))] [(0, some (bx (jV num))), (1, some (bx (jV den))), (2, some (bx (jP (jZ.mk (jI.mk false []) (jI.mk false [])))))] (zN (vD 0) <| zN (vD 1) <| zN (uK 2 qZ uF) <| zM <| zZ) ?_
 refine jA <| kd [] [(0, some (bx (jV (kN a)))), (1, some (bx (jV (kN b))))] mo (wR (kC kK) <| wE (kB (f_counted num a eU)) <| wR (kC kK) <| wE (kB (f_counted den b cP)) <| wT (qG kK) <| wT (qG kK) <| wZ) ?_
 refine jA <| jA <| kx [(12, (vb false))] [] (zR (kC kK) <| zE (kB (s_sign (dN (nO.ln cP)) (by decide))) <| zE (kR false xK (by exact beq_eq_false_iff_ne.2 (signI_ne hb))) <| zZ) ?_
 refine jT ?_
 refine jB <| jA <| kx [(5, (kD 0))] [(2, some (bx (jP (jD (Rat.divInt a b)))))] (zR (kC kK) <| zR (kC kK) <| zE (kB (f_reduced (kN a) (kN b) a b (dN (nO.ln eU)) (dN (nO.ln cP)) (by assumption))) <| zT (qG jR) <| zM <| zZ) ?_
 refine jF ⟨_, (qS (cs := (bx (jP (jD (Rat.divInt a b))))) (d := (jP (jD (Rat.divInt a b)))) rfl rfl jR rfl rfl (.tmp (d := (.val (.int .i64 (0)))) rfl .nil)), ?_⟩
 rfl
theorem g_newO (num : jI) (a : Int) (eU : nO num a 68719476736) (den : jI) (b : Int) (cP : nO den b 68719476736) (hb : b ≠ 0) : kH Tryz.prog 157 [(jV num), (jV den)] (.tup [(jP (jD (Rat.divInt a b))), (.val (.int .i64 (0)))]) := by
 refine jM Tryz.func157 rfl cb157 rfl ?_
 show uY _ _ _ _ ⟨[(0, (.d (jV num))), (1, (.d (jV den)))], []⟩
 refine jA <| kx [(2, (.ref 0 0)), (3, (.ref 1 0)), (4, (.ref 2 0))] [(0, some (bx (jV num))), (1, some (bx (jV den))), (2, some (bx (jP (jZ.mk (jI.mk false []) (jI.mk false [])))))] (zN (vD 0) <| zN (vD 1) <| zN (uK 2 qZ uF) <| zM <| zZ) ?_
 refine jA <| jA <| kx [(8, (vb false))] [] (zR (kC kK) <| zE (kB (rs_sign cP (by decide))) <| zE (kR false xK (by exact beq_eq_false_iff_ne.2 (signI_ne hb))) <| zZ) ?_
 refine jT ?_
 refine jB <| jA <| kx [(5, (kD 0))] [(2, some (bx (jP (jD (Rat.divInt a b)))))] (zR (kC kK) <| zR (kC kK) <| zE (kB (g_reduced num den a b eU cP (by assumption))) <| zT (qG jR) <| zM <| zZ) ?_
 refine jF ⟨_, (qS (cs := (bx (jP (jD (Rat.divInt a b))))) (d := (jP (jD (Rat.divInt a b)))) rfl rfl jR rfl rfl (.tmp (d := (.val (.int .i64 (0)))) rfl .nil)), ?_⟩
 rfl
end Go.Proofs.YtapjldagikfcmaaGreat
namespace Go.Fid
end Go.Fid
namespace Go.Proofs.YtapjldagikfcmaaGreat
open Go.Fid
set_option maxRecDepth 4000
set_option linter.unusedVariables false
set_option linter.unusedSimpArgs false
theorem cb70 : callB Tryz.prog 70 = true := by kernel_rfl
end Go.Proofs.YtapjldagikfcmaaGreat
