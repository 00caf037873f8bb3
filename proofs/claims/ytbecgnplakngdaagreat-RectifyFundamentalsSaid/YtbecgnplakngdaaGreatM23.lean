/- Part 23 of a proof: rules, plain facts, and functions walked. -/
import Derived.Test.YtbecgnplakngdaaGreatM22
import Derived.Test.YtbecgnplakngdaaGreatM18
import Derived.Test.YtbecgnplakngdaaGreatM20
import Derived.Test.YtbecgnplakngdaaGreatM19
import Derived.Test.YtbecgnplakngdaaGreatM10
namespace Go.Proofs.YtbecgnplakngdaaGreat
open Go.Fid
set_option maxRecDepth 4000
set_option linter.unusedVariables false
set_option linter.unusedSimpArgs false
theorem cb77 : callB Tryz.prog 77 = true := by kernel_rfl
theorem cb126 : callB Tryz.prog 126 = true := by kernel_rfl
theorem cb169 : callB Tryz.prog 169 = true := by kernel_rfl
theorem cb172 : callB Tryz.prog 172 = true := by kernel_rfl
theorem q_norm (a b c d : Int) (ha : -1048576 ≤ a ∧ a ≤ 1048576) (hb : -1048576 ≤ b ∧ b ≤ 1048576) (hc : -1048576 ≤ c ∧ c ≤ 1048576) (hd : -1048576 ≤ d ∧ d ≤ 1048576) : kH Tryz.prog 126 [(qX (jU.mk a b c d))] (.val (.int .i64 ((nq a b c d)))) := by
 have saa := vB ha ha
 have sab := vB ha hb
 have sac := vB ha hc
 have sad := vB ha hd
 have sbb := vB hb hb
 have sbc := vB hb hc
 have sbd := vB hb hd
 have scc := vB hc hc
 have scd := vB hc hd
 have sdd := vB hd hd
 refine jP Tryz.func126 rfl cb126 rfl ?_
 show uK _ _ _ _ ⟨[(0, (.d (qX (jU.mk a b c d))))], []⟩
 refine jA <| kx [(1, (.ref 0 0))] [(0, some (bx (qX (jU.mk a b c d))))] (zN (vS 0) <| zM <| zZ) ?_
 refine jA <| kx [(2, (vi ((((a * a) + (b * b)) + (c * c)) + (d * d))))] [] (zE (kS eI) <| zR (uF uQ) <| zE (kS eI) <| zR (uF uQ) <| zE (mC (a * a) (hr := by exact (qK rfl (by simp only [xC]; omega) (by simp only [xF]; omega)))) <| zE (kS eG) <| zR (uF uQ) <| zE (kS eG) <| zR (uF uQ) <| zE (mC (b * b) (hr := by exact (qK rfl (by simp only [xC]; omega) (by simp only [xF]; omega)))) <| zE (zAd ((a * a) + (b * b)) (hr := by exact (qK rfl (by simp only [xC]; omega) (by simp only [xF]; omega)))) <| zE (kS eH) <| zR (uF uQ) <| zE (kS eH) <| zR (uF uQ) <| zE (mC (c * c) (hr := by exact (qK rfl (by simp only [xC]; omega) (by simp only [xF]; omega)))) <| zE (zAd (((a * a) + (b * b)) + (c * c)) (hr := by exact (qK rfl (by simp only [xC]; omega) (by simp only [xF]; omega)))) <| zE (kS eL) <| zR (uF uQ) <| zE (kS eL) <| zR (uF uQ) <| zE (mC (d * d) (hr := by exact (qK rfl (by simp only [xC]; omega) (by simp only [xF]; omega)))) <| zE (zAd ((((a * a) + (b * b)) + (c * c)) + (d * d)) (hr := by exact (qK rfl (by simp only [xC]; omega) (by simp only [xF]; omega)))) <| zM <| zZ) ?_
 refine jJ ⟨_, (.tmp (d := (.val (.int .i64 (((((a * a) + (b * b)) + (c * c)) + (d * d)))))) rfl .nil), ?_⟩
 rfl
theorem fU (a b c d : Int) (ha : -1048576 ≤ a ∧ a ≤ 1048576) (hb : -1048576 ≤ b ∧ b ≤ 1048576) (hc : -1048576 ≤ c ∧ c ≤ 1048576) (hd : -1048576 ≤ d ∧ d ≤ 1048576) : kH Tryz.prog 169 [(qX (jU.mk a b c d))] (.val (.int .i64 ((nq a b c d)))) := by
 have saa := vB ha ha
 have sab := vB ha hb
 have sac := vB ha hc
 have sad := vB ha hd
 have sbb := vB hb hb
 have sbc := vB hb hc
 have sbd := vB hb hd
 have scc := vB hc hc
 have scd := vB hc hd
 have sdd := vB hd hd
 refine jP Tryz.func169 rfl cb169 rfl ?_
 show uK _ _ _ _ ⟨[(0, (.d (qX (jU.mk a b c d))))], []⟩
 refine jA <| kx [(1, (.ref 0 0))] [(0, some (bx (qX (jU.mk a b c d))))] (zN (vS 0) <| zM <| zZ) ?_
 refine jA <| kx [(2, (vi ((((a * a) + (b * b)) + (c * c)) + (d * d))))] [] (zE (kS eI) <| zR (uF uQ) <| zE (kS eI) <| zR (uF uQ) <| zE (mC (a * a) (hr := by exact (qK rfl (by simp only [xC]; omega) (by simp only [xF]; omega)))) <| zE (kS eG) <| zR (uF uQ) <| zE (kS eG) <| zR (uF uQ) <| zE (mC (b * b) (hr := by exact (qK rfl (by simp only [xC]; omega) (by simp only [xF]; omega)))) <| zE (zAd ((a * a) + (b * b)) (hr := by exact (qK rfl (by simp only [xC]; omega) (by simp only [xF]; omega)))) <| zE (kS eH) <| zR (uF uQ) <| zE (kS eH) <| zR (uF uQ) <| zE (mC (c * c) (hr := by exact (qK rfl (by simp only [xC]; omega) (by simp only [xF]; omega)))) <| zE (zAd (((a * a) + (b * b)) + (c * c)) (hr := by exact (qK rfl (by simp only [xC]; omega) (by simp only [xF]; omega)))) <| zE (kS eL) <| zR (uF uQ) <| zE (kS eL) <| zR (uF uQ) <| zE (mC (d * d) (hr := by exact (qK rfl (by simp only [xC]; omega) (by simp only [xF]; omega)))) <| zE (zAd ((((a * a) + (b * b)) + (c * c)) + (d * d)) (hr := by exact (qK rfl (by simp only [xC]; omega) (by simp only [xF]; omega)))) <| zM <| zZ) ?_
 refine jJ ⟨_, (.tmp (d := (.val (.int .i64 (((((a * a) + (b * b)) + (c * c)) + (d * d)))))) rfl .nil), ?_⟩
 rfl
theorem fV (a b c d : Int) (ha : -1048576 ≤ a ∧ a ≤ 1048576) (hb : -1048576 ≤ b ∧ b ≤ 1048576) (hc : -1048576 ≤ c ∧ c ≤ 1048576) (hd : -1048576 ≤ d ∧ d ≤ 1048576) : kH Tryz.prog 172 [(qX (jU.mk a b c d))] (.val (.int .i64 ((nq a b c d)))) := by
 have saa := vB ha ha
 have sab := vB ha hb
 have sac := vB ha hc
 have sad := vB ha hd
 have sbb := vB hb hb
 have sbc := vB hb hc
 have sbd := vB hb hd
 have scc := vB hc hc
 have scd := vB hc hd
 have sdd := vB hd hd
 refine jP Tryz.func172 rfl cb172 rfl ?_
 show uK _ _ _ _ ⟨[(0, (.d (qX (jU.mk a b c d))))], []⟩
 refine jA <| kx [(1, (.ref 0 0))] [(0, some (bx (qX (jU.mk a b c d))))] (zN (vS 0) <| zM <| zZ) ?_
 refine jA <| kx [(2, (vi ((((a * a) + (b * b)) + (c * c)) + (d * d))))] [] (zE (kS eI) <| zR (uF uQ) <| zE (kS eI) <| zR (uF uQ) <| zE (mC (a * a) (hr := by exact (qK rfl (by simp only [xC]; omega) (by simp only [xF]; omega)))) <| zE (kS eG) <| zR (uF uQ) <| zE (kS eG) <| zR (uF uQ) <| zE (mC (b * b) (hr := by exact (qK rfl (by simp only [xC]; omega) (by simp only [xF]; omega)))) <| zE (zAd ((a * a) + (b * b)) (hr := by exact (qK rfl (by simp only [xC]; omega) (by simp only [xF]; omega)))) <| zE (kS eH) <| zR (uF uQ) <| zE (kS eH) <| zR (uF uQ) <| zE (mC (c * c) (hr := by exact (qK rfl (by simp only [xC]; omega) (by simp only [xF]; omega)))) <| zE (zAd (((a * a) + (b * b)) + (c * c)) (hr := by exact (qK rfl (by simp only [xC]; omega) (by simp only [xF]; omega)))) <| zE (kS eL) <| zR (uF uQ) <| zE (kS eL) <| zR (uF uQ) <| zE (mC (d * d) (hr := by exact (qK rfl (by simp only [xC]; omega) (by simp only [xF]; omega)))) <| zE (zAd ((((a * a) + (b * b)) + (c * c)) + (d * d)) (hr := by exact (qK rfl (by simp only [xC]; omega) (by simp only [xF]; omega)))) <| zM <| zZ) ?_
 refine jJ ⟨_, (.tmp (d := (.val (.int .i64 (((((a * a) + (b * b)) + (c * c)) + (d * d)))))) rfl .nil), ?_⟩
 rfl
theorem iX (a b c d : Int) (ha : -1048576 ≤ a ∧ a ≤ 1048576) (hb : -1048576 ≤ b ∧ b ≤ 1048576) (hc : -1048576 ≤ c ∧ c ≤ 1048576) (hd : -1048576 ≤ d ∧ d ≤ 1048576) : kH Tryz.prog 77 [(qX (jU.mk a b c d))] (jM (jB (N4 a b c d))) := by
 have saa := vB ha ha
 have sab := vB ha hb
 have sac := vB ha hc
 have sad := vB ha hd
 have sbb := vB hb hb
 have sbc := vB hb hc
 have sbd := vB hb hd
 have scc := vB hc hc
 have scd := vB hc hd
 have sdd := vB hd hd
 refine jP Tryz.func77 rfl cb77 rfl ?_
 show uK _ _ _ _ ⟨[(0, (.d (qX (jU.mk a b c d))))], []⟩
 refine jA <| kx [(1, (.ref 0 0)), (2, (.ref 1 0))] [(0, some (bx (qX (jU.mk a b c d)))), (1, some (bx (jM (kC.mk (jK.mk false []) (jK.mk false [])))))] (zN (vS 0) <| zN (qW 1 qA qH) <| zZ) ?_
 refine jA <| kx [] [(1, some (bx (jM (jB (((((a * a) + (b * b)) + (c * c)) + (d * d) : Int) : Rat)))))] (zE (kS eI) <| zR (uF uQ) <| zE (kS eI) <| zR (uF uQ) <| zE (mC (a * a) (hr := by exact (qK rfl (by simp only [xC]; omega) (by simp only [xF]; omega)))) <| zE (kS eG) <| zR (uF uQ) <| zE (kS eG) <| zR (uF uQ) <| zE (mC (b * b) (hr := by exact (qK rfl (by simp only [xC]; omega) (by simp only [xF]; omega)))) <| zE (zAd ((a * a) + (b * b)) (hr := by exact (qK rfl (by simp only [xC]; omega) (by simp only [xF]; omega)))) <| zE (kS eH) <| zR (uF uQ) <| zE (kS eH) <| zR (uF uQ) <| zE (mC (c * c) (hr := by exact (qK rfl (by simp only [xC]; omega) (by simp only [xF]; omega)))) <| zE (zAd (((a * a) + (b * b)) + (c * c)) (hr := by exact (qK rfl (by simp only [xC]; omega) (by simp only [xF]; omega)))) <| zE (kS eL) <| zR (uF uQ) <| zE (kS eL) <| zR (uF uQ) <| zE (mC (d * d) (hr := by exact (qK rfl (by simp only [xC]; omega) (by simp only [xF]; omega)))) <| zE (zAd ((((a * a) + (b * b)) + (c * c)) + (d * d)) (hr := by exact (qK rfl (by simp only [xC]; omega) (by simp only [xF]; omega)))) <| zE (kA (cV ((((a * a) + (b * b)) + (c * c)) + (d * d)) (by omega) (by omega))) <| zT (kW jO) <| zZ) ?_
 refine jJ ⟨_, (qC (cs := (bx (jM (jB (((((a * a) + (b * b)) + (c * c)) + (d * d) : Int) : Rat))))) (d := (jM (jB (((((a * a) + (b * b)) + (c * c)) + (d * d) : Int) : Rat)))) rfl rfl jO rfl rfl .nil), ?_⟩
 rfl
end Go.Proofs.YtbecgnplakngdaaGreat
namespace Go.Proofs.YtbecgnplakngdaaGreat
open Go.Fid
set_option maxRecDepth 4000
set_option linter.unusedVariables false
set_option linter.unusedSimpArgs false
end Go.Proofs.YtbecgnplakngdaaGreat
namespace Go.Proofs.YtbecgnplakngdaaGreat
open Go.Fid
set_option maxRecDepth 4000
set_option linter.unusedVariables false
set_option linter.unusedSimpArgs false
end Go.Proofs.YtbecgnplakngdaaGreat
namespace Go.Proofs.YtbecgnplakngdaaGreat
open Go.Fid
set_option maxRecDepth 4000
set_option linter.unusedVariables false
set_option linter.unusedSimpArgs false
end Go.Proofs.YtbecgnplakngdaaGreat
namespace Go.Proofs.YtbecgnplakngdaaGreat
open Go.Fid
set_option maxRecDepth 4000
set_option linter.unusedVariables false
set_option linter.unusedSimpArgs false
end Go.Proofs.YtbecgnplakngdaaGreat
set_option linter.unusedVariables false
set_option linter.unusedSimpArgs false
namespace Go.Fid
end Go.Fid
set_option linter.unusedVariables false
set_option linter.unusedSimpArgs false
namespace Go.Fid
end Go.Fid
set_option linter.unusedVariables false
set_option linter.unusedSimpArgs false
namespace Go.Fid
theorem den_pos (u : Rat) : ((u.den : Nat) : Int) ≠ 0 := by have := u.den_pos; omega
end Go.Fid
namespace Go.Proofs.YtbecgnplakngdaaGreat
open Go.Fid
set_option maxRecDepth 4000
set_option linter.unusedVariables false
set_option linter.unusedSimpArgs false
theorem cb167 : callB Tryz.prog 167 = true := by kernel_rfl
theorem cb204 : callB Tryz.prog 204 = true := by kernel_rfl
theorem fo56_0 : xH Tryz.prog 56 0 = some 0 := by kernel_rfl
theorem fo56_1 : xH Tryz.prog 56 1 = some 4 := by kernel_rfl
theorem pl56 : cY Tryz.prog 56 = some [(0, 4), (4, 4)] := by kernel_rfl
theorem iG : qY Tryz.prog 56 = some (true, 8) := by kernel_rfl
theorem ze56 : xJ Tryz.prog 56 = some [.bool false, .slice none 0 0, .bool false, .slice none 0 0, .bool false, .slice none 0 0, .bool false, .slice none 0 0] := by kernel_rfl
theorem zo56 : dB [.bool false, .slice none 0 0, .bool false, .slice none 0 0, .bool false, .slice none 0 0, .bool false, .slice none 0 0] [.val (.bool false), .sl 152 1 [], .val (.bool false), .sl 152 1 [], .val (.bool false), .sl 152 1 [], .val (.bool false), .sl 152 1 []] := by simp [dB, Value.oneCell']
theorem f_counted (x : jK) (a : Int) (hx : mG x a 68719476736) : kH Tryz.prog 204 [(jZ x)] (jZ (kT a)) := by
 refine jP Tryz.func204 rfl cb204 rfl ?_
 show uK _ _ _ _ ⟨[(0, (.d (jZ x)))], []⟩
 refine jA <| kx [(1, (.ref 0 0)), (2, (.ref 1 0))] [(0, some (bx (jZ x))), (1, some (bx (jZ (jK.mk false []))))] (zN (vS 0) <| zN (qW 1 nN nR) <| zZ) ?_
 refine jA <| jA <| kx [(4, (vb (vF x)))] [] (zR (kF kK) <| zE (kA (t_valid x (Nat.le_trans hx.l (by decide)))) <| zZ) ?_
 refine jV (b := (vF x)) rfl (fun h1 => ?_) (fun h1 => ?_)
 ·refine jA <| kx [] [(1, some (bx (jZ x)))] (zR (kF kK) <| zT (kW kK) <| zZ) ?_
  refine jJ ⟨_, (qC (cs := (bx (jZ x))) (d := (jZ x)) rfl rfl kK rfl rfl .nil), ?_⟩
  rw [← hx.v, ofZ_toZ h1]; rfl
 ·refine jE <| jA <| kx [] [(1, some (bx (jZ (kT 0))))] (zE (kA (t_of 0 (by decide) (by decide))) <| zT (kW kK) <| zZ) ?_
  refine jJ ⟨_, (qC (cs := (bx (jZ (kT 0)))) (d := (jZ (kT 0))) rfl rfl kK rfl rfl .nil), ?_⟩
  rw [← hx.v, toZ_bad h1, ofZ_zero]; rfl
theorem f_newO (num : jK) (a : Int) (fM : mG num a 68719476736) (den : jK) (b : Int) (dK : mG den b 68719476736) (hb : b ≠ 0) : kH Tryz.prog 167 [(jZ num), (jZ den)] (.tup [(jM (jB (Rat.divInt a b))), (.val (.int .i64 (0)))]) := by
 refine jP Tryz.func167 rfl cb167 rfl ?_
 show uK _ _ _ _ ⟨[(0, (.d (jZ num))), (1, (.d (jZ den)))], []⟩
 refine jA <| kx [(2, (.ref 0 0)), (3, (.ref 1 0)), (4, (.ref 2 0))] [(0, some (bx (jZ num))), (1, some (bx (jZ den))), (2, some (bx (jM (kC.mk (jK.mk false []) (jK.mk false [])))))] (zN (vS 0) <| zN (vS 1) <| zN (qW 2 qA qH) <| zM <| zZ) ?_
 refine jA <| kd [] [(0, some (bx (jZ (kT a)))), (1, some (bx (jZ (kT b))))] mo (wR (kF kK) <| wE (kA (f_counted num a fM)) <| wR (kF kK) <| wE (kA (f_counted den b dK)) <| wT (kW kK) <| wT (kW kK) <| wZ) ?_
 refine jA <| jA <| kx [(12, (vb false))] [] (zR (kF kK) <| zE (kA (s_sign (aC (mG.ln dK)) (by decide))) <| zE (qL false cB (by exact beq_eq_false_iff_ne.2 (signI_ne hb))) <| zZ) ?_
 refine kG ?_
 refine jE <| jA <| kx [(5, (kD 0))] [(2, some (bx (jM (jB (Rat.divInt a b)))))] (zR (kF kK) <| zR (kF kK) <| zE (kA (f_reduced (kT a) (kT b) a b (aC (mG.ln fM)) (aC (mG.ln dK)) (by assumption))) <| zT (kW jO) <| zM <| zZ) ?_
 refine jJ ⟨_, (qC (cs := (bx (jM (jB (Rat.divInt a b))))) (d := (jM (jB (Rat.divInt a b)))) rfl rfl jO rfl rfl (.tmp (d := (.val (.int .i64 (0)))) rfl .nil)), ?_⟩
 rfl
theorem g_newO (num : jK) (a : Int) (fM : mG num a 68719476736) (den : jK) (b : Int) (dK : mG den b 68719476736) (hb : b ≠ 0) : kH Tryz.prog 26 [(jZ num), (jZ den)] (.tup [(jM (jB (Rat.divInt a b))), (.val (.int .i64 (0)))]) := by
 refine jP Tryz.func26 rfl cb26 rfl ?_
 show uK _ _ _ _ ⟨[(0, (.d (jZ num))), (1, (.d (jZ den)))], []⟩
 refine jA <| kx [(2, (.ref 0 0)), (3, (.ref 1 0)), (4, (.ref 2 0))] [(0, some (bx (jZ num))), (1, some (bx (jZ den))), (2, some (bx (jM (kC.mk (jK.mk false []) (jK.mk false [])))))] (zN (vS 0) <| zN (vS 1) <| zN (qW 2 qA qH) <| zM <| zZ) ?_
 refine jA <| jA <| kx [(8, (vb false))] [] (zR (kF kK) <| zE (kA (rs_sign dK (by decide))) <| zE (qL false cB (by exact beq_eq_false_iff_ne.2 (signI_ne hb))) <| zZ) ?_
 refine kG ?_
 refine jE <| jA <| kx [(5, (kD 0))] [(2, some (bx (jM (jB (Rat.divInt a b)))))] (zR (kF kK) <| zR (kF kK) <| zE (kA (g_reduced num den a b fM dK (by assumption))) <| zT (kW jO) <| zM <| zZ) ?_
 refine jJ ⟨_, (qC (cs := (bx (jM (jB (Rat.divInt a b))))) (d := (jM (jB (Rat.divInt a b)))) rfl rfl jO rfl rfl (.tmp (d := (.val (.int .i64 (0)))) rfl .nil)), ?_⟩
 rfl
end Go.Proofs.YtbecgnplakngdaaGreat
namespace Go.Fid
end Go.Fid
namespace Go.Proofs.YtbecgnplakngdaaGreat
open Go.Fid
set_option maxRecDepth 4000
set_option linter.unusedVariables false
set_option linter.unusedSimpArgs false
theorem cb63 : callB Tryz.prog 63 = true := by kernel_rfl
end Go.Proofs.YtbecgnplakngdaaGreat
