/- Part 23 of a proof: rules, plain facts, and functions walked. -/
import Derived.Test.YtbecgnplakngdaaGreatM22
import Derived.Test.YtbecgnplakngdaaGreatM18
import Derived.Test.YtbecgnplakngdaaGreatM20
import Derived.Test.YtbecgnplakngdaaGreatM19
import Derived.Test.YtbecgnplakngdaaGreatM10
namespace Go.Proofs.YtbecgnplakngdaaGreat
open Go.Fid
set_option maxRecDepth 4000
set_option linter.unusedVariables false
set_option linter.unusedSimpArgs false
theorem cb77 : callB Tryz.prog 77 = true := by kernel_rfl
theorem cb126 : callB Tryz.prog 126 = true := by kernel_rfl
theorem cb169 : callB Tryz.prog 169 = true := by kernel_rfl
theorem cb172 : callB Tryz.prog 172 = true := by kernel_rfl
theorem q_norm (a b c d : Int) (ha : -1048576 ≤ a ∧ a ≤ 1048576) (hb : -1048576 ≤ b ∧ b ≤ 1048576) (hc : -1048576 ≤ c ∧ c ≤ 1048576) (hd : -1048576 ≤ d ∧ d ≤ 1048576) : kE Tryz.prog 126 [(uJ (jK.mk a b c d))] (.val (.int .i64 ((nq a b c d)))) := by
 have saa := vM ha ha
 have sab := vM ha hb
 have sac := vM ha hc
 have sad := vM ha hd
 have sbb := vM hb hb
 have sbc := vM hb hc
 have sbd := vM hb hd
 have scc := vM hc hc
 have scd := vM hc hd
 have sdd := vM hd hd
 refine jN Tryz.func126 rfl cb126 rfl ?_
 show uT _ _ _ _ ⟨[(0, (.d (uJ (jK.mk a b c d))))], []⟩
 refine jA <| kx [(1, (.ref 0 0))] [(0, some (bx (uJ (jK.mk a b c d))))] (zN (uX 0) <| zM <| zZ) ?_
 refine jA <| kx [(2, (vi ((((a * a) + (b * b)) + (c * c)) + (d * d))))] [] (zE (qE cP) <| zR (vD vQ) <| zE (qE cP) <| zR (vD vQ) <| zE (hP (a * a) (hr := by exact (qX rfl (by simp only [xG]; omega) (by simp only [xJ]; omega)))) <| zE (qE cQ) <| zR (vD vQ) <| zE (qE cQ) <| zR (vD vQ) <| zE (hP (b * b) (hr := by exact (qX rfl (by simp only [xG]; omega) (by simp only [xJ]; omega)))) <| zE (zAd ((a * a) + (b * b)) (hr := by exact (qX rfl (by simp only [xG]; omega) (by simp only [xJ]; omega)))) <| zE (qE cS) <| zR (vD vQ) <| zE (qE cS) <| zR (vD vQ) <| zE (hP (c * c) (hr := by exact (qX rfl (by simp only [xG]; omega) (by simp only [xJ]; omega)))) <| zE (zAd (((a * a) + (b * b)) + (c * c)) (hr := by exact (qX rfl (by simp only [xG]; omega) (by simp only [xJ]; omega)))) <| zE (qE cU) <| zR (vD vQ) <| zE (qE cU) <| zR (vD vQ) <| zE (hP (d * d) (hr := by exact (qX rfl (by simp only [xG]; omega) (by simp only [xJ]; omega)))) <| zE (zAd ((((a * a) + (b * b)) + (c * c)) + (d * d)) (hr := by exact (qX rfl (by simp only [xG]; omega) (by simp only [xJ]; omega)))) <| zM <| zZ) ?_
 refine jJ ⟨_, (.tmp (d := (.val (.int .i64 (((((a * a) + (b * b)) + (c * c)) + (d * d)))))) rfl .nil), ?_⟩
 rfl
theorem eM (a b c d : Int) (ha : -1048576 ≤ a ∧ a ≤ 1048576) (hb : -1048576 ≤ b ∧ b ≤ 1048576) (hc : -1048576 ≤ c ∧ c ≤ 1048576) (hd : -1048576 ≤ d ∧ d ≤ 1048576) : kE Tryz.prog 169 [(uJ (jK.mk a b c d))] (.val (.int .i64 ((nq a b c d)))) := by
 have saa := vM ha ha
 have sab := vM ha hb
 have sac := vM ha hc
 have sad := vM ha hd
 have sbb := vM hb hb
 have sbc := vM hb hc
 have sbd := vM hb hd
 have scc := vM hc hc
 have scd := vM hc hd
 have sdd := vM hd hd
 refine jN Tryz.func169 rfl cb169 rfl ?_
 show uT _ _ _ _ ⟨[(0, (.d (uJ (jK.mk a b c d))))], []⟩
 refine jA <| kx [(1, (.ref 0 0))] [(0, some (bx (uJ (jK.mk a b c d))))] (zN (uX 0) <| zM <| zZ) ?_
 refine jA <| kx [(2, (vi ((((a * a) + (b * b)) + (c * c)) + (d * d))))] [] (zE (qE cP) <| zR (vD vQ) <| zE (qE cP) <| zR (vD vQ) <| zE (hP (a * a) (hr := by exact (qX rfl (by simp only [xG]; omega) (by simp only [xJ]; omega)))) <| zE (qE cQ) <| zR (vD vQ) <| zE (qE cQ) <| zR (vD vQ) <| zE (hP (b * b) (hr := by exact (qX rfl (by simp only [xG]; omega) (by simp only [xJ]; omega)))) <| zE (zAd ((a * a) + (b * b)) (hr := by exact (qX rfl (by simp only [xG]; omega) (by simp only [xJ]; omega)))) <| zE (qE cS) <| zR (vD vQ) <| zE (qE cS) <| zR (vD vQ) <| zE (hP (c * c) (hr := by exact (qX rfl (by simp only [xG]; omega) (by simp only [xJ]; omega)))) <| zE (zAd (((a * a) + (b * b)) + (c * c)) (hr := by exact (qX rfl (by simp only [xG]; omega) (by simp only [xJ]; omega)))) <| zE (qE cU) <| zR (vD vQ) <| zE (qE cU) <| zR (vD vQ) <| zE (hP (d * d) (hr := by exact (qX rfl (by simp only [xG]; omega) (by simp only [xJ]; omega)))) <| zE (zAd ((((a * a) + (b * b)) + (c * c)) + (d * d)) (hr := by exact (qX rfl (by simp only [xG]; omega) (by simp only [xJ]; omega)))) <| zM <| zZ) ?_
 refine jJ ⟨_, (.tmp (d := (.val (.int .i64 (((((a * a) + (b * b)) + (c * c)) + (d * d)))))) rfl .nil), ?_⟩
 rfl
theorem eO (a b c d : Int) (ha : -1048576 ≤ a ∧ a ≤ 1048576) (hb : -1048576 ≤ b ∧ b ≤ 1048576) (hc : -1048576 ≤ c ∧ c ≤ 1048576) (hd : -1048576 ≤ d ∧ d ≤ 1048576) : kE Tryz.prog 172 [(uJ (jK.mk a b c d))] (.val (.int .i64 ((nq a b c d)))) := by
 have saa := vM ha ha
 have sab := vM ha hb
 have sac := vM ha hc
 have sad := vM ha hd
 have sbb := vM hb hb
 have sbc := vM hb hc
 have sbd := vM hb hd
 have scc := vM hc hc
 have scd := vM hc hd
 have sdd := vM hd hd
 refine jN Tryz.func172 rfl cb172 rfl ?_
 show uT _ _ _ _ ⟨[(0, (.d (uJ (jK.mk a b c d))))], []⟩
 refine jA <| kx [(1, (.ref 0 0))] [(0, some (bx (uJ (jK.mk a b c d))))] (zN (uX 0) <| zM <| zZ) ?_
 refine jA <| kx [(2, (vi ((((a * a) + (b * b)) + (c * c)) + (d * d))))] [] (zE (qE cP) <| zR (vD vQ) <| zE (qE cP) <| zR (vD vQ) <| zE (hP (a * a) (hr := by exact (qX rfl (by simp only [xG]; omega) (by simp only [xJ]; omega)))) <| zE (qE cQ) <| zR (vD vQ) <| zE (qE cQ) <| zR (vD vQ) <| zE (hP (b * b) (hr := by exact (qX rfl (by simp only [xG]; omega) (by simp only [xJ]; omega)))) <| zE (zAd ((a * a) + (b * b)) (hr := by exact (qX rfl (by simp only [xG]; omega) (by simp only [xJ]; omega)))) <| zE (qE cS) <| zR (vD vQ) <| zE (qE cS) <| zR (vD vQ) <| zE (hP (c * c) (hr := by exact (qX rfl (by simp only [xG]; omega) (by simp only [xJ]; omega)))) <| zE (zAd (((a * a) + (b * b)) + (c * c)) (hr := by exact (qX rfl (by simp only [xG]; omega) (by simp only [xJ]; omega)))) <| zE (qE cU) <| zR (vD vQ) <| zE (qE cU) <| zR (vD vQ) <| zE (hP (d * d) (hr := by exact (qX rfl (by simp only [xG]; omega) (by simp only [xJ]; omega)))) <| zE (zAd ((((a * a) + (b * b)) + (c * c)) + (d * d)) (hr := by exact (qX rfl (by simp only [xG]; omega) (by simp only [xJ]; omega)))) <| zM <| zZ) ?_
 refine jJ ⟨_, (.tmp (d := (.val (.int .i64 (((((a * a) + (b * b)) + (c * c)) + (d * d)))))) rfl .nil), ?_⟩
 rfl
theorem bG (a b c d : Int) (ha : -1048576 ≤ a ∧ a ≤ 1048576) (hb : -1048576 ≤ b ∧ b ≤ 1048576) (hc : -1048576 ≤ c ∧ c ≤ 1048576) (hd : -1048576 ≤ d ∧ d ≤ 1048576) : kE Tryz.prog 77 [(uJ (jK.mk a b c d))] (jR (jB (N4 a b c d))) := by
 have saa := vM ha ha
 have sab := vM ha hb
 have sac := vM ha hc
 have sad := vM ha hd
 have sbb := vM hb hb
 have sbc := vM hb hc
 have sbd := vM hb hd
 have scc := vM hc hc
 have scd := vM hc hd
 have sdd := vM hd hd
 refine jN Tryz.func77 rfl cb77 rfl ?_
 show uT _ _ _ _ ⟨[(0, (.d (uJ (jK.mk a b c d))))], []⟩
 refine jA <| kx [(1, (.ref 0 0)), (2, (.ref 1 0))] [(0, some (bx (uJ (jK.mk a b c d)))), (1, some (bx (jR (jQ.mk (jF.mk false []) (jF.mk false [])))))] (zN (uX 0) <| zN (qS 1 qR qY) <| zZ) ?_
 refine jA <| kx [] [(1, some (bx (jR (jB (((((a * a) + (b * b)) + (c * c)) + (d * d) : Int) : Rat)))))] (zE (qE cP) <| zR (vD vQ) <| zE (qE cP) <| zR (vD vQ) <| zE (hP (a * a) (hr := by exact (qX rfl (by simp only [xG]; omega) (by simp only [xJ]; omega)))) <| zE (qE cQ) <| zR (vD vQ) <| zE (qE cQ) <| zR (vD vQ) <| zE (hP (b * b) (hr := by exact (qX rfl (by simp only [xG]; omega) (by simp only [xJ]; omega)))) <| zE (zAd ((a * a) + (b * b)) (hr := by exact (qX rfl (by simp only [xG]; omega) (by simp only [xJ]; omega)))) <| zE (qE cS) <| zR (vD vQ) <| zE (qE cS) <| zR (vD vQ) <| zE (hP (c * c) (hr := by exact (qX rfl (by simp only [xG]; omega) (by simp only [xJ]; omega)))) <| zE (zAd (((a * a) + (b * b)) + (c * c)) (hr := by exact (qX rfl (by simp only [xG]; omega) (by simp only [xJ]; omega)))) <| zE (qE cU) <| zR (vD vQ) <| zE (qE cU) <| zR (vD vQ) <| zE (hP (d * d) (hr := by exact (qX rfl (by simp only [xG]; omega) (by simp only [xJ]; omega)))) <| zE (zAd ((((a * a) + (b * b)) + (c * c)) + (d * d)) (hr := by exact (qX rfl (by simp only [xG]; omega) (by simp only [xJ]; omega)))) <| zE (kA (gD ((((a * a) + (b * b)) + (c * c)) + (d * d)) (by omega) (by omega))) <| zT (qB jT) <| zZ) ?_
 refine jJ ⟨_, (qI (cs := (bx (jR (jB (((((a * a) + (b * b)) + (c * c)) + (d * d) : Int) : Rat))))) (d := (jR (jB (((((a * a) + (b * b)) + (c * c)) + (d * d) : Int) : Rat)))) rfl rfl jT rfl rfl .nil), ?_⟩
 rfl
end Go.Proofs.YtbecgnplakngdaaGreat
namespace Go.Proofs.YtbecgnplakngdaaGreat
open Go.Fid
set_option maxRecDepth 4000
set_option linter.unusedVariables false
set_option linter.unusedSimpArgs false
end Go.Proofs.YtbecgnplakngdaaGreat
namespace Go.Proofs.YtbecgnplakngdaaGreat
open Go.Fid
set_option maxRecDepth 4000
set_option linter.unusedVariables false
set_option linter.unusedSimpArgs false
end Go.Proofs.YtbecgnplakngdaaGreat
namespace Go.Proofs.YtbecgnplakngdaaGreat
open Go.Fid
set_option maxRecDepth 4000
set_option linter.unusedVariables false
set_option linter.unusedSimpArgs false
end Go.Proofs.YtbecgnplakngdaaGreat
namespace Go.Proofs.YtbecgnplakngdaaGreat
open Go.Fid
set_option maxRecDepth 4000
set_option linter.unusedVariables false
set_option linter.unusedSimpArgs false
end Go.Proofs.YtbecgnplakngdaaGreat
set_option linter.unusedVariables false
set_option linter.unusedSimpArgs false
namespace Go.Fid
end Go.Fid
set_option linter.unusedVariables false
set_option linter.unusedSimpArgs false
namespace Go.Fid
end Go.Fid
set_option linter.unusedVariables false
set_option linter.unusedSimpArgs false
namespace Go.Fid
theorem den_pos (u : Rat) : ((u.den : Nat) : Int) ≠ 0 := by have := u.den_pos; omega
end Go.Fid
namespace Go.Proofs.YtbecgnplakngdaaGreat
open Go.Fid
set_option maxRecDepth 4000
set_option linter.unusedVariables false
set_option linter.unusedSimpArgs false
theorem cb36 : callB Tryz.prog 36 = true := by kernel_rfl
theorem cb167 : callB Tryz.prog 167 = true := by kernel_rfl
theorem cb204 : callB Tryz.prog 204 = true := by kernel_rfl
theorem cB : xE Tryz.prog 56 0 = some 0 := by kernel_rfl
theorem cC : xE Tryz.prog 56 1 = some 4 := by kernel_rfl
theorem pl56 : mA Tryz.prog 56 = some [(0, 4), (4, 4)] := by kernel_rfl
theorem qN : uK Tryz.prog 56 = some (true, 8) := by kernel_rfl
theorem xN : xI Tryz.prog 56 = some [.bool false, .slice none 0 0, .bool false, .slice none 0 0, .bool false, .slice none 0 0, .bool false, .slice none 0 0] := by kernel_rfl
theorem xL : mG [.bool false, .slice none 0 0, .bool false, .slice none 0 0, .bool false, .slice none 0 0, .bool false, .slice none 0 0] [.val (.bool false), .sl 152 1 [], .val (.bool false), .sl 152 1 [], .val (.bool false), .sl 152 1 [], .val (.bool false), .sl 152 1 []] := by simp [mG, Value.oneCell']
theorem f_counted (x : jF) (a : Int) (hx : nB x a 68719476736) : kE Tryz.prog 204 [(kB x)] (kB (qD a)) := by
 refine jN Tryz.func204 rfl cb204 rfl ?_
 show uT _ _ _ _ ⟨[(0, (.d (kB x)))], []⟩
 refine jA <| kx [(1, (.ref 0 0)), (2, (.ref 1 0))] [(0, some (bx (kB x))), (1, some (bx (kB (jF.mk false []))))] (zN (uX 0) <| zN (qS 1 gR gQ) <| zZ) ?_
 refine jA <| jA <| kx [(4, (vb (vN x)))] [] (zR (kC kW) <| zE (kA (t_valid x (Nat.le_trans hx.l (by decide)))) <| zZ) ?_
 refine jY (b := (vN x)) rfl (fun h1 => ?_) (fun h1 => ?_)
 ·refine jA <| kx [] [(1, some (bx (kB x)))] (zR (kC kW) <| zT (qB kW) <| zZ) ?_
  refine jJ ⟨_, (qI (cs := (bx (kB x))) (d := (kB x)) rfl rfl kW rfl rfl .nil), ?_⟩
  rw [← hx.v, ofZ_toZ h1]; rfl
 ·refine jE <| jA <| kx [] [(1, some (bx (kB (qD 0))))] (zE (kA (t_of 0 (by decide) (by decide))) <| zT (qB kW) <| zZ) ?_
  refine jJ ⟨_, (qI (cs := (bx (kB (qD 0)))) (d := (kB (qD 0))) rfl rfl kW rfl rfl .nil), ?_⟩
  rw [← hx.v, toZ_bad h1, ofZ_zero]; rfl
theorem f_newO (num : jF) (a : Int) (eC : nB num a 68719476736) (den : jF) (b : Int) (mL : nB den b 68719476736) (hb : b ≠ 0) : kE Tryz.prog 167 [(kB num), (kB den)] (.tup [(jR (jB (Rat.divInt a b))), (.val (.int .i64 (0)))]) := by
 refine jN Tryz.func167 rfl cb167 rfl ?_
 show uT _ _ _ _ ⟨[(0, (.d (kB num))), (1, (.d (kB den)))], []⟩
 refine jA <| kx [(2, (.ref 0 0)), (3, (.ref 1 0)), (4, (.ref 2 0))] [(0, some (bx (kB num))), (1, some (bx (kB den))), (2, some (bx (jR (jQ.mk (jF.mk false []) (jF.mk false [])))))] (zN (uX 0) <| zN (uX 1) <| zN (qS 2 qR qY) <| zM <| zZ) ?_
 refine jA <| kd [] [(0, some (bx (kB (qD a)))), (1, some (bx (kB (qD b))))] mo (wR (kC kW) <| wE (kA (f_counted num a eC)) <| wR (kC kW) <| wE (kA (f_counted den b mL)) <| wT (qB kW) <| wT (qB kW) <| wZ) ?_
 refine jA <| jA <| kx [(12, (vb false))] [] (zR (kC kW) <| zE (kA (s_sign (fG (nB.ln mL)) (by decide))) <| zE (vB false fA (by exact beq_eq_false_iff_ne.2 (signI_ne hb))) <| zZ) ?_
 refine kY ?_
 refine jE <| jA <| kx [(5, (kX 0))] [(2, some (bx (jR (jB (Rat.divInt a b)))))] (zR (kC kW) <| zR (kC kW) <| zE (kA (f_reduced (qD a) (qD b) a b (fG (nB.ln eC)) (fG (nB.ln mL)) (by assumption))) <| zT (qB jT) <| zM <| zZ) ?_
 refine jJ ⟨_, (qI (cs := (bx (jR (jB (Rat.divInt a b))))) (d := (jR (jB (Rat.divInt a b)))) rfl rfl jT rfl rfl (.tmp (d := (.val (.int .i64 (0)))) rfl .nil)), ?_⟩
 rfl
theorem g_newO (num : jF) (a : Int) (eC : nB num a 68719476736) (den : jF) (b : Int) (mL : nB den b 68719476736) (hb : b ≠ 0) : kE Tryz.prog 26 [(kB num), (kB den)] (.tup [(jR (jB (Rat.divInt a b))), (.val (.int .i64 (0)))]) := by
 refine jN Tryz.func26 rfl cb26 rfl ?_
 show uT _ _ _ _ ⟨[(0, (.d (kB num))), (1, (.d (kB den)))], []⟩
 refine jA <| kx [(2, (.ref 0 0)), (3, (.ref 1 0)), (4, (.ref 2 0))] [(0, some (bx (kB num))), (1, some (bx (kB den))), (2, some (bx (jR (jQ.mk (jF.mk false []) (jF.mk false [])))))] (zN (uX 0) <| zN (uX 1) <| zN (qS 2 qR qY) <| zM <| zZ) ?_
 refine jA <| jA <| kx [(8, (vb false))] [] (zR (kC kW) <| zE (kA (rs_sign mL (by decide))) <| zE (vB false fA (by exact beq_eq_false_iff_ne.2 (signI_ne hb))) <| zZ) ?_
 refine kY ?_
 refine jE <| jA <| kx [(5, (kX 0))] [(2, some (bx (jR (jB (Rat.divInt a b)))))] (zR (kC kW) <| zR (kC kW) <| zE (kA (g_reduced num den a b eC mL (by assumption))) <| zT (qB jT) <| zM <| zZ) ?_
 refine jJ ⟨_, (qI (cs := (bx (jR (jB (Rat.divInt a b))))) (d := (jR (jB (Rat.divInt a b)))) rfl rfl jT rfl rfl (.tmp (d := (.val (.int .i64 (0)))) rfl .nil)), ?_⟩
 rfl
theorem g_zeroT  : kE Tryz.prog 36 [(jR (jQ.mk (jF.mk false []) (jF.mk false [])))] (.val (.bool (true))) := by
 refine jN Tryz.func36 rfl cb36 rfl ?_
 show uT _ _ _ _ ⟨[(0, (.d (jR (jQ.mk (jF.mk false []) (jF.mk false [])))))], []⟩
 refine jA <| kx [(1, (.ref 0 0))] [(0, some (bx (jR (jQ.mk (jF.mk false []) (jF.mk false [])))))] (zN (uX 0) <| zM <| zZ) ?_
 refine jA <| kx [(2, (vb true))] [] (zE (qE zL) <| zE (qE xR) <| zR (vD sh4) <| zE dV <| zM <| zE (qE zW) <| zE (qE xR) <| zR (vD sh4) <| zE dV <| zE eE <| zM <| zE (qE zL) <| zE (qE xU) <| zR (vD yM) <| zE (oLn qG 0) <| zE fA <| zE eE <| zM <| zE (qE zW) <| zE (qE xU) <| zR (vD yM) <| zE (oLn qG 0) <| zE fA <| zE eE <| zM <| zZ) ?_
 refine jJ ⟨_, (.tmp (d := (.val (.bool (true)))) rfl .nil), ?_⟩
 rfl
end Go.Proofs.YtbecgnplakngdaaGreat
namespace Go.Fid
end Go.Fid
namespace Go.Proofs.YtbecgnplakngdaaGreat
open Go.Fid
set_option maxRecDepth 4000
set_option linter.unusedVariables false
set_option linter.unusedSimpArgs false
theorem cb63 : callB Tryz.prog 63 = true := by kernel_rfl
end Go.Proofs.YtbecgnplakngdaaGreat
