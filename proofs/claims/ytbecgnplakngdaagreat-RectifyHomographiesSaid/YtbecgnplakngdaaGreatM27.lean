/- Part 27 of a proof: rules, plain facts, and functions walked. -/
import Derived.Test.YtbecgnplakngdaaGreatM26
import Derived.Test.YtbecgnplakngdaaGreatM10
import Derived.Test.YtbecgnplakngdaaGreatM20
namespace Go.Proofs.YtbecgnplakngdaaGreat
open Go.Fid
set_option maxRecDepth 4000
set_option linter.unusedVariables false
set_option linter.unusedSimpArgs false
theorem cb114 : callB Tryz.prog 114 = true := by kernel_rfl
theorem cb116 : callB Tryz.prog 116 = true := by kernel_rfl
theorem cb167 : callB Tryz.prog 167 = true := by kernel_rfl
theorem cb204 : callB Tryz.prog 204 = true := by kernel_rfl
theorem bC : xJ Tryz.prog 56 0 = some 0 := by kernel_rfl
theorem bA : xJ Tryz.prog 56 1 = some 4 := by kernel_rfl
theorem pl56 : mV Tryz.prog 56 = some [(0, 4), (4, 4)] := by kernel_rfl
theorem nH : uF Tryz.prog 56 = some (true, 8) := by kernel_rfl
theorem ze56 : xH Tryz.prog 56 = some [.bool false, .slice none 0 0, .bool false, .slice none 0 0, .bool false, .slice none 0 0, .bool false, .slice none 0 0] := by kernel_rfl
theorem zo56 : mP [.bool false, .slice none 0 0, .bool false, .slice none 0 0, .bool false, .slice none 0 0, .bool false, .slice none 0 0] [.val (.bool false), .sl 152 1 [], .val (.bool false), .sl 152 1 [], .val (.bool false), .sl 152 1 [], .val (.bool false), .sl 152 1 []] := by simp [mP, Value.oneCell']
theorem f_counted (x : jF) (a : Int) (hx : kZ x a 68719476736) : kF Tryz.prog 204 [(jH x)] (jH (jK a)) := by
 refine jL Tryz.func204 rfl cb204 rfl ?_
 show uK _ _ _ _ ⟨[(0, (.d (jH x)))], []⟩
 refine jA <| kx [(1, (.ref 0 0)), (2, (.ref 1 0))] [(0, some (bx (jH x))), (1, some (bx (jH (jF.mk false []))))] (zN (uX 0) <| zN (qH 1 uD uE) <| zZ) ?_
 refine jA <| jA <| kx [(4, (vb (uG x)))] [] (zR (kA jI) <| zE (kC (t_valid x (Nat.le_trans hx.l (by decide)))) <| zZ) ?_
 refine jQ (b := (uG x)) rfl (fun h1 => ?_) (fun h1 => ?_)
 ·refine jA <| kx [] [(1, some (bx (jH x)))] (zR (kA jI) <| zT (kR jI) <| zZ) ?_
  refine jG ⟨_, (qB (cs := (bx (jH x))) (d := (jH x)) rfl rfl jI rfl rfl .nil), ?_⟩
  rw [← hx.v, iZ h1]; rfl
 ·refine jD <| jA <| kx [] [(1, some (bx (jH (jK 0))))] (zE (kC (t_of 0 (by decide) (by decide))) <| zT (kR jI) <| zZ) ?_
  refine jG ⟨_, (qB (cs := (bx (jH (jK 0)))) (d := (jH (jK 0))) rfl rfl jI rfl rfl .nil), ?_⟩
  rw [← hx.v, toZ_bad h1, ofZ_zero]; rfl
theorem f_newO (num : jF) (a : Int) (eW : kZ num a 68719476736) (den : jF) (b : Int) (cN : kZ den b 68719476736) (hb : b ≠ 0) : kF Tryz.prog 167 [(jH num), (jH den)] (.tup [(jO (jC (Rat.divInt a b))), (.val (.int .i64 (0)))]) := by
 refine jL Tryz.func167 rfl cb167 rfl ?_
 show uK _ _ _ _ ⟨[(0, (.d (jH num))), (1, (.d (jH den)))], []⟩
 refine jA <| kx [(2, (.ref 0 0)), (3, (.ref 1 0)), (4, (.ref 2 0))] [(0, some (bx (jH num))), (1, some (bx (jH den))), (2, some (bx (jO (kG.mk (jF.mk false []) (jF.mk false [])))))] (zN (uX 0) <| zN (uX 1) <| zN (qH 2 qM qR) <| zM <| zZ) ?_
 refine jA <| kd [] [(0, some (bx (jH (jK a)))), (1, some (bx (jH (jK b))))] mo (wR (kA jI) <| wE (kC (f_counted num a eW)) <| wR (kA jI) <| wE (kC (f_counted den b cN)) <| wT (kR jI) <| wT (kR jI) <| wZ) ?_
 refine jA <| jA <| kx [(12, (vb false))] [] (zR (kA jI) <| zE (kC (s_sign (nL (kZ.ln cN)) (by decide))) <| zE (qY false aO (by exact beq_eq_false_iff_ne.2 (eK hb))) <| zZ) ?_
 refine kO ?_
 refine jD <| jA <| kx [(5, (kE 0))] [(2, some (bx (jO (jC (Rat.divInt a b)))))] (zR (kA jI) <| zR (kA jI) <| zE (kC (f_reduced (jK a) (jK b) a b (nL (kZ.ln eW)) (nL (kZ.ln cN)) (by assumption))) <| zT (kR jS) <| zM <| zZ) ?_
 refine jG ⟨_, (qB (cs := (bx (jO (jC (Rat.divInt a b))))) (d := (jO (jC (Rat.divInt a b)))) rfl rfl jS rfl rfl (.tmp (d := (.val (.int .i64 (0)))) rfl .nil)), ?_⟩
 rfl
theorem g_newO (num : jF) (a : Int) (eW : kZ num a 68719476736) (den : jF) (b : Int) (cN : kZ den b 68719476736) (hb : b ≠ 0) : kF Tryz.prog 26 [(jH num), (jH den)] (.tup [(jO (jC (Rat.divInt a b))), (.val (.int .i64 (0)))]) := by
 refine jL Tryz.func26 rfl cb26 rfl ?_
 show uK _ _ _ _ ⟨[(0, (.d (jH num))), (1, (.d (jH den)))], []⟩
 refine jA <| kx [(2, (.ref 0 0)), (3, (.ref 1 0)), (4, (.ref 2 0))] [(0, some (bx (jH num))), (1, some (bx (jH den))), (2, some (bx (jO (kG.mk (jF.mk false []) (jF.mk false [])))))] (zN (uX 0) <| zN (uX 1) <| zN (qH 2 qM qR) <| zM <| zZ) ?_
 refine jA <| jA <| kx [(8, (vb false))] [] (zR (kA jI) <| zE (kC (aK cN (by decide))) <| zE (qY false aO (by exact beq_eq_false_iff_ne.2 (eK hb))) <| zZ) ?_
 refine kO ?_
 refine jD <| jA <| kx [(5, (kE 0))] [(2, some (bx (jO (jC (Rat.divInt a b)))))] (zR (kA jI) <| zR (kA jI) <| zE (kC (g_reduced num den a b eW cN (by assumption))) <| zT (kR jS) <| zM <| zZ) ?_
 refine jG ⟨_, (qB (cs := (bx (jO (jC (Rat.divInt a b))))) (d := (jO (jC (Rat.divInt a b)))) rfl rfl jS rfl rfl (.tmp (d := (.val (.int .i64 (0)))) rfl .nil)), ?_⟩
 rfl
theorem l_placeO (p : A3 jF) (p0 p1 p2 : Int) (hp0 : kZ p.a0 p0 1000000) (hp1 : kZ p.a1 p1 1000000) (hp2 : kZ p.a2 p2 1000000) (hb : p2 ≠ 0) : kF Tryz.prog 114 [(kS p)] (.tup [(kI (qI.mk (jC (Rat.divInt p0 p2)) (jC (Rat.divInt p1 p2)))), (.val (.bool (true)))]) := by
 refine jL Tryz.func114 rfl cb114 rfl ?_
 show uK _ _ _ _ ⟨[(0, (.d (kS p)))], []⟩
 refine jA <| kx [(1, (.ref 0 0)), (2, (.ref 1 0))] [(0, some (bx (kS p))), (1, some (bx (kI (qI.mk (kG.mk (jF.mk false []) (jF.mk false [])) (kG.mk (jF.mk false []) (jF.mk false []))))))] (zN (uX 0) <| zN (qH 1 ze56 zo56) <| zM <| zZ) ?_
 refine jA <| kx [(4, (.ref 2 0)), (5, (vi 0))] [(2, some (bx (jO (jC (Rat.divInt p0 p2)))))] (zE (uJ vQ 0) <| zR (kA jI) <| zE (uJ vQ 2) <| zR (kA jI) <| zE (kC (g_newO p.a0 p0 (iu hp0) p.a2 p2 (iu hp2) hb)) <| zM <| zE uH <| zE uH <| zN (qH 2 qM qR) <| zT (kR jS) <| zM <| zZ) ?_
 refine jA <| kx [(6, (.ref 3 0)), (7, (vi 0))] [(3, some (bx (jO (jC (Rat.divInt p1 p2)))))] (zE (uJ vQ 1) <| zR (kA jI) <| zE (uJ vQ 2) <| zR (kA jI) <| zE (kC (g_newO p.a1 p1 (iu hp1) p.a2 p2 (iu hp2) hb)) <| zM <| zE uH <| zE uH <| zN (qH 3 qM qR) <| zT (kR jS) <| zM <| zZ) ?_
 refine jA <| jA <| kx [(29, (vb false))] [] (zM <| zE mR <| zM <| zM <| zE mR <| zE fC <| zZ) ?_
 refine kO ?_
 refine jD <| jA <| kx [(3, (vb true))] [(1, some (bx (kI (qI.mk (jC (Rat.divInt p0 p2)) (jC (Rat.divInt p1 p2))))))] (zR (kA jS) <| zR (kA jS) <| zE (oBd pl56 ze56 zo56) <| zT (kR nH) <| zM <| zZ) ?_
 refine jG ⟨_, (qB (cs := (bx (kI (qI.mk (jC (Rat.divInt p0 p2)) (jC (Rat.divInt p1 p2)))))) (d := (kI (qI.mk (jC (Rat.divInt p0 p2)) (jC (Rat.divInt p1 p2))))) rfl rfl nH rfl rfl (.tmp (d := (.val (.bool (true)))) rfl .nil)), ?_⟩
 rfl
theorem l_point (u v : Rat) (hu : QL u 1000) (hv : QL v 1000) (c0 c1 c2 : Int) (hc : xB [(u.num * (v.den : Int)), (v.num * (u.den : Int)), ((u.den : Int) * (v.den : Int))] = [c0, c1, c2]) (hnz : vK [(u.num * (v.den : Int)), (v.num * (u.den : Int)), ((u.den : Int) * (v.den : Int))] ≠ 0) : kF Tryz.prog 116 [(kI (qI.mk (jC u) (jC v)))] (kS (A3.mk (jK c0) (jK c1) (jK c2))) := by
 refine jL Tryz.func116 rfl cb116 rfl ?_
 show uK _ _ _ _ ⟨[(0, (.d (kI (qI.mk (jC u) (jC v)))))], []⟩
 refine jA <| kx [(1, (.ref 0 0)), (2, (.ref 1 0))] [(0, some (bx (kI (qI.mk (jC u) (jC v))))), (1, some (bx (kS (A3.mk (jF.mk false []) (jF.mk false []) (jF.mk false [])))))] (zN (uX 0) <| zN (qH 1 nU nS) <| zZ) ?_
 refine jA ?_
 have bn1 : kZ (jK (u.num * (v.den : Int))) (u.num * (v.den : Int)) 2000 := (jP (k := 2000) (kN hu) (jW hv) (by decide))
 have bn2 : kZ (jK (v.num * (u.den : Int))) (v.num * (u.den : Int)) 2000 := (jP (k := 2000) (kN hv) (jW hu) (by decide))
 have bn3 : kZ (jK ((u.den : Int) * (v.den : Int))) ((u.den : Int) * (v.den : Int)) 2000 := (jP (k := 2000) (jW hu) (jW hv) (by decide))
 have bn4 : ∀ c ∈ [c0, c1, c2], kZ (jK c) c 2000 := mZ (n := 2000) (.cons bn1 (.cons bn2 (.cons bn3 .nil))) hc
 refine kd [(3, (.ref 2 0))] [(2, some (bx (kS (A3.mk (jK c0) (jK c1) (jK c2)))))] mo (wE (kU bC) <| wE (kU vZ) <| wR (kA jI) <| wE (kU bA) <| wE (kU uY) <| wR (kA jI) <| wE (kC (mY ((jC u).num) u.num (qJ (kN hu) (by decide)) ((jC v).den) (v.den : Int) (qJ (jW hv) (by decide)))) <| wE (kU bA) <| wE (kU vZ) <| wR (kA jI) <| wE (kU bC) <| wE (kU uY) <| wR (kA jI) <| wE (kC (mY ((jC v).num) v.num (qJ (kN hv) (by decide)) ((jC u).den) (u.den : Int) (qJ (jW hu) (by decide)))) <| wE (kU bC) <| wE (kU uY) <| wR (kA jI) <| wE (kU bA) <| wE (kU uY) <| wR (kA jI) <| wE (kC (mY ((jC u).den) (u.den : Int) (qJ (jW hu) (by decide)) ((jC v).den) (v.den : Int) (qJ (jW hv) (by decide)))) <| wE (oBf vQ nU nS) <| wE (kC (l_trip (A3.mk (jK (u.num * (v.den : Int))) (jK (v.num * (u.den : Int))) (jK ((u.den : Int) * (v.den : Int)))) (u.num * (v.den : Int)) (v.num * (u.den : Int)) ((u.den : Int) * (v.den : Int)) (iu bn1) (iu bn2) (iu bn3) c0 c1 c2 hc hnz)) <| wM <| wE uH <| wE uH <| wN (qH 2 nU nS) <| wT (kR yD) <| wM <| wZ) ?_
 refine jA <| kx [] [(1, some (bx (kS (A3.mk (jK c0) (jK c1) (jK c2)))))] (zR (kA yD) <| zT (kR yD) <| zZ) ?_
 refine jG ⟨_, (qB (cs := (bx (kS (A3.mk (jK c0) (jK c1) (jK c2))))) (d := (kS (A3.mk (jK c0) (jK c1) (jK c2)))) rfl rfl yD rfl rfl .nil), ?_⟩
 rfl
end Go.Proofs.YtbecgnplakngdaaGreat
namespace Go.Fid
end Go.Fid
namespace Go.Proofs.YtbecgnplakngdaaGreat
open Go.Fid
set_option maxRecDepth 4000
set_option linter.unusedVariables false
set_option linter.unusedSimpArgs false
theorem cb63 : callB Tryz.prog 63 = true := by kernel_rfl
end Go.Proofs.YtbecgnplakngdaaGreat
