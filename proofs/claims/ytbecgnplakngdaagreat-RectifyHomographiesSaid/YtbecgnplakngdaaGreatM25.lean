/- Part 25 of a proof: rules, plain facts, and functions walked. -/
import Derived.Test.YtbecgnplakngdaaGreatM24
import Derived.Test.YtbecgnplakngdaaGreatM20
namespace Go.Proofs.YtbecgnplakngdaaGreat
open Go.Fid
set_option maxRecDepth 4000
set_option linter.unusedVariables false
set_option linter.unusedSimpArgs false
theorem yY : dA Tryz.prog 98 = some (9, 40, 2) := by kernel_rfl
theorem vQ : dA Tryz.prog 168 = some (3, 40, 2) := by kernel_rfl
theorem cb153 : callB Tryz.prog 153 = true := by kernel_rfl
theorem cb159 : callB Tryz.prog 159 = true := by kernel_rfl
theorem cb161 : callB Tryz.prog 161 = true := by kernel_rfl
theorem cb195 : callB Tryz.prog 195 = true := by kernel_rfl
theorem cb196 : callB Tryz.prog 196 = true := by kernel_rfl
theorem cb200 : callB Tryz.prog 200 = true := by kernel_rfl
theorem yD : uF Tryz.prog 168 = some (true, 6) := by kernel_rfl
theorem nU : xH Tryz.prog 168 = some [.bool false, .slice none 0 0, .bool false, .slice none 0 0, .bool false, .slice none 0 0] := by kernel_rfl
theorem nS : mP [.bool false, .slice none 0 0, .bool false, .slice none 0 0, .bool false, .slice none 0 0] [.val (.bool false), .sl 152 1 [], .val (.bool false), .sl 152 1 [], .val (.bool false), .sl 152 1 []] := by simp [mP, Value.oneCell']
theorem d_cross (p : A3 jF) (p0 p1 p2 : Int) (hp0 : kZ p.a0 p0 1000000000) (hp1 : kZ p.a1 p1 1000000000) (hp2 : kZ p.a2 p2 1000000000) (q : A3 jF) (q0 q1 q2 : Int) (hq0 : kZ q.a0 q0 1000000000) (hq1 : kZ q.a1 q1 1000000000) (hq2 : kZ q.a2 q2 1000000000) : kF Tryz.prog 196 [(kS p), (kS q)] (kS (A3.mk (jK ((p1 * q2) - (p2 * q1))) (jK ((p2 * q0) - (p0 * q2))) (jK ((p0 * q1) - (p1 * q0))))) := by
 refine jL Tryz.func196 rfl cb196 rfl ?_
 show uK _ _ _ _ ⟨[(0, (.d (kS p))), (1, (.d (kS q)))], []⟩
 refine jA <| kx [(2, (.ref 0 0)), (3, (.ref 1 0)), (4, (.ref 2 0))] [(0, some (bx (kS p))), (1, some (bx (kS q))), (2, some (bx (kS (A3.mk (jF.mk false []) (jF.mk false []) (jF.mk false [])))))] (zN (uX 0) <| zN (uX 1) <| zN (qH 2 nU nS) <| zZ) ?_
 refine jA <| kx [(5, (.ref 3 0))] [(3, some (bx (kS (A3.mk (jF.mk false []) (jF.mk false []) (jF.mk false [])))))] (zN (qH 3 nU nS) <| zZ) ?_
 refine jA <| jA <| kx [(9, (kE 0))] [] (zM <| zZ) ?_
 refine jE <| qE 20 ?_
 refine qK <| jA <| kx [(10, (vb true))] [] (zE (qY true qS) <| zZ) ?_
 refine jA <| kD ?_
 refine jD <| jA <| jE <| jA <| kx [(6, (kE 0))] [] (zM <| zM <| zZ) ?_
 refine jA <| kx [(7, (kE 1)), (8, (kE 2))] [] (zM <| zE (qQ 1 (hr := by decide)) <| zE (aI 1 (hr := by decide)) <| zM <| zE (qQ 2 (hr := by decide)) <| zE (aI 2 (hr := by decide)) <| zM <| zM <| zZ) ?_
 refine kd [] [(3, some (bx (kS (A3.mk (jK ((p1 * q2) - (p2 * q1))) (jF.mk false []) (jF.mk false [])))))] mo (wM <| wM <| wE (uJ vQ 1) <| wR (kA jI) <| wM <| wE (uJ vQ 2) <| wR (kA jI) <| wE (kC (yS hp1 hq2 (by decide) (by decide))) <| wM <| wE (uJ vQ 2) <| wR (kA jI) <| wM <| wE (uJ vQ 1) <| wR (kA jI) <| wE (kC (yS hp2 hq1 (by decide) (by decide))) <| wE (kC (s_sub (jP (k := 2000000000) hp1 hq2 (by decide)) (jP (k := 2000000000) hp2 hq1 (by decide)) (by decide) (by decide))) <| wE (uJ vQ 0) <| wT (kR jI) <| wZ) ?_
 refine kx [(9, (kE 1))] [] (zE (qQ 1 (hr := by decide)) <| zM <| zZ) ?_
 refine jJ (jZ.refl _) ?_
 refine jA <| kx [(10, (vb true))] [] (zE (qY true qS) <| zZ) ?_
 refine jA <| kD ?_
 refine jD <| jA <| jE <| jA <| kx [(6, (kE 1))] [] (zM <| zM <| zZ) ?_
 refine jA <| kx [(7, (kE 2)), (8, (kE 0))] [] (zM <| zE (qQ 2 (hr := by decide)) <| zE (aI 2 (hr := by decide)) <| zM <| zE (qQ 3 (hr := by decide)) <| zE (aI 0 (hr := by decide)) <| zM <| zM <| zZ) ?_
 refine kd [] [(3, some (bx (kS (A3.mk (jK ((p1 * q2) - (p2 * q1))) (jK ((p2 * q0) - (p0 * q2))) (jF.mk false [])))))] mo (wM <| wM <| wE (uJ vQ 2) <| wR (kA jI) <| wM <| wE (uJ vQ 0) <| wR (kA jI) <| wE (kC (yS hp2 hq0 (by decide) (by decide))) <| wM <| wE (uJ vQ 0) <| wR (kA jI) <| wM <| wE (uJ vQ 2) <| wR (kA jI) <| wE (kC (yS hp0 hq2 (by decide) (by decide))) <| wE (kC (s_sub (jP (k := 2000000000) hp2 hq0 (by decide)) (jP (k := 2000000000) hp0 hq2 (by decide)) (by decide) (by decide))) <| wE (uJ vQ 1) <| wT (kR jI) <| wZ) ?_
 refine kx [(9, (kE 2))] [] (zE (qQ 2 (hr := by decide)) <| zM <| zZ) ?_
 refine jJ (jZ.refl _) ?_
 refine jA <| kx [(10, (vb true))] [] (zE (qY true qS) <| zZ) ?_
 refine jA <| kD ?_
 refine jD <| jA <| jE <| jA <| kX (wk (l := [(2, (.ref 0 0)), (3, (.ref 1 0)), (4, (.ref 2 0)), (5, (.ref 3 0)), (9, (kE 2)), (10, (vb true))]) (b := [(0, some (bx (kS p))), (1, some (bx (kS q))), (2, some (bx (kS (A3.mk (jF.mk false []) (jF.mk false []) (jF.mk false []))))), (3, some (bx (kS (A3.mk (jK ((p1 * q2) - (p2 * q1))) (jK ((p2 * q0) - (p0 * q2))) (jF.mk false [])))))])) ?_
 refine kx [(6, (kE 2))] [] (zM <| zM <| zZ) ?_
 refine jA <| kx [(7, (kE 0)), (8, (kE 1))] [] (zM <| zE (qQ 3 (hr := by decide)) <| zE (aI 0 (hr := by decide)) <| zM <| zE (qQ 4 (hr := by decide)) <| zE (aI 1 (hr := by decide)) <| zM <| zM <| zZ) ?_
 refine kd [] [(3, some (bx (kS (A3.mk (jK ((p1 * q2) - (p2 * q1))) (jK ((p2 * q0) - (p0 * q2))) (jK ((p0 * q1) - (p1 * q0)))))))] mo (wM <| wM <| wE (uJ vQ 0) <| wR (kA jI) <| wM <| wE (uJ vQ 1) <| wR (kA jI) <| wE (kC (yS hp0 hq1 (by decide) (by decide))) <| wM <| wE (uJ vQ 1) <| wR (kA jI) <| wM <| wE (uJ vQ 0) <| wR (kA jI) <| wE (kC (yS hp1 hq0 (by decide) (by decide))) <| wE (kC (s_sub (jP (k := 2000000000) hp0 hq1 (by decide)) (jP (k := 2000000000) hp1 hq0 (by decide)) (by decide) (by decide))) <| wE (uJ vQ 2) <| wT (kR jI) <| wZ) ?_
 refine kx [(9, (kE 3))] [] (zE (qQ 3 (hr := by decide)) <| zM <| zZ) ?_
 refine jJ (jZ.refl _) ?_
 refine jA <| kx [(10, (vb false))] [] (zE (qY false qS) <| zZ) ?_
 refine jA <| kO ?_
 refine kQ <| jA <| kx [] [(2, some (bx (kS (A3.mk (jK ((p1 * q2) - (p2 * q1))) (jK ((p2 * q0) - (p0 * q2))) (jK ((p0 * q1) - (p1 * q0)))))))] (zR (kA yD) <| zT (kR yD) <| zZ) ?_
 refine jG ⟨_, (qB (cs := (bx (kS (A3.mk (jK ((p1 * q2) - (p2 * q1))) (jK ((p2 * q0) - (p0 * q2))) (jK ((p0 * q1) - (p1 * q0))))))) (d := (kS (A3.mk (jK ((p1 * q2) - (p2 * q1))) (jK ((p2 * q0) - (p0 * q2))) (jK ((p0 * q1) - (p1 * q0)))))) rfl rfl yD rfl rfl .nil), ?_⟩
 rfl
theorem l_cross (p : A3 jF) (p0 p1 p2 : Int) (hp0 : kZ p.a0 p0 1000000000) (hp1 : kZ p.a1 p1 1000000000) (hp2 : kZ p.a2 p2 1000000000) (q : A3 jF) (q0 q1 q2 : Int) (hq0 : kZ q.a0 q0 1000000000) (hq1 : kZ q.a1 q1 1000000000) (hq2 : kZ q.a2 q2 1000000000) : kF Tryz.prog 200 [(kS p), (kS q)] (kS (A3.mk (jK ((p1 * q2) - (p2 * q1))) (jK ((p2 * q0) - (p0 * q2))) (jK ((p0 * q1) - (p1 * q0))))) := by
 refine jL Tryz.func200 rfl cb200 rfl ?_
 show uK _ _ _ _ ⟨[(0, (.d (kS p))), (1, (.d (kS q)))], []⟩
 refine jA <| kx [(2, (.ref 0 0)), (3, (.ref 1 0)), (4, (.ref 2 0))] [(0, some (bx (kS p))), (1, some (bx (kS q))), (2, some (bx (kS (A3.mk (jF.mk false []) (jF.mk false []) (jF.mk false [])))))] (zN (uX 0) <| zN (uX 1) <| zN (qH 2 nU nS) <| zZ) ?_
 refine jA <| kd [] [(2, some (bx (kS (A3.mk (jK ((p1 * q2) - (p2 * q1))) (jK ((p2 * q0) - (p0 * q2))) (jK ((p0 * q1) - (p1 * q0)))))))] mo (wE (uJ vQ 1) <| wR (kA jI) <| wE (uJ vQ 2) <| wR (kA jI) <| wE (kC (mY p.a1 p1 (iu hp1) q.a2 q2 (iu hq2))) <| wE (uJ vQ 2) <| wR (kA jI) <| wE (uJ vQ 1) <| wR (kA jI) <| wE (kC (mY p.a2 p2 (iu hp2) q.a1 q1 (iu hq1))) <| wE (kC (l_minus (jK (p1 * q2)) (p1 * q2) (qJ (jP (k := 2000000000) hp1 hq2 (by decide)) (by decide)) (jK (p2 * q1)) (p2 * q1) (qJ (jP (k := 2000000000) hp2 hq1 (by decide)) (by decide)))) <| wE (uJ vQ 2) <| wR (kA jI) <| wE (uJ vQ 0) <| wR (kA jI) <| wE (kC (mY p.a2 p2 (iu hp2) q.a0 q0 (iu hq0))) <| wE (uJ vQ 0) <| wR (kA jI) <| wE (uJ vQ 2) <| wR (kA jI) <| wE (kC (mY p.a0 p0 (iu hp0) q.a2 q2 (iu hq2))) <| wE (kC (l_minus (jK (p2 * q0)) (p2 * q0) (qJ (jP (k := 2000000000) hp2 hq0 (by decide)) (by decide)) (jK (p0 * q2)) (p0 * q2) (qJ (jP (k := 2000000000) hp0 hq2 (by decide)) (by decide)))) <| wE (uJ vQ 0) <| wR (kA jI) <| wE (uJ vQ 1) <| wR (kA jI) <| wE (kC (mY p.a0 p0 (iu hp0) q.a1 q1 (iu hq1))) <| wE (uJ vQ 1) <| wR (kA jI) <| wE (uJ vQ 0) <| wR (kA jI) <| wE (kC (mY p.a1 p1 (iu hp1) q.a0 q0 (iu hq0))) <| wE (kC (l_minus (jK (p0 * q1)) (p0 * q1) (qJ (jP (k := 2000000000) hp0 hq1 (by decide)) (by decide)) (jK (p1 * q0)) (p1 * q0) (qJ (jP (k := 2000000000) hp1 hq0 (by decide)) (by decide)))) <| wE (oBf vQ nU nS) <| wT (kR yD) <| wZ) ?_
 refine jG ⟨_, (qB (cs := (bx (kS (A3.mk (jK ((p1 * q2) - (p2 * q1))) (jK ((p2 * q0) - (p0 * q2))) (jK ((p0 * q1) - (p1 * q0))))))) (d := (kS (A3.mk (jK ((p1 * q2) - (p2 * q1))) (jK ((p2 * q0) - (p0 * q2))) (jK ((p0 * q1) - (p1 * q0)))))) rfl rfl yD rfl rfl .nil), ?_⟩
 rfl
theorem d_dot (p : A3 jF) (p0 p1 p2 : Int) (hp0 : kZ p.a0 p0 1000000000) (hp1 : kZ p.a1 p1 1000000000) (hp2 : kZ p.a2 p2 1000000000) (q : A3 jF) (q0 q1 q2 : Int) (hq0 : kZ q.a0 q0 1000000000) (hq1 : kZ q.a1 q1 1000000000) (hq2 : kZ q.a2 q2 1000000000) : kF Tryz.prog 195 [(kS p), (kS q)] (jH (jK (((p0 * q0) + (p1 * q1)) + (p2 * q2)))) := by
 refine jL Tryz.func195 rfl cb195 rfl ?_
 show uK _ _ _ _ ⟨[(0, (.d (kS p))), (1, (.d (kS q)))], []⟩
 refine jA <| kx [(2, (.ref 0 0)), (3, (.ref 1 0)), (4, (.ref 2 0))] [(0, some (bx (kS p))), (1, some (bx (kS q))), (2, some (bx (jH (jF.mk false []))))] (zN (uX 0) <| zN (uX 1) <| zN (qH 2 uD uE) <| zZ) ?_
 refine jA <| kd [] [(2, some (bx (jH (jK (((p0 * q0) + (p1 * q1)) + (p2 * q2))))))] mo (wE (uJ vQ 0) <| wR (kA jI) <| wE (uJ vQ 0) <| wR (kA jI) <| wE (kC (yS hp0 hq0 (by decide) (by decide))) <| wE (uJ vQ 1) <| wR (kA jI) <| wE (uJ vQ 1) <| wR (kA jI) <| wE (kC (yS hp1 hq1 (by decide) (by decide))) <| wE (uJ vQ 2) <| wR (kA jI) <| wE (uJ vQ 2) <| wR (kA jI) <| wE (kC (yS hp2 hq2 (by decide) (by decide))) <| wE (cP vP uD uE) <| wE (kC (by have h := d_sum 40 [(jK (p0 * q0)), (jK (p1 * q1)), (jK (p2 * q2))] [(p0 * q0), (p1 * q1), (p2 * q2)] (.cons (qJ (jP (k := 2000000000) hp0 hq0 (by decide)) (by decide)) (.cons (qJ (jP (k := 2000000000) hp1 hq1 (by decide)) (by decide)) (.cons (qJ (jP (k := 2000000000) hp2 hq2 (by decide)) (by decide)) .nil))) (by simp); rw [sumL3] at h; exact h)) <| wT (kR jI) <| wZ) ?_
 refine jG ⟨_, (qB (cs := (bx (jH (jK (((p0 * q0) + (p1 * q1)) + (p2 * q2)))))) (d := (jH (jK (((p0 * q0) + (p1 * q1)) + (p2 * q2))))) rfl rfl jI rfl rfl .nil), ?_⟩
 rfl
theorem d_row0 (h : A9 jF) (h0 h1 h2 h3 h4 h5 h6 h7 h8 : Int) (hh0 : kZ h.a0 h0 1000000000) (hh1 : kZ h.a1 h1 1000000000) (hh2 : kZ h.a2 h2 1000000000) (hh3 : kZ h.a3 h3 1000000000) (hh4 : kZ h.a4 h4 1000000000) (hh5 : kZ h.a5 h5 1000000000) (hh6 : kZ h.a6 h6 1000000000) (hh7 : kZ h.a7 h7 1000000000) (hh8 : kZ h.a8 h8 1000000000) : kF Tryz.prog 153 [(qL h), (.val (.int .i64 (((0 : Nat) : Int))))] (kS (A3.mk h.a0 h.a1 h.a2)) := by
 refine jL Tryz.func153 rfl cb153 rfl ?_
 show uK _ _ _ _ ⟨[(0, (.d (qL h))), (1, (kE 0))], []⟩
 refine jA <| kx [(2, (.ref 0 0)), (4, (.ref 1 0))] [(0, some (bx (qL h))), (1, some (bx (kS (A3.mk (jF.mk false []) (jF.mk false []) (jF.mk false [])))))] (zN (uX 0) <| zN (qH 1 nU nS) <| zZ) ?_
 refine jA <| kd [] [(1, some (bx (kS (A3.mk h.a0 h.a1 h.a2))))] mo (wM <| wE (oMl 0 (hr := by decide)) <| wE (uJ yY 0) <| wR (kA jI) <| wM <| wE (oMl 0 (hr := by decide)) <| wE (qQ 1 (hr := by decide)) <| wE (uJ yY 1) <| wR (kA jI) <| wM <| wE (oMl 0 (hr := by decide)) <| wE (qQ 2 (hr := by decide)) <| wE (uJ yY 2) <| wR (kA jI) <| wE (oBf vQ nU nS) <| wT (kR yD) <| wZ) ?_
 refine jG ⟨_, (qB (cs := (bx (kS (A3.mk h.a0 h.a1 h.a2)))) (d := (kS (A3.mk h.a0 h.a1 h.a2))) rfl rfl yD rfl rfl .nil), ?_⟩
 rfl
theorem d_row1 (h : A9 jF) (h0 h1 h2 h3 h4 h5 h6 h7 h8 : Int) (hh0 : kZ h.a0 h0 1000000000) (hh1 : kZ h.a1 h1 1000000000) (hh2 : kZ h.a2 h2 1000000000) (hh3 : kZ h.a3 h3 1000000000) (hh4 : kZ h.a4 h4 1000000000) (hh5 : kZ h.a5 h5 1000000000) (hh6 : kZ h.a6 h6 1000000000) (hh7 : kZ h.a7 h7 1000000000) (hh8 : kZ h.a8 h8 1000000000) : kF Tryz.prog 153 [(qL h), (.val (.int .i64 (((1 : Nat) : Int))))] (kS (A3.mk h.a3 h.a4 h.a5)) := by
 refine jL Tryz.func153 rfl cb153 rfl ?_
 show uK _ _ _ _ ⟨[(0, (.d (qL h))), (1, (kE 1))], []⟩
 refine jA <| kx [(2, (.ref 0 0)), (4, (.ref 1 0))] [(0, some (bx (qL h))), (1, some (bx (kS (A3.mk (jF.mk false []) (jF.mk false []) (jF.mk false [])))))] (zN (uX 0) <| zN (qH 1 nU nS) <| zZ) ?_
 refine jA <| kd [] [(1, some (bx (kS (A3.mk h.a3 h.a4 h.a5))))] mo (wM <| wE (oMl 3 (hr := by decide)) <| wE (uJ yY 3) <| wR (kA jI) <| wM <| wE (oMl 3 (hr := by decide)) <| wE (qQ 4 (hr := by decide)) <| wE (uJ yY 4) <| wR (kA jI) <| wM <| wE (oMl 3 (hr := by decide)) <| wE (qQ 5 (hr := by decide)) <| wE (uJ yY 5) <| wR (kA jI) <| wE (oBf vQ nU nS) <| wT (kR yD) <| wZ) ?_
 refine jG ⟨_, (qB (cs := (bx (kS (A3.mk h.a3 h.a4 h.a5)))) (d := (kS (A3.mk h.a3 h.a4 h.a5))) rfl rfl yD rfl rfl .nil), ?_⟩
 rfl
theorem d_row2 (h : A9 jF) (h0 h1 h2 h3 h4 h5 h6 h7 h8 : Int) (hh0 : kZ h.a0 h0 1000000000) (hh1 : kZ h.a1 h1 1000000000) (hh2 : kZ h.a2 h2 1000000000) (hh3 : kZ h.a3 h3 1000000000) (hh4 : kZ h.a4 h4 1000000000) (hh5 : kZ h.a5 h5 1000000000) (hh6 : kZ h.a6 h6 1000000000) (hh7 : kZ h.a7 h7 1000000000) (hh8 : kZ h.a8 h8 1000000000) : kF Tryz.prog 153 [(qL h), (.val (.int .i64 (((2 : Nat) : Int))))] (kS (A3.mk h.a6 h.a7 h.a8)) := by
 refine jL Tryz.func153 rfl cb153 rfl ?_
 show uK _ _ _ _ ⟨[(0, (.d (qL h))), (1, (kE 2))], []⟩
 refine jA <| kx [(2, (.ref 0 0)), (4, (.ref 1 0))] [(0, some (bx (qL h))), (1, some (bx (kS (A3.mk (jF.mk false []) (jF.mk false []) (jF.mk false [])))))] (zN (uX 0) <| zN (qH 1 nU nS) <| zZ) ?_
 refine jA <| kd [] [(1, some (bx (kS (A3.mk h.a6 h.a7 h.a8))))] mo (wM <| wE (oMl 6 (hr := by decide)) <| wE (uJ yY 6) <| wR (kA jI) <| wM <| wE (oMl 6 (hr := by decide)) <| wE (qQ 7 (hr := by decide)) <| wE (uJ yY 7) <| wR (kA jI) <| wM <| wE (oMl 6 (hr := by decide)) <| wE (qQ 8 (hr := by decide)) <| wE (uJ yY 8) <| wR (kA jI) <| wE (oBf vQ nU nS) <| wT (kR yD) <| wZ) ?_
 refine jG ⟨_, (qB (cs := (bx (kS (A3.mk h.a6 h.a7 h.a8)))) (d := (kS (A3.mk h.a6 h.a7 h.a8))) rfl rfl yD rfl rfl .nil), ?_⟩
 rfl
theorem l_dot (p : A3 jF) (p0 p1 p2 : Int) (hp0 : kZ p.a0 p0 1000000000) (hp1 : kZ p.a1 p1 1000000000) (hp2 : kZ p.a2 p2 1000000000) (q : A3 jF) (q0 q1 q2 : Int) (hq0 : kZ q.a0 q0 1000000000) (hq1 : kZ q.a1 q1 1000000000) (hq2 : kZ q.a2 q2 1000000000) : kF Tryz.prog 161 [(kS p), (kS q)] (jH (jK (((p0 * q0) + (p1 * q1)) + (p2 * q2)))) := by
 refine jL Tryz.func161 rfl cb161 rfl ?_
 show uK _ _ _ _ ⟨[(0, (.d (kS p))), (1, (.d (kS q)))], []⟩
 refine jA <| kx [(2, (.ref 0 0)), (3, (.ref 1 0)), (4, (.ref 2 0))] [(0, some (bx (kS p))), (1, some (bx (kS q))), (2, some (bx (jH (jF.mk false []))))] (zN (uX 0) <| zN (uX 1) <| zN (qH 2 uD uE) <| zZ) ?_
 refine jA <| kd [] [(2, some (bx (jH (jK (((p0 * q0) + (p1 * q1)) + (p2 * q2))))))] mo (wE (uJ vQ 0) <| wR (kA jI) <| wE (uJ vQ 0) <| wR (kA jI) <| wE (kC (mY p.a0 p0 (iu hp0) q.a0 q0 (iu hq0))) <| wE (uJ vQ 1) <| wR (kA jI) <| wE (uJ vQ 1) <| wR (kA jI) <| wE (kC (mY p.a1 p1 (iu hp1) q.a1 q1 (iu hq1))) <| wE (kC (l_plus (jK (p0 * q0)) (p0 * q0) (qJ (jP (k := 2000000000) hp0 hq0 (by decide)) (by decide)) (jK (p1 * q1)) (p1 * q1) (qJ (jP (k := 2000000000) hp1 hq1 (by decide)) (by decide)))) <| wE (uJ vQ 2) <| wR (kA jI) <| wE (uJ vQ 2) <| wR (kA jI) <| wE (kC (mY p.a2 p2 (iu hp2) q.a2 q2 (iu hq2))) <| wE (kC (l_plus (jK ((p0 * q0) + (p1 * q1))) ((p0 * q0) + (p1 * q1)) (qJ (xO (k := 2000000001) (jP (k := 2000000000) hp0 hq0 (by decide)) (jP (k := 2000000000) hp1 hq1 (by decide)) (by decide)) (by decide)) (jK (p2 * q2)) (p2 * q2) (qJ (jP (k := 2000000000) hp2 hq2 (by decide)) (by decide)))) <| wT (kR jI) <| wZ) ?_
 refine jG ⟨_, (qB (cs := (bx (jH (jK (((p0 * q0) + (p1 * q1)) + (p2 * q2)))))) (d := (jH (jK (((p0 * q0) + (p1 * q1)) + (p2 * q2))))) rfl rfl jI rfl rfl .nil), ?_⟩
 rfl
theorem l_row0 (h : A9 jF) (h0 h1 h2 h3 h4 h5 h6 h7 h8 : Int) (hh0 : kZ h.a0 h0 1000000000) (hh1 : kZ h.a1 h1 1000000000) (hh2 : kZ h.a2 h2 1000000000) (hh3 : kZ h.a3 h3 1000000000) (hh4 : kZ h.a4 h4 1000000000) (hh5 : kZ h.a5 h5 1000000000) (hh6 : kZ h.a6 h6 1000000000) (hh7 : kZ h.a7 h7 1000000000) (hh8 : kZ h.a8 h8 1000000000) : kF Tryz.prog 159 [(qL h), (.val (.int .i64 (((0 : Nat) : Int))))] (kS (A3.mk h.a0 h.a1 h.a2)) := by
 refine jL Tryz.func159 rfl cb159 rfl ?_
 show uK _ _ _ _ ⟨[(0, (.d (qL h))), (1, (kE 0))], []⟩
 refine jA <| kx [(2, (.ref 0 0)), (4, (.ref 1 0))] [(0, some (bx (qL h))), (1, some (bx (kS (A3.mk (jF.mk false []) (jF.mk false []) (jF.mk false [])))))] (zN (uX 0) <| zN (qH 1 nU nS) <| zZ) ?_
 refine jA <| kd [] [(1, some (bx (kS (A3.mk h.a0 h.a1 h.a2))))] mo (wM <| wE (oMl 0 (hr := by decide)) <| wE (uJ yY 0) <| wR (kA jI) <| wM <| wE (oMl 0 (hr := by decide)) <| wE (qQ 1 (hr := by decide)) <| wE (uJ yY 1) <| wR (kA jI) <| wM <| wE (oMl 0 (hr := by decide)) <| wE (qQ 2 (hr := by decide)) <| wE (uJ yY 2) <| wR (kA jI) <| wE (oBf vQ nU nS) <| wT (kR yD) <| wZ) ?_
 refine jG ⟨_, (qB (cs := (bx (kS (A3.mk h.a0 h.a1 h.a2)))) (d := (kS (A3.mk h.a0 h.a1 h.a2))) rfl rfl yD rfl rfl .nil), ?_⟩
 rfl
theorem l_row1 (h : A9 jF) (h0 h1 h2 h3 h4 h5 h6 h7 h8 : Int) (hh0 : kZ h.a0 h0 1000000000) (hh1 : kZ h.a1 h1 1000000000) (hh2 : kZ h.a2 h2 1000000000) (hh3 : kZ h.a3 h3 1000000000) (hh4 : kZ h.a4 h4 1000000000) (hh5 : kZ h.a5 h5 1000000000) (hh6 : kZ h.a6 h6 1000000000) (hh7 : kZ h.a7 h7 1000000000) (hh8 : kZ h.a8 h8 1000000000) : kF Tryz.prog 159 [(qL h), (.val (.int .i64 (((1 : Nat) : Int))))] (kS (A3.mk h.a3 h.a4 h.a5)) := by
 refine jL Tryz.func159 rfl cb159 rfl ?_
 show uK _ _ _ _ ⟨[(0, (.d (qL h))), (1, (kE 1))], []⟩
 refine jA <| kx [(2, (.ref 0 0)), (4, (.ref 1 0))] [(0, some (bx (qL h))), (1, some (bx (kS (A3.mk (jF.mk false []) (jF.mk false []) (jF.mk false [])))))] (zN (uX 0) <| zN (qH 1 nU nS) <| zZ) ?_
 refine jA <| kd [] [(1, some (bx (kS (A3.mk h.a3 h.a4 h.a5))))] mo (wM <| wE (oMl 3 (hr := by decide)) <| wE (uJ yY 3) <| wR (kA jI) <| wM <| wE (oMl 3 (hr := by decide)) <| wE (qQ 4 (hr := by decide)) <| wE (uJ yY 4) <| wR (kA jI) <| wM <| wE (oMl 3 (hr := by decide)) <| wE (qQ 5 (hr := by decide)) <| wE (uJ yY 5) <| wR (kA jI) <| wE (oBf vQ nU nS) <| wT (kR yD) <| wZ) ?_
 refine jG ⟨_, (qB (cs := (bx (kS (A3.mk h.a3 h.a4 h.a5)))) (d := (kS (A3.mk h.a3 h.a4 h.a5))) rfl rfl yD rfl rfl .nil), ?_⟩
 rfl
theorem l_row2 (h : A9 jF) (h0 h1 h2 h3 h4 h5 h6 h7 h8 : Int) (hh0 : kZ h.a0 h0 1000000000) (hh1 : kZ h.a1 h1 1000000000) (hh2 : kZ h.a2 h2 1000000000) (hh3 : kZ h.a3 h3 1000000000) (hh4 : kZ h.a4 h4 1000000000) (hh5 : kZ h.a5 h5 1000000000) (hh6 : kZ h.a6 h6 1000000000) (hh7 : kZ h.a7 h7 1000000000) (hh8 : kZ h.a8 h8 1000000000) : kF Tryz.prog 159 [(qL h), (.val (.int .i64 (((2 : Nat) : Int))))] (kS (A3.mk h.a6 h.a7 h.a8)) := by
 refine jL Tryz.func159 rfl cb159 rfl ?_
 show uK _ _ _ _ ⟨[(0, (.d (qL h))), (1, (kE 2))], []⟩
 refine jA <| kx [(2, (.ref 0 0)), (4, (.ref 1 0))] [(0, some (bx (qL h))), (1, some (bx (kS (A3.mk (jF.mk false []) (jF.mk false []) (jF.mk false [])))))] (zN (uX 0) <| zN (qH 1 nU nS) <| zZ) ?_
 refine jA <| kd [] [(1, some (bx (kS (A3.mk h.a6 h.a7 h.a8))))] mo (wM <| wE (oMl 6 (hr := by decide)) <| wE (uJ yY 6) <| wR (kA jI) <| wM <| wE (oMl 6 (hr := by decide)) <| wE (qQ 7 (hr := by decide)) <| wE (uJ yY 7) <| wR (kA jI) <| wM <| wE (oMl 6 (hr := by decide)) <| wE (qQ 8 (hr := by decide)) <| wE (uJ yY 8) <| wR (kA jI) <| wE (oBf vQ nU nS) <| wT (kR yD) <| wZ) ?_
 refine jG ⟨_, (qB (cs := (bx (kS (A3.mk h.a6 h.a7 h.a8)))) (d := (kS (A3.mk h.a6 h.a7 h.a8))) rfl rfl yD rfl rfl .nil), ?_⟩
 rfl
end Go.Proofs.YtbecgnplakngdaaGreat
namespace Go.Proofs.YtbecgnplakngdaaGreat
open Go.Fid
set_option maxRecDepth 4000
set_option linter.unusedVariables false
set_option linter.unusedSimpArgs false
theorem cb152 : callB Tryz.prog 152 = true := by kernel_rfl
theorem cb154 : callB Tryz.prog 154 = true := by kernel_rfl
theorem cb155 : callB Tryz.prog 155 = true := by kernel_rfl
theorem mI : uF Tryz.prog 98 = some (true, 18) := by kernel_rfl
theorem ze98 : xH Tryz.prog 98 = some [.bool false, .slice none 0 0, .bool false, .slice none 0 0, .bool false, .slice none 0 0, .bool false, .slice none 0 0, .bool false, .slice none 0 0, .bool false, .slice none 0 0, .bool false, .slice none 0 0, .bool false, .slice none 0 0, .bool false, .slice none 0 0] := by kernel_rfl
theorem zo98 : mP [.bool false, .slice none 0 0, .bool false, .slice none 0 0, .bool false, .slice none 0 0, .bool false, .slice none 0 0, .bool false, .slice none 0 0, .bool false, .slice none 0 0, .bool false, .slice none 0 0, .bool false, .slice none 0 0, .bool false, .slice none 0 0] [.val (.bool false), .sl 152 1 [], .val (.bool false), .sl 152 1 [], .val (.bool false), .sl 152 1 [], .val (.bool false), .sl 152 1 [], .val (.bool false), .sl 152 1 [], .val (.bool false), .sl 152 1 [], .val (.bool false), .sl 152 1 [], .val (.bool false), .sl 152 1 [], .val (.bool false), .sl 152 1 []] := by simp [mP, Value.oneCell']
theorem d_nine (b q : Nat) : kF Tryz.prog 155 [(.val (.pointer (some ⟨b, q, none⟩)))] (.val (.slice (some ⟨b, q, none⟩) 9 9)) := by
 refine jL Tryz.func155 rfl cb155 rfl ?_
 show uK _ _ _ _ ⟨[(0, (.d (.val (.pointer (some ⟨b, q, none⟩)))))], []⟩
 refine jA <| kx [] [] (zE (oNl 40 2) <| zZ) ?_
 refine jA <| kx [(2, (.d (.val (.slice (some ⟨b, q, none⟩) 9 9))))] [] (zM <| zE oNp <| zE (e_slp (by exact rfl) yY (by exact rfl) (by kernel_rfl)) <| zM <| zZ) ?_
 refine jG ⟨_, (.tmp (d := (.val (.slice (some ⟨b, q, none⟩) 9 9))) rfl .nil), ?_⟩
 rfl
theorem d_det (p : A3 jF) (p0 p1 p2 : Int) (hp0 : kZ p.a0 p0 1000000) (hp1 : kZ p.a1 p1 1000000) (hp2 : kZ p.a2 p2 1000000) (q : A3 jF) (q0 q1 q2 : Int) (hq0 : kZ q.a0 q0 1000000) (hq1 : kZ q.a1 q1 1000000) (hq2 : kZ q.a2 q2 1000000) (r : A3 jF) (r0 r1 r2 : Int) (hr0 : kZ r.a0 r0 1000000) (hr1 : kZ r.a1 r1 1000000) (hr2 : kZ r.a2 r2 1000000) : kF Tryz.prog 152 [(kS p), (kS q), (kS r)] (jH (jK (gN p0 p1 p2 q0 q1 q2 r0 r1 r2))) := by
 refine jL Tryz.func152 rfl cb152 rfl ?_
 show uK _ _ _ _ ⟨[(0, (.d (kS p))), (1, (.d (kS q))), (2, (.d (kS r)))], []⟩
 refine jA <| kx [(3, (.ref 0 0)), (4, (.ref 1 0)), (5, (.ref 2 0)), (6, (.ref 3 0))] [(0, some (bx (kS p))), (1, some (bx (kS q))), (2, some (bx (kS r))), (3, some (bx (jH (jF.mk false []))))] (zN (uX 0) <| zN (uX 1) <| zN (uX 2) <| zN (qH 3 uD uE) <| zZ) ?_
 refine jA ?_
 have bn1 : kZ (jK ((p1 * q2) - (p2 * q1))) ((p1 * q2) - (p2 * q1)) 2000001 := (lE (k := 2000001) (jP (k := 2000000) hp1 hq2 (by decide)) (jP (k := 2000000) hp2 hq1 (by decide)) (by decide))
 have bn2 : kZ (jK ((p2 * q0) - (p0 * q2))) ((p2 * q0) - (p0 * q2)) 2000001 := (lE (k := 2000001) (jP (k := 2000000) hp2 hq0 (by decide)) (jP (k := 2000000) hp0 hq2 (by decide)) (by decide))
 have bn3 : kZ (jK ((p0 * q1) - (p1 * q0))) ((p0 * q1) - (p1 * q0)) 2000001 := (lE (k := 2000001) (jP (k := 2000000) hp0 hq1 (by decide)) (jP (k := 2000000) hp1 hq0 (by decide)) (by decide))
 have bn4 : kZ (jK (((((p1 * q2) - (p2 * q1)) * r0) + (((p2 * q0) - (p0 * q2)) * r1)) + (((p0 * q1) - (p1 * q0)) * r2))) (((((p1 * q2) - (p2 * q1)) * r0) + (((p2 * q0) - (p0 * q2)) * r1)) + (((p0 * q1) - (p1 * q0)) * r2)) 3000003 := (xO (k := 3000003) (xO (k := 3000002) (jP (k := 3000001) bn1 hr0 (by decide)) (jP (k := 3000001) bn2 hr1 (by decide)) (by decide)) (jP (k := 3000001) bn3 hr2 (by decide)) (by decide))
 refine kd [] [(3, some (bx (jH (jK (((((p1 * q2) - (p2 * q1)) * r0) + (((p2 * q0) - (p0 * q2)) * r1)) + (((p0 * q1) - (p1 * q0)) * r2))))))] mo (wR (kA yD) <| wR (kA yD) <| wE (kC (d_cross p p0 p1 p2 (iu hp0) (iu hp1) (iu hp2) q q0 q1 q2 (iu hq0) (iu hq1) (iu hq2))) <| wR (kA yD) <| wE (kC (d_dot (A3.mk (jK ((p1 * q2) - (p2 * q1))) (jK ((p2 * q0) - (p0 * q2))) (jK ((p0 * q1) - (p1 * q0)))) ((p1 * q2) - (p2 * q1)) ((p2 * q0) - (p0 * q2)) ((p0 * q1) - (p1 * q0)) (iu bn1) (iu bn2) (iu bn3) r r0 r1 r2 (iu hr0) (iu hr1) (iu hr2))) <| wT (kR jI) <| wZ) ?_
 refine jG ⟨_, (qB (cs := (bx (jH (jK (((((p1 * q2) - (p2 * q1)) * r0) + (((p2 * q0) - (p0 * q2)) * r1)) + (((p0 * q1) - (p1 * q0)) * r2)))))) (d := (jH (jK (((((p1 * q2) - (p2 * q1)) * r0) + (((p2 * q0) - (p0 * q2)) * r1)) + (((p0 * q1) - (p1 * q0)) * r2))))) rfl rfl jI rfl rfl .nil), ?_⟩
 rw [det3_cr]; rfl
theorem d_red9 (z0 z1 z2 z3 z4 z5 z6 z7 z8 : Int) (hz0 : kZ (jK z0) z0 1000000) (hz1 : kZ (jK z1) z1 1000000) (hz2 : kZ (jK z2) z2 1000000) (hz3 : kZ (jK z3) z3 1000000) (hz4 : kZ (jK z4) z4 1000000) (hz5 : kZ (jK z5) z5 1000000) (hz6 : kZ (jK z6) z6 1000000) (hz7 : kZ (jK z7) z7 1000000) (hz8 : kZ (jK z8) z8 1000000) (c0 c1 c2 c3 c4 c5 c6 c7 c8 : Int) (hc : xB [z0, z1, z2, z3, z4, z5, z6, z7, z8] = [c0, c1, c2, c3, c4, c5, c6, c7, c8]) (hnz : vK [z0, z1, z2, z3, z4, z5, z6, z7, z8] ≠ 0) : kF Tryz.prog 154 [(qL (A9.mk (jK z0) (jK z1) (jK z2) (jK z3) (jK z4) (jK z5) (jK z6) (jK z7) (jK z8))), (.val (.func (.func 155) #[] #[]))] (qL (A9.mk (jK c0) (jK c1) (jK c2) (jK c3) (jK c4) (jK c5) (jK c6) (jK c7) (jK c8))) := by
 have hd0 := iR hnz
 have e := hc
 simp only [xB, List.map_cons, List.map_nil, List.cons.injEq, and_true] at e
 obtain ⟨e0, e1, e2, e3, e4, e5, e6, e7, e8⟩ := e
 let y12 := [z0, z1, z2, z3, z4, z5, z6, z7, z8]
 let y11 := (jK (z5.fdiv (nF y12)))
 let y10 := (jK (z4.fdiv (nF y12)))
 let y9 := (jK (z3.fdiv (nF y12)))
 let y8 := (jK (z2.fdiv (nF y12)))
 let y7 := (jK (z1.fdiv (nF y12)))
 let y6 := (jK (z0.fdiv (nF y12)))
 let y5 := (qL (A9.mk (jK z0) (jK z1) (jK z2) (jK z3) (jK z4) (jK z5) (jK z6) (jK z7) (jK z8)))
 let y4 := (bx (qL (A9.mk (jF.mk false []) (jF.mk false []) (jF.mk false []) (jF.mk false []) (jF.mk false []) (jF.mk false []) (jF.mk false []) (jF.mk false []) (jF.mk false []))))
 let y3 := (bx (qL (A9.mk y6 y7 (jK z2) (jK z3) (jK z4) (jK z5) (jK z6) (jK z7) (jK z8))))
 let y2 := (bx (qL (A9.mk y6 y7 y8 y9 y10 y11 (jK z6) (jK z7) (jK z8))))
 let y1 := (bx (qL (A9.mk y6 y7 y8 y9 y10 y11 (jK (z6.fdiv (nF y12))) (jK (z7.fdiv (nF y12))) (jK (z8.fdiv (nF y12))))))
 refine jL Tryz.func154 rfl cb154 rfl ?_
 show uK _ _ _ _ ⟨[(0, (.d y5)), (1, (.d (.val (.func (.func 155) #[] #[]))))], []⟩
 refine jA <| kx [(2, (.ref 0 0)), (4, (.ref 1 0))] [(0, some (bx y5)), (1, some y4)] (zN (uX 0) <| zN (qH 1 ze98 zo98) <| zZ) ?_
 refine jA <| kx [(5, (.view 0 0 9))] [] (zM <| zE (oCp (fun b => d_nine b 0)) <| zM <| zZ) ?_
 refine jA ?_
 have bn1 : kZ (jK (nF [z0, z1, z2, z3, z4, z5, z6, z7, z8])) (nF [z0, z1, z2, z3, z4, z5, z6, z7, z8]) 1000000 := (nL (dvL_len (LOk.all (n := 1000000) (.cons hz0 (.cons hz1 (.cons hz2 (.cons hz3 (.cons hz4 (.cons hz5 (.cons hz6 (.cons hz7 (.cons hz8 .nil))))))))))))
 refine kx [(6, (.ref 2 0))] [(2, some (bx (jH (jK (nF y12)))))] (zM <| zR ⟨(bx y5), e_clv (es := List.map jH [(jK z0), (jK z1), (jK z2), (jK z3), (jK z4), (jK z5), (jK z6), (jK z7), (jK z8)]) (d_divisor 1000000 [(jK z0), (jK z1), (jK z2), (jK z3), (jK z4), (jK z5), (jK z6), (jK z7), (jK z8)] y12 (.cons hz0 (.cons hz1 (.cons hz2 (.cons hz3 (.cons hz4 (.cons hz5 (.cons hz6 (.cons hz7 (.cons hz8 .nil))))))))) (Nat.le_of_ble_eq_true rfl) (by simp only [List.all_cons, List.all_nil, iJ, Bool.and_self])) (by exact rfl) (by kernel_rfl) (by exact rfl) (.v .nil) (xZ _ _ (fun _ => rfl)) (by kernel_rfl) (by kernel_rfl) (.tup (nG (avo_encI (by decide) _) (nG (.val _) avo_nil))), by kernel_rfl⟩ <| zM <| zE uH <| zE uH <| zN (qH 2 uD uE) <| zT (kR jI) <| zM <| zZ) ?_
 refine jA <| jA <| kx [(17, (.view 0 0 9)), (18, (kE 9)), (19, (kE 0))] [] (zM <| zE (oLv vP) <| zM <| zZ) ?_
 refine jE <| qE 20 ?_
 refine qK <| jA <| kx [(20, (vb true))] [] (zE (qY true qS) <| zZ) ?_
 refine jA <| kD ?_
 refine jD <| jA <| jE <| jA <| kx [(8, (kE 0)), (9, (.ref 3 0))] [(3, some (bx (jH (jK z0))))] (zM <| zE (oXv vP 0) <| zR (kA jI) <| zN (qH 3 uD uE) <| zM <| zT (kR jI) <| zZ) ?_
 refine kx [] [(0, some (bx (qL (A9.mk y6 (jK z1) (jK z2) (jK z3) (jK z4) (jK z5) (jK z6) (jK z7) (jK z8)))))] (zM <| zM <| zR (kA jI) <| zR (kA jI) <| zE (kC (xQ hz0 bn1 (by decide) (by decide) hd0)) <| zM <| zE uH <| zE uH <| zE uH <| zE (oXv vP 0) <| zT (kR jI) <| zZ) ?_
 refine kx [(19, (kE 1))] [] (zE (qQ 1 (hr := by decide)) <| zM <| zZ) ?_
 refine jJ (jZ.refl _) ?_
 refine jA <| kx [(20, (vb true))] [] (zE (qY true qS) <| zZ) ?_
 refine jA <| kD ?_
 refine jD <| jA <| jE <| jA <| kx [(8, (kE 1)), (9, (.ref 4 0))] [(4, some (bx (jH (jK z1))))] (zM <| zE (oXv vP 1) <| zR (kA jI) <| zN (qH 4 uD uE) <| zM <| zT (kR jI) <| zZ) ?_
 refine kx [] [(0, some y3)] (zM <| zM <| zR (kA jI) <| zR (kA jI) <| zE (kC (xQ hz1 bn1 (by decide) (by decide) hd0)) <| zM <| zE uH <| zE uH <| zE uH <| zE (oXv vP 1) <| zT (kR jI) <| zZ) ?_
 refine kx [(19, (kE 2))] [] (zE (qQ 2 (hr := by decide)) <| zM <| zZ) ?_
 refine jJ (jZ.refl _) ?_
 refine jA <| kx [(20, (vb true))] [] (zE (qY true qS) <| zZ) ?_
 refine jA <| kD ?_
 refine jD <| jA <| jE <| jA <| kx [(8, (kE 2)), (9, (.ref 5 0))] [(5, some (bx (jH (jK z2))))] (zM <| zE (oXv vP 2) <| zR (kA jI) <| zN (qH 5 uD uE) <| zM <| zT (kR jI) <| zZ) ?_
 refine kX (wk (l := [(2, (.ref 0 0)), (4, (.ref 1 0)), (5, (.view 0 0 9)), (6, (.ref 2 0)), (8, (kE 2)), (9, (.ref 5 0)), (17, (.view 0 0 9)), (18, (kE 9)), (19, (kE 2))]) (b := [(0, some y3), (1, some y4), (2, some (bx (jH (jK (nF y12))))), (5, some (bx (jH (jK z2))))])) ?_
 refine kx [] [(0, some (bx (qL (A9.mk y6 y7 y8 (jK z3) (jK z4) (jK z5) (jK z6) (jK z7) (jK z8)))))] (zM <| zM <| zR (kA jI) <| zR (kA jI) <| zE (kC (xQ hz2 bn1 (by decide) (by decide) hd0)) <| zM <| zE uH <| zE uH <| zE uH <| zE (oXv vP 2) <| zT (kR jI) <| zZ) ?_
 refine kx [(19, (kE 3))] [] (zE (qQ 3 (hr := by decide)) <| zM <| zZ) ?_
 refine jJ (jZ.refl _) ?_
 refine jA <| kx [(20, (vb true))] [] (zE (qY true qS) <| zZ) ?_
 refine jA <| kD ?_
 refine jD <| jA <| jE <| jA <| kx [(8, (kE 3)), (9, (.ref 6 0))] [(6, some (bx (jH (jK z3))))] (zM <| zE (oXv vP 3) <| zR (kA jI) <| zN (qH 6 uD uE) <| zM <| zT (kR jI) <| zZ) ?_
 refine kx [] [(0, some (bx (qL (A9.mk y6 y7 y8 y9 (jK z4) (jK z5) (jK z6) (jK z7) (jK z8)))))] (zM <| zM <| zR (kA jI) <| zR (kA jI) <| zE (kC (xQ hz3 bn1 (by decide) (by decide) hd0)) <| zM <| zE uH <| zE uH <| zE uH <| zE (oXv vP 3) <| zT (kR jI) <| zZ) ?_
 refine kx [(19, (kE 4))] [] (zE (qQ 4 (hr := by decide)) <| zM <| zZ) ?_
 refine jJ (jZ.refl _) ?_
 refine jA <| kx [(20, (vb true))] [] (zE (qY true qS) <| zZ) ?_
 refine jA <| kD ?_
 refine jD <| jA <| jE <| jA <| kx [(8, (kE 4)), (9, (.ref 7 0))] [(7, some (bx (jH (jK z4))))] (zM <| zE (oXv vP 4) <| zR (kA jI) <| zN (qH 7 uD uE) <| zM <| zT (kR jI) <| zZ) ?_
 refine kx [] [(0, some (bx (qL (A9.mk y6 y7 y8 y9 y10 (jK z5) (jK z6) (jK z7) (jK z8)))))] (zM <| zM <| zR (kA jI) <| zR (kA jI) <| zE (kC (xQ hz4 bn1 (by decide) (by decide) hd0)) <| zM <| zE uH <| zE uH <| zE uH <| zE (oXv vP 4) <| zT (kR jI) <| zZ) ?_
 refine kx [(19, (kE 5))] [] (zE (qQ 5 (hr := by decide)) <| zM <| zZ) ?_
 refine jJ (jZ.refl _) ?_
 refine jA <| kx [(20, (vb true))] [] (zE (qY true qS) <| zZ) ?_
 refine jA <| kD ?_
 refine jD <| jA <| jE <| jA <| kx [(8, (kE 5)), (9, (.ref 8 0))] [(8, some (bx (jH (jK z5))))] (zM <| zE (oXv vP 5) <| zR (kA jI) <| zN (qH 8 uD uE) <| zM <| zT (kR jI) <| zZ) ?_
 refine kx [] [(0, some y2)] (zM <| zM <| zR (kA jI) <| zR (kA jI) <| zE (kC (xQ hz5 bn1 (by decide) (by decide) hd0)) <| zM <| zE uH <| zE uH <| zE uH <| zE (oXv vP 5) <| zT (kR jI) <| zZ) ?_
 refine kx [(19, (kE 6))] [] (zE (qQ 6 (hr := by decide)) <| zM <| zZ) ?_
 refine jJ (jZ.refl _) ?_
 refine jA <| kX (wk (l := [(2, (.ref 0 0)), (4, (.ref 1 0)), (5, (.view 0 0 9)), (6, (.ref 2 0)), (17, (.view 0 0 9)), (18, (kE 9)), (19, (kE 6))]) (b := [(0, some y2), (1, some y4), (2, some (bx (jH (jK (nF y12)))))])) ?_
 refine kx [(20, (vb true))] [] (zE (qY true qS) <| zZ) ?_
 refine jA <| kD ?_
 refine jD <| jA <| jE <| jA <| kx [(8, (kE 6)), (9, (.ref 9 0))] [(9, some (bx (jH (jK z6))))] (zM <| zE (oXv vP 6) <| zR (kA jI) <| zN (qH 9 uD uE) <| zM <| zT (kR jI) <| zZ) ?_
 refine kx [] [(0, some (bx (qL (A9.mk y6 y7 y8 y9 y10 y11 (jK (z6.fdiv (nF y12))) (jK z7) (jK z8)))))] (zM <| zM <| zR (kA jI) <| zR (kA jI) <| zE (kC (xQ hz6 bn1 (by decide) (by decide) hd0)) <| zM <| zE uH <| zE uH <| zE uH <| zE (oXv vP 6) <| zT (kR jI) <| zZ) ?_
 refine kx [(19, (kE 7))] [] (zE (qQ 7 (hr := by decide)) <| zM <| zZ) ?_
 refine jJ (jZ.refl _) ?_
 refine jA <| kx [(20, (vb true))] [] (zE (qY true qS) <| zZ) ?_
 refine jA <| kD ?_
 refine jD <| jA <| jE <| jA <| kx [(8, (kE 7)), (9, (.ref 10 0))] [(10, some (bx (jH (jK z7))))] (zM <| zE (oXv vP 7) <| zR (kA jI) <| zN (qH 10 uD uE) <| zM <| zT (kR jI) <| zZ) ?_
 refine kx [] [(0, some (bx (qL (A9.mk y6 y7 y8 y9 y10 y11 (jK (z6.fdiv (nF y12))) (jK (z7.fdiv (nF y12))) (jK z8)))))] (zM <| zM <| zR (kA jI) <| zR (kA jI) <| zE (kC (xQ hz7 bn1 (by decide) (by decide) hd0)) <| zM <| zE uH <| zE uH <| zE uH <| zE (oXv vP 7) <| zT (kR jI) <| zZ) ?_
 refine kx [(19, (kE 8))] [] (zE (qQ 8 (hr := by decide)) <| zM <| zZ) ?_
 refine jJ (jZ.refl _) ?_
 refine jA <| kx [(20, (vb true))] [] (zE (qY true qS) <| zZ) ?_
 refine jA <| kD ?_
 refine jD <| jA <| jE <| jA <| kx [(8, (kE 8)), (9, (.ref 11 0))] [(11, some (bx (jH (jK z8))))] (zM <| zE (oXv vP 8) <| zR (kA jI) <| zN (qH 11 uD uE) <| zM <| zT (kR jI) <| zZ) ?_
 refine kx [] [(0, some y1)] (zM <| zM <| zR (kA jI) <| zR (kA jI) <| zE (kC (xQ hz8 bn1 (by decide) (by decide) hd0)) <| zM <| zE uH <| zE uH <| zE uH <| zE (oXv vP 8) <| zT (kR jI) <| zZ) ?_
 refine kx [(19, (kE 9))] [] (zE (qQ 9 (hr := by decide)) <| zM <| zZ) ?_
 refine jJ (jZ.refl _) ?_
 refine jA <| kx [(20, (vb false))] [] (zE (qY false qS) <| zZ) ?_
 refine jA <| kO ?_
 refine kQ <| jA <| kx [] [(1, some y1)] (zR (kA mI) <| zT (kR mI) <| zZ) ?_
 refine jG ⟨_, (qB (cs := (bx (qL (A9.mk (jK (z0.fdiv (nF [z0, z1, z2, z3, z4, z5, z6, z7, z8]))) (jK (z1.fdiv (nF [z0, z1, z2, z3, z4, z5, z6, z7, z8]))) (jK (z2.fdiv (nF [z0, z1, z2, z3, z4, z5, z6, z7, z8]))) (jK (z3.fdiv (nF [z0, z1, z2, z3, z4, z5, z6, z7, z8]))) (jK (z4.fdiv (nF [z0, z1, z2, z3, z4, z5, z6, z7, z8]))) (jK (z5.fdiv (nF [z0, z1, z2, z3, z4, z5, z6, z7, z8]))) (jK (z6.fdiv (nF [z0, z1, z2, z3, z4, z5, z6, z7, z8]))) (jK (z7.fdiv (nF [z0, z1, z2, z3, z4, z5, z6, z7, z8]))) (jK (z8.fdiv (nF [z0, z1, z2, z3, z4, z5, z6, z7, z8]))))))) (d := (qL (A9.mk (jK (z0.fdiv (nF [z0, z1, z2, z3, z4, z5, z6, z7, z8]))) (jK (z1.fdiv (nF [z0, z1, z2, z3, z4, z5, z6, z7, z8]))) (jK (z2.fdiv (nF [z0, z1, z2, z3, z4, z5, z6, z7, z8]))) (jK (z3.fdiv (nF [z0, z1, z2, z3, z4, z5, z6, z7, z8]))) (jK (z4.fdiv (nF [z0, z1, z2, z3, z4, z5, z6, z7, z8]))) (jK (z5.fdiv (nF [z0, z1, z2, z3, z4, z5, z6, z7, z8]))) (jK (z6.fdiv (nF [z0, z1, z2, z3, z4, z5, z6, z7, z8]))) (jK (z7.fdiv (nF [z0, z1, z2, z3, z4, z5, z6, z7, z8]))) (jK (z8.fdiv (nF [z0, z1, z2, z3, z4, z5, z6, z7, z8])))))) rfl rfl mI rfl rfl .nil), ?_⟩
 rw [e0, e1, e2, e3, e4, e5, e6, e7, e8]; rfl
end Go.Proofs.YtbecgnplakngdaaGreat
