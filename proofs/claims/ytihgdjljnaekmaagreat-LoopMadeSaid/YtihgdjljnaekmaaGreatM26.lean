/- Part 26 of a proof: rules, plain facts, and functions walked. -/
import Derived.Test.YtihgdjljnaekmaaGreatM25
import Derived.Test.YtihgdjljnaekmaaGreatM12
import Derived.Test.YtihgdjljnaekmaaGreatM4
namespace Go.Proofs.YtihgdjljnaekmaaGreat
open Go.Fid
set_option maxRecDepth 4000
set_option linter.unusedVariables false
set_option linter.unusedSimpArgs false
theorem cb50 : callB Tryz.prog 50 = true := by kernel_rfl
theorem cb61 : callB Tryz.prog 61 = true := by kernel_rfl
theorem cb75 : callB Tryz.prog 75 = true := by kernel_rfl
theorem l_mul (p : jB) (q : jB) (hp : cQ p) (hq : cQ q) : jZ Tryz.prog 50 [(jE p), (jE q)] (.tup [(jE (qV (kB p q))), (.val (.int .i64 ((((qC (kB p q)) : Nat) : Int))))]) := by
 obtain ⟨pa_, pb_, pc_, pd_⟩ := hp.2.bd
 obtain ⟨qa_, qb_, qc_, qd_⟩ := hq.2.bd
 have := xF pa_ qa_
 have := xF pa_ qb_
 have := xF pa_ qc_
 have := xF pa_ qd_
 have := xF pb_ qa_
 have := xF pb_ qb_
 have := xF pb_ qc_
 have := xF pb_ qd_
 have := xF pc_ qa_
 have := xF pc_ qb_
 have := xF pc_ qc_
 have := xF pc_ qd_
 have := xF pd_ qa_
 have := xF pd_ qb_
 have := xF pd_ qc_
 have := xF pd_ qd_
 refine jL Tryz.func50 rfl cb50 rfl ?_
 show qS _ _ _ _ ⟨[(0, (.d (jE p))), (1, (.d (jE q)))], []⟩
 refine jA <| kx [(2, (.ref 0 0)), (3, (.ref 1 0)), (4, (.ref 2 0))] [(0, some (bx (jE p))), (1, some (bx (jE q))), (2, some (bx (jE (jB.mk 0 0 0 0))))] (zN (zL 0) <| zN (zL 1) <| zN (uQ 2 uY uZ) <| zM <| zZ) ?_
 refine jA <| jA <| kx [(6, (vi 0))] [] (zR (kT kK) <| zR (kT kK) <| zE (aA gH uY uZ) <| zE (kD (l_chkd p q hp hq)) <| zM <| zZ) ?_
 refine jA <| kx [(12, (vb false))] [] (zM <| zE (xH false cG) <| zZ) ?_
 refine qN ?_
 refine jF <| jA <| kx [(5, (jQ (qC (jB.mk ((((p.a * q.a) - (p.b * q.b)) - (p.c * q.c)) - (p.d * q.d)) ((((p.a * q.b) + (p.b * q.a)) + (p.c * q.d)) - (p.d * q.c)) ((((p.a * q.c) - (p.b * q.d)) + (p.c * q.a)) + (p.d * q.b)) ((((p.a * q.d) + (p.b * q.c)) - (p.c * q.b)) + (p.d * q.a))))))] [(2, some (bx (jE (qV (jB.mk ((((p.a * q.a) - (p.b * q.b)) - (p.c * q.c)) - (p.d * q.d)) ((((p.a * q.b) + (p.b * q.a)) + (p.c * q.d)) - (p.d * q.c)) ((((p.a * q.c) - (p.b * q.d)) + (p.c * q.a)) + (p.d * q.b)) ((((p.a * q.d) + (p.b * q.c)) - (p.c * q.b)) + (p.d * q.a)))))))] (zE (kQ vJ) <| zR (kM qA) <| zE (kQ vJ) <| zR (kM qA) <| zE (eR (p.a * q.a) (hr := by exact (qK rfl (by simp only [xN]; omega) (by simp only [xO]; omega)))) <| zE (kQ vN) <| zR (kM qA) <| zE (kQ vN) <| zR (kM qA) <| zE (eR (p.b * q.b) (hr := by exact (qK rfl (by simp only [xN]; omega) (by simp only [xO]; omega)))) <| zE (zSb ((p.a * q.a) - (p.b * q.b)) (hr := by exact (qK rfl (by simp only [xN]; omega) (by simp only [xO]; omega)))) <| zE (kQ vM) <| zR (kM qA) <| zE (kQ vM) <| zR (kM qA) <| zE (eR (p.c * q.c) (hr := by exact (qK rfl (by simp only [xN]; omega) (by simp only [xO]; omega)))) <| zE (zSb (((p.a * q.a) - (p.b * q.b)) - (p.c * q.c)) (hr := by exact (qK rfl (by simp only [xN]; omega) (by simp only [xO]; omega)))) <| zE (kQ vK) <| zR (kM qA) <| zE (kQ vK) <| zR (kM qA) <| zE (eR (p.d * q.d) (hr := by exact (qK rfl (by simp only [xN]; omega) (by simp only [xO]; omega)))) <| zE (zSb ((((p.a * q.a) - (p.b * q.b)) - (p.c * q.c)) - (p.d * q.d)) (hr := by exact (qK rfl (by simp only [xN]; omega) (by simp only [xO]; omega)))) <| zE (kQ vJ) <| zR (kM qA) <| zE (kQ vN) <| zR (kM qA) <| zE (eR (p.a * q.b) (hr := by exact (qK rfl (by simp only [xN]; omega) (by simp only [xO]; omega)))) <| zE (kQ vN) <| zR (kM qA) <| zE (kQ vJ) <| zR (kM qA) <| zE (eR (p.b * q.a) (hr := by exact (qK rfl (by simp only [xN]; omega) (by simp only [xO]; omega)))) <| zE (zAd ((p.a * q.b) + (p.b * q.a)) (hr := by exact (qK rfl (by simp only [xN]; omega) (by simp only [xO]; omega)))) <| zE (kQ vM) <| zR (kM qA) <| zE (kQ vK) <| zR (kM qA) <| zE (eR (p.c * q.d) (hr := by exact (qK rfl (by simp only [xN]; omega) (by simp only [xO]; omega)))) <| zE (zAd (((p.a * q.b) + (p.b * q.a)) + (p.c * q.d)) (hr := by exact (qK rfl (by simp only [xN]; omega) (by simp only [xO]; omega)))) <| zE (kQ vK) <| zR (kM qA) <| zE (kQ vM) <| zR (kM qA) <| zE (eR (p.d * q.c) (hr := by exact (qK rfl (by simp only [xN]; omega) (by simp only [xO]; omega)))) <| zE (zSb ((((p.a * q.b) + (p.b * q.a)) + (p.c * q.d)) - (p.d * q.c)) (hr := by exact (qK rfl (by simp only [xN]; omega) (by simp only [xO]; omega)))) <| zE (kQ vJ) <| zR (kM qA) <| zE (kQ vM) <| zR (kM qA) <| zE (eR (p.a * q.c) (hr := by exact (qK rfl (by simp only [xN]; omega) (by simp only [xO]; omega)))) <| zE (kQ vN) <| zR (kM qA) <| zE (kQ vK) <| zR (kM qA) <| zE (eR (p.b * q.d) (hr := by exact (qK rfl (by simp only [xN]; omega) (by simp only [xO]; omega)))) <| zE (zSb ((p.a * q.c) - (p.b * q.d)) (hr := by exact (qK rfl (by simp only [xN]; omega) (by simp only [xO]; omega)))) <| zE (kQ vM) <| zR (kM qA) <| zE (kQ vJ) <| zR (kM qA) <| zE (eR (p.c * q.a) (hr := by exact (qK rfl (by simp only [xN]; omega) (by simp only [xO]; omega)))) <| zE (zAd (((p.a * q.c) - (p.b * q.d)) + (p.c * q.a)) (hr := by exact (qK rfl (by simp only [xN]; omega) (by simp only [xO]; omega)))) <| zE (kQ vK) <| zR (kM qA) <| zE (kQ vN) <| zR (kM qA) <| zE (eR (p.d * q.b) (hr := by exact (qK rfl (by simp only [xN]; omega) (by simp only [xO]; omega)))) <| zE (zAd ((((p.a * q.c) - (p.b * q.d)) + (p.c * q.a)) + (p.d * q.b)) (hr := by exact (qK rfl (by simp only [xN]; omega) (by simp only [xO]; omega)))) <| zE (kQ vJ) <| zR (kM qA) <| zE (kQ vK) <| zR (kM qA) <| zE (eR (p.a * q.d) (hr := by exact (qK rfl (by simp only [xN]; omega) (by simp only [xO]; omega)))) <| zE (kQ vN) <| zR (kM qA) <| zE (kQ vM) <| zR (kM qA) <| zE (eR (p.b * q.c) (hr := by exact (qK rfl (by simp only [xN]; omega) (by simp only [xO]; omega)))) <| zE (zAd ((p.a * q.d) + (p.b * q.c)) (hr := by exact (qK rfl (by simp only [xN]; omega) (by simp only [xO]; omega)))) <| zE (kQ vM) <| zR (kM qA) <| zE (kQ vN) <| zR (kM qA) <| zE (eR (p.c * q.b) (hr := by exact (qK rfl (by simp only [xN]; omega) (by simp only [xO]; omega)))) <| zE (zSb (((p.a * q.d) + (p.b * q.c)) - (p.c * q.b)) (hr := by exact (qK rfl (by simp only [xN]; omega) (by simp only [xO]; omega)))) <| zE (kQ vK) <| zR (kM qA) <| zE (kQ vJ) <| zR (kM qA) <| zE (eR (p.d * q.a) (hr := by exact (qK rfl (by simp only [xN]; omega) (by simp only [xO]; omega)))) <| zE (zAd ((((p.a * q.d) + (p.b * q.c)) - (p.c * q.b)) + (p.d * q.a)) (hr := by exact (qK rfl (by simp only [xN]; omega) (by simp only [xO]; omega)))) <| zE (kD (l_red ((((p.a * q.a) - (p.b * q.b)) - (p.c * q.c)) - (p.d * q.d)) (by omega) (by omega) ((((p.a * q.b) + (p.b * q.a)) + (p.c * q.d)) - (p.d * q.c)) (by omega) (by omega) ((((p.a * q.c) - (p.b * q.d)) + (p.c * q.a)) + (p.d * q.b)) (by omega) (by omega) ((((p.a * q.d) + (p.b * q.c)) - (p.c * q.b)) + (p.d * q.a)) (by omega) (by omega) (xB hp.1 hq.1))) <| zE qG <| zE qG <| zT (kZ kK) <| zM <| zZ) ?_
 refine jI ⟨_, (kS (cs := (bx (jE (qV (jB.mk ((((p.a * q.a) - (p.b * q.b)) - (p.c * q.c)) - (p.d * q.d)) ((((p.a * q.b) + (p.b * q.a)) + (p.c * q.d)) - (p.d * q.c)) ((((p.a * q.c) - (p.b * q.d)) + (p.c * q.a)) + (p.d * q.b)) ((((p.a * q.d) + (p.b * q.c)) - (p.c * q.b)) + (p.d * q.a))))))) (d := (jE (qV (jB.mk ((((p.a * q.a) - (p.b * q.b)) - (p.c * q.c)) - (p.d * q.d)) ((((p.a * q.b) + (p.b * q.a)) + (p.c * q.d)) - (p.d * q.c)) ((((p.a * q.c) - (p.b * q.d)) + (p.c * q.a)) + (p.d * q.b)) ((((p.a * q.d) + (p.b * q.c)) - (p.c * q.b)) + (p.d * q.a)))))) rfl rfl kK rfl rfl (.tmp (d := (.val (.int .i64 ((((qC (jB.mk ((((p.a * q.a) - (p.b * q.b)) - (p.c * q.c)) - (p.d * q.d)) ((((p.a * q.b) + (p.b * q.a)) + (p.c * q.d)) - (p.d * q.c)) ((((p.a * q.c) - (p.b * q.d)) + (p.c * q.a)) + (p.d * q.b)) ((((p.a * q.d) + (p.b * q.c)) - (p.c * q.b)) + (p.d * q.a)))) : Nat) : Int))))) rfl .nil)), ?_⟩
 rfl
theorem l8_mul (p : jB) (q : jB) (hp : cQ p) (hq : cQ q) : jZ Tryz.prog 75 [(jE p), (jE q)] (.tup [(jE (qV (kB p q))), (.val (.int .i64 ((((qC (kB p q)) : Nat) : Int))))]) := by
 obtain ⟨pa_, pb_, pc_, pd_⟩ := hp.2.bd
 obtain ⟨qa_, qb_, qc_, qd_⟩ := hq.2.bd
 have := xF pa_ qa_
 have := xF pa_ qb_
 have := xF pa_ qc_
 have := xF pa_ qd_
 have := xF pb_ qa_
 have := xF pb_ qb_
 have := xF pb_ qc_
 have := xF pb_ qd_
 have := xF pc_ qa_
 have := xF pc_ qb_
 have := xF pc_ qc_
 have := xF pc_ qd_
 have := xF pd_ qa_
 have := xF pd_ qb_
 have := xF pd_ qc_
 have := xF pd_ qd_
 refine jL Tryz.func75 rfl cb75 rfl ?_
 show qS _ _ _ _ ⟨[(0, (.d (jE p))), (1, (.d (jE q)))], []⟩
 refine jA <| kx [(2, (.ref 0 0)), (3, (.ref 1 0)), (4, (.ref 2 0))] [(0, some (bx (jE p))), (1, some (bx (jE q))), (2, some (bx (jE (jB.mk 0 0 0 0))))] (zN (zL 0) <| zN (zL 1) <| zN (uQ 2 uY uZ) <| zM <| zZ) ?_
 refine jA <| kx [(6, (vi 0))] [] (zR (kT kK) <| zR (kT kK) <| zE (kD (l8_both p q hp hq)) <| zM <| zZ) ?_
 refine jA <| jA <| kx [(11, (vb false))] [] (zM <| zE (xH false cG) <| zZ) ?_
 refine qN ?_
 refine jF <| jA <| kx [(5, (jQ (qC (jB.mk ((((p.a * q.a) - (p.b * q.b)) - (p.c * q.c)) - (p.d * q.d)) ((((p.a * q.b) + (p.b * q.a)) + (p.c * q.d)) - (p.d * q.c)) ((((p.a * q.c) - (p.b * q.d)) + (p.c * q.a)) + (p.d * q.b)) ((((p.a * q.d) + (p.b * q.c)) - (p.c * q.b)) + (p.d * q.a))))))] [(2, some (bx (jE (qV (jB.mk ((((p.a * q.a) - (p.b * q.b)) - (p.c * q.c)) - (p.d * q.d)) ((((p.a * q.b) + (p.b * q.a)) + (p.c * q.d)) - (p.d * q.c)) ((((p.a * q.c) - (p.b * q.d)) + (p.c * q.a)) + (p.d * q.b)) ((((p.a * q.d) + (p.b * q.c)) - (p.c * q.b)) + (p.d * q.a)))))))] (zE (kQ vJ) <| zR (kM qA) <| zE (kQ vJ) <| zR (kM qA) <| zE (eR (p.a * q.a) (hr := by exact (qK rfl (by simp only [xN]; omega) (by simp only [xO]; omega)))) <| zE (kQ vN) <| zR (kM qA) <| zE (kQ vN) <| zR (kM qA) <| zE (eR (p.b * q.b) (hr := by exact (qK rfl (by simp only [xN]; omega) (by simp only [xO]; omega)))) <| zE (zSb ((p.a * q.a) - (p.b * q.b)) (hr := by exact (qK rfl (by simp only [xN]; omega) (by simp only [xO]; omega)))) <| zE (kQ vM) <| zR (kM qA) <| zE (kQ vM) <| zR (kM qA) <| zE (eR (p.c * q.c) (hr := by exact (qK rfl (by simp only [xN]; omega) (by simp only [xO]; omega)))) <| zE (zSb (((p.a * q.a) - (p.b * q.b)) - (p.c * q.c)) (hr := by exact (qK rfl (by simp only [xN]; omega) (by simp only [xO]; omega)))) <| zE (kQ vK) <| zR (kM qA) <| zE (kQ vK) <| zR (kM qA) <| zE (eR (p.d * q.d) (hr := by exact (qK rfl (by simp only [xN]; omega) (by simp only [xO]; omega)))) <| zE (zSb ((((p.a * q.a) - (p.b * q.b)) - (p.c * q.c)) - (p.d * q.d)) (hr := by exact (qK rfl (by simp only [xN]; omega) (by simp only [xO]; omega)))) <| zE (kQ vJ) <| zR (kM qA) <| zE (kQ vN) <| zR (kM qA) <| zE (eR (p.a * q.b) (hr := by exact (qK rfl (by simp only [xN]; omega) (by simp only [xO]; omega)))) <| zE (kQ vN) <| zR (kM qA) <| zE (kQ vJ) <| zR (kM qA) <| zE (eR (p.b * q.a) (hr := by exact (qK rfl (by simp only [xN]; omega) (by simp only [xO]; omega)))) <| zE (zAd ((p.a * q.b) + (p.b * q.a)) (hr := by exact (qK rfl (by simp only [xN]; omega) (by simp only [xO]; omega)))) <| zE (kQ vM) <| zR (kM qA) <| zE (kQ vK) <| zR (kM qA) <| zE (eR (p.c * q.d) (hr := by exact (qK rfl (by simp only [xN]; omega) (by simp only [xO]; omega)))) <| zE (zAd (((p.a * q.b) + (p.b * q.a)) + (p.c * q.d)) (hr := by exact (qK rfl (by simp only [xN]; omega) (by simp only [xO]; omega)))) <| zE (kQ vK) <| zR (kM qA) <| zE (kQ vM) <| zR (kM qA) <| zE (eR (p.d * q.c) (hr := by exact (qK rfl (by simp only [xN]; omega) (by simp only [xO]; omega)))) <| zE (zSb ((((p.a * q.b) + (p.b * q.a)) + (p.c * q.d)) - (p.d * q.c)) (hr := by exact (qK rfl (by simp only [xN]; omega) (by simp only [xO]; omega)))) <| zE (kQ vJ) <| zR (kM qA) <| zE (kQ vM) <| zR (kM qA) <| zE (eR (p.a * q.c) (hr := by exact (qK rfl (by simp only [xN]; omega) (by simp only [xO]; omega)))) <| zE (kQ vN) <| zR (kM qA) <| zE (kQ vK) <| zR (kM qA) <| zE (eR (p.b * q.d) (hr := by exact (qK rfl (by simp only [xN]; omega) (by simp only [xO]; omega)))) <| zE (zSb ((p.a * q.c) - (p.b * q.d)) (hr := by exact (qK rfl (by simp only [xN]; omega) (by simp only [xO]; omega)))) <| zE (kQ vM) <| zR (kM qA) <| zE (kQ vJ) <| zR (kM qA) <| zE (eR (p.c * q.a) (hr := by exact (qK rfl (by simp only [xN]; omega) (by simp only [xO]; omega)))) <| zE (zAd (((p.a * q.c) - (p.b * q.d)) + (p.c * q.a)) (hr := by exact (qK rfl (by simp only [xN]; omega) (by simp only [xO]; omega)))) <| zE (kQ vK) <| zR (kM qA) <| zE (kQ vN) <| zR (kM qA) <| zE (eR (p.d * q.b) (hr := by exact (qK rfl (by simp only [xN]; omega) (by simp only [xO]; omega)))) <| zE (zAd ((((p.a * q.c) - (p.b * q.d)) + (p.c * q.a)) + (p.d * q.b)) (hr := by exact (qK rfl (by simp only [xN]; omega) (by simp only [xO]; omega)))) <| zE (kQ vJ) <| zR (kM qA) <| zE (kQ vK) <| zR (kM qA) <| zE (eR (p.a * q.d) (hr := by exact (qK rfl (by simp only [xN]; omega) (by simp only [xO]; omega)))) <| zE (kQ vN) <| zR (kM qA) <| zE (kQ vM) <| zR (kM qA) <| zE (eR (p.b * q.c) (hr := by exact (qK rfl (by simp only [xN]; omega) (by simp only [xO]; omega)))) <| zE (zAd ((p.a * q.d) + (p.b * q.c)) (hr := by exact (qK rfl (by simp only [xN]; omega) (by simp only [xO]; omega)))) <| zE (kQ vM) <| zR (kM qA) <| zE (kQ vN) <| zR (kM qA) <| zE (eR (p.c * q.b) (hr := by exact (qK rfl (by simp only [xN]; omega) (by simp only [xO]; omega)))) <| zE (zSb (((p.a * q.d) + (p.b * q.c)) - (p.c * q.b)) (hr := by exact (qK rfl (by simp only [xN]; omega) (by simp only [xO]; omega)))) <| zE (kQ vK) <| zR (kM qA) <| zE (kQ vJ) <| zR (kM qA) <| zE (eR (p.d * q.a) (hr := by exact (qK rfl (by simp only [xN]; omega) (by simp only [xO]; omega)))) <| zE (zAd ((((p.a * q.d) + (p.b * q.c)) - (p.c * q.b)) + (p.d * q.a)) (hr := by exact (qK rfl (by simp only [xN]; omega) (by simp only [xO]; omega)))) <| zE (kD (l8_red ((((p.a * q.a) - (p.b * q.b)) - (p.c * q.c)) - (p.d * q.d)) (by omega) (by omega) ((((p.a * q.b) + (p.b * q.a)) + (p.c * q.d)) - (p.d * q.c)) (by omega) (by omega) ((((p.a * q.c) - (p.b * q.d)) + (p.c * q.a)) + (p.d * q.b)) (by omega) (by omega) ((((p.a * q.d) + (p.b * q.c)) - (p.c * q.b)) + (p.d * q.a)) (by omega) (by omega) (xB hp.1 hq.1))) <| zE qG <| zE qG <| zT (kZ kK) <| zM <| zZ) ?_
 refine jI ⟨_, (kS (cs := (bx (jE (qV (jB.mk ((((p.a * q.a) - (p.b * q.b)) - (p.c * q.c)) - (p.d * q.d)) ((((p.a * q.b) + (p.b * q.a)) + (p.c * q.d)) - (p.d * q.c)) ((((p.a * q.c) - (p.b * q.d)) + (p.c * q.a)) + (p.d * q.b)) ((((p.a * q.d) + (p.b * q.c)) - (p.c * q.b)) + (p.d * q.a))))))) (d := (jE (qV (jB.mk ((((p.a * q.a) - (p.b * q.b)) - (p.c * q.c)) - (p.d * q.d)) ((((p.a * q.b) + (p.b * q.a)) + (p.c * q.d)) - (p.d * q.c)) ((((p.a * q.c) - (p.b * q.d)) + (p.c * q.a)) + (p.d * q.b)) ((((p.a * q.d) + (p.b * q.c)) - (p.c * q.b)) + (p.d * q.a)))))) rfl rfl kK rfl rfl (.tmp (d := (.val (.int .i64 ((((qC (jB.mk ((((p.a * q.a) - (p.b * q.b)) - (p.c * q.c)) - (p.d * q.d)) ((((p.a * q.b) + (p.b * q.a)) + (p.c * q.d)) - (p.d * q.c)) ((((p.a * q.c) - (p.b * q.d)) + (p.c * q.a)) + (p.d * q.b)) ((((p.a * q.d) + (p.b * q.c)) - (p.c * q.b)) + (p.d * q.a)))) : Nat) : Int))))) rfl .nil)), ?_⟩
 rfl
theorem l_chord (p : jB) (q : jB) (hp : cQ p) (hq : cQ q) : jZ Tryz.prog 61 [(jE p), (jE q)] (.tup [(kX (yP (chQ p q))), (.val (.int .i64 (0)))]) := by
 obtain ⟨pa_, pb_, pc_, pd_⟩ := hp.2.bd
 obtain ⟨qa_, qb_, qc_, qd_⟩ := hq.2.bd
 have := xF pa_ qa_
 have := xF pb_ qb_
 have := xF pc_ qc_
 have := xF pd_ qd_
 have hnp : 1 ≤ nq p.a p.b p.c p.d ∧ nq p.a p.b p.c p.d ≤ 9223372036854775807 := qn_bd hp
 have hnq : 1 ≤ nq q.a q.b q.c q.d ∧ nq q.a q.b q.c q.d ≤ 9223372036854775807 := qn_bd hq
 let y1 := (yP (Rat.divInt (((((p.a * q.a) + (p.b * q.b)) + (p.c * q.c)) + (p.d * q.d)) * ((((p.a * q.a) + (p.b * q.b)) + (p.c * q.c)) + (p.d * q.d))) ((nq p.a p.b p.c p.d) * (nq q.a q.b q.c q.d))))
 refine jL Tryz.func61 rfl cb61 rfl ?_
 show qS _ _ _ _ ⟨[(0, (.d (jE p))), (1, (.d (jE q)))], []⟩
 refine jA <| kx [(2, (.ref 0 0)), (3, (.ref 1 0)), (4, (.ref 2 0))] [(0, some (bx (jE p))), (1, some (bx (jE q))), (2, some (bx (kX (uG.mk (kG.mk false []) (kG.mk false [])))))] (zN (zL 0) <| zN (zL 1) <| zN (uQ 2 cW dA) <| zM <| zZ) ?_
 refine jA <| jA <| kx [(6, (vi 0))] [] (zR (kT kK) <| zR (kT kK) <| zE (aA gH uY uZ) <| zE (kD (l_chkd p q hp hq)) <| zM <| zZ) ?_
 refine jA <| kx [(15, (vb false))] [] (zM <| zE (xH false cG) <| zZ) ?_
 refine qN ?_
 refine jF <| jA ?_
 have bn1 : zW (jR ((((p.a * q.a) + (p.b * q.b)) + (p.c * q.c)) + (p.d * q.d))) ((((p.a * q.a) + (p.b * q.b)) + (p.c * q.c)) + (p.d * q.d)) 3 := (yK (z := ((((p.a * q.a) + (p.b * q.b)) + (p.c * q.c)) + (p.d * q.d))) (by omega) (by omega))
 refine kx [(7, (.ref 3 0))] [(3, some (bx (jJ (jR ((((p.a * q.a) + (p.b * q.b)) + (p.c * q.c)) + (p.d * q.d))))))] (zE (kQ vJ) <| zR (kM qA) <| zE (kQ vJ) <| zR (kM qA) <| zE (eR (p.a * q.a) (hr := by exact (qK rfl (by simp only [xN]; omega) (by simp only [xO]; omega)))) <| zE (kQ vN) <| zR (kM qA) <| zE (kQ vN) <| zR (kM qA) <| zE (eR (p.b * q.b) (hr := by exact (qK rfl (by simp only [xN]; omega) (by simp only [xO]; omega)))) <| zE (zAd ((p.a * q.a) + (p.b * q.b)) (hr := by exact (qK rfl (by simp only [xN]; omega) (by simp only [xO]; omega)))) <| zE (kQ vM) <| zR (kM qA) <| zE (kQ vM) <| zR (kM qA) <| zE (eR (p.c * q.c) (hr := by exact (qK rfl (by simp only [xN]; omega) (by simp only [xO]; omega)))) <| zE (zAd (((p.a * q.a) + (p.b * q.b)) + (p.c * q.c)) (hr := by exact (qK rfl (by simp only [xN]; omega) (by simp only [xO]; omega)))) <| zE (kQ vK) <| zR (kM qA) <| zE (kQ vK) <| zR (kM qA) <| zE (eR (p.d * q.d) (hr := by exact (qK rfl (by simp only [xN]; omega) (by simp only [xO]; omega)))) <| zE (zAd ((((p.a * q.a) + (p.b * q.b)) + (p.c * q.c)) + (p.d * q.d)) (hr := by exact (qK rfl (by simp only [xN]; omega) (by simp only [xO]; omega)))) <| zE (kD (t_of ((((p.a * q.a) + (p.b * q.b)) + (p.c * q.c)) + (p.d * q.d)) (by omega) (by omega))) <| zN (uQ 3 uN uM) <| zT (kZ jM) <| zZ) ?_
 refine jA ?_
 have bn2 : zW (jR (nq p.a p.b p.c p.d)) (nq p.a p.b p.c p.d) 3 := (yK (z := (nq p.a p.b p.c p.d)) (by omega) (by omega))
 have bn3 : zW (jR (nq q.a q.b q.c q.d)) (nq q.a q.b q.c q.d) 3 := (yK (z := (nq q.a q.b q.c q.d)) (by omega) (by omega))
 have bn4 : QL (Rat.divInt (((((p.a * q.a) + (p.b * q.b)) + (p.c * q.c)) + (p.d * q.d)) * ((((p.a * q.a) + (p.b * q.b)) + (p.c * q.c)) + (p.d * q.d))) ((nq p.a p.b p.c p.d) * (nq q.a q.b q.c q.d))) 6 := (mL (n := 6) (Nat.le_trans (zW.ln (nJ (k := 6) bn1 bn1 (by decide))) (by decide)) (Nat.le_trans (zW.ln (nJ (k := 6) bn2 bn3 (by decide))) (by decide)) (by decide))
 refine kd [(8, (.ref 4 0))] [(4, some (bx (kX y1)))] mo (wR (kT jM) <| wR (kT jM) <| wE (kD (s_mul bn1 bn1 (by decide) (by decide))) <| wR (kT kK) <| wE (kD (qr_norm p.a p.b p.c p.d (by omega) (by omega) (by omega) (by omega))) <| wE (kD (t_of (nq p.a p.b p.c p.d) (by omega) (by omega))) <| wR (kT kK) <| wE (kD (qr_norm q.a q.b q.c q.d (by omega) (by omega) (by omega) (by omega))) <| wE (kD (t_of (nq q.a q.b q.c q.d) (by omega) (by omega))) <| wE (kD (s_mul bn2 bn3 (by decide) (by decide))) <| wE (kD (f_newO (jR (((((p.a * q.a) + (p.b * q.b)) + (p.c * q.c)) + (p.d * q.d)) * ((((p.a * q.a) + (p.b * q.b)) + (p.c * q.c)) + (p.d * q.d)))) (((((p.a * q.a) + (p.b * q.b)) + (p.c * q.c)) + (p.d * q.d)) * ((((p.a * q.a) + (p.b * q.b)) + (p.c * q.c)) + (p.d * q.d))) (xI (nJ (k := 6) bn1 bn1 (by decide)) (by decide)) (jR ((nq p.a p.b p.c p.d) * (nq q.a q.b q.c q.d))) ((nq p.a p.b p.c p.d) * (nq q.a q.b q.c q.d)) (xI (nJ (k := 6) bn2 bn3 (by decide)) (by decide)) (Int.mul_ne_zero (mT.1 hp.1) (mT.1 hq.1)))) <| wM <| wE qG <| wE qG <| wN (uQ 4 cW dA) <| wT (kZ vP) <| wM <| wZ) ?_
 refine jA ?_
 have bn5 : QL ((1 : Int) : Rat) 1 := (ql_int (z := 1) (lenZ_one (by decide)) (by decide))
 refine kd [(5, (jQ 0))] [(2, some (bx (kX (yP (((1 : Int) : Rat) - (Rat.divInt (((((p.a * q.a) + (p.b * q.b)) + (p.c * q.c)) + (p.d * q.d)) * ((((p.a * q.a) + (p.b * q.b)) + (p.c * q.c)) + (p.d * q.d))) ((nq p.a p.b p.c p.d) * (nq q.a q.b q.c q.d))))))))] mo (wE (kD (f_whole 1 (by decide) (by decide))) <| wR (kT vP) <| wE (kD (f_sub (yP ((1 : Int) : Rat)) y1 ((1 : Int) : Rat) (Rat.divInt (((((p.a * q.a) + (p.b * q.b)) + (p.c * q.c)) + (p.d * q.d)) * ((((p.a * q.a) + (p.b * q.b)) + (p.c * q.c)) + (p.d * q.d))) ((nq p.a p.b p.c p.d) * (nq q.a q.b q.c q.d))) (eK (qok_of bn5) (by decide)) (eK (qok_of bn4) (by decide)))) <| wT (kZ vP) <| wM <| wZ) ?_
 refine jI ⟨_, (kS (cs := (bx (kX (yP (((1 : Int) : Rat) - (Rat.divInt (((((p.a * q.a) + (p.b * q.b)) + (p.c * q.c)) + (p.d * q.d)) * ((((p.a * q.a) + (p.b * q.b)) + (p.c * q.c)) + (p.d * q.d))) ((nq p.a p.b p.c p.d) * (nq q.a q.b q.c q.d)))))))) (d := (kX (yP (((1 : Int) : Rat) - (Rat.divInt (((((p.a * q.a) + (p.b * q.b)) + (p.c * q.c)) + (p.d * q.d)) * ((((p.a * q.a) + (p.b * q.b)) + (p.c * q.c)) + (p.d * q.d))) ((nq p.a p.b p.c p.d) * (nq q.a q.b q.c q.d))))))) rfl rfl vP rfl rfl (.tmp (d := (.val (.int .i64 (((0 : Nat) : Int))))) rfl .nil)), ?_⟩
 rw [← chQ_di p q]; rfl
end Go.Proofs.YtihgdjljnaekmaaGreat
set_option linter.unusedVariables false
set_option linter.unusedSimpArgs false
namespace Go.Fid
def rngB (n : Int) (x : jC) : Bool := ((decide (x.fr < 0) || decide (n ≤ x.fr)) || decide (x.to_ < 0)) || decide (n ≤ x.to_)
theorem rngB_t {n : Int} {x : jC} (h : rngB n x = true) : edgC n x = 2 := by
  simp only [rngB, Bool.or_eq_true, decide_eq_true_eq] at h
  exact if_neg (by omega)
theorem rngB_f {n : Int} {x : jC} (h : rngB n x = false) : 0 ≤ x.fr ∧ x.fr < n ∧ 0 ≤ x.to_ ∧ x.to_ < n := by
  simp only [rngB, Bool.or_eq_false_iff, decide_eq_false_iff_not] at h
  omega
theorem edgC_d {n : Int} {x : jC} (h : rngB n x = false) (e : x.fr = x.to_) : edgC n x = 13 := by
  unfold edgC; rw [if_pos (rngB_f h), if_pos e]
theorem edgC_q {n : Int} {x : jC} (h : rngB n x = false) (e : x.fr ≠ x.to_) : edgC n x = yT x.turn.a x.turn.b x.turn.c x.turn.d := by
  unfold edgC; rw [if_pos (rngB_f h), if_neg e]
def limB (n : Int) (es : List jC) : Bool := (decide (n < 1) || decide (64 < n)) || decide (256 < ((es.length : Nat) : Int))
theorem limB_t {n : Int} {es : List jC} (h : limB n es = true) : qO n es = 3 := by
  simp only [limB, Bool.or_eq_true, decide_eq_true_eq] at h
  exact lopC_lim (by omega)
theorem limB_f {n : Int} {es : List jC} (h : limB n es = false) : qO n es = edsC n es ∧ 1 ≤ n ∧ n ≤ 64 ∧ es.length ≤ 256 := by
  simp only [limB, Bool.or_eq_false_iff, decide_eq_false_iff_not] at h
  exact ⟨lopC_eds (by omega) (by omega) (by omega), by omega, by omega, by omega⟩
def okUp (n : Int) (es : List jC) (k : Nat) : Prop := ∀ i, i < k → edgC n (es.getD i e0) = 0
theorem okUp_0 (n : Int) (es : List jC) : okUp n es 0 := fun i hi => by omega
theorem okUp_s {n : Int} {es : List jC} {k : Nat} (h : okUp n es k) (h1 : edgC n (es.getD k e0) = 0) : okUp n es (k + 1) := fun i hi => by
  by_cases e : i = k
  · subst e; exact h1
  · exact h i (by omega)
theorem lop_bad {n : Int} {es : List jC} {k c : Nat} (hl : limB n es = false) (hk : k < es.length) (hv : okUp n es k) (h : edgC n (es.getD k e0) = c) (hc : c ≠ 0) : qO n es = c := by
  rw [(limB_f hl).1, edsC_at hk hv (by rw [h]; exact hc), h]
theorem lop_end {n : Int} {es : List jC} {k : Nat} (hl : limB n es = false) (hk : k = es.length) (hv : okUp n es k) : qO n es = 0 := by
  subst hk; rw [(limB_f hl).1, edsC_end hv]
theorem nM {a : Nat} (h : ((a : Nat) : Int) ≠ 0) : a ≠ 0 := fun e => h (by rw [e]; rfl)
def Tok (es : List jC) : Prop := ∀ x ∈ es, cQ x.turn
theorem vS.tok {n : Nat} {es : List jC} (h : vS n es) : Tok es := fun x hx => (h x hx).q
theorem Tok.at {es : List jC} (h : Tok es) {k : Nat} (hk : k < es.length) : cQ (es.getD k e0).turn := by
  rw [List.getD_eq_getElem?_getD, List.getElem?_eq_getElem hk]
  exact h _ (List.getElem_mem hk)
def sIx (k : Int) : Nat := if 0 ≤ k then k.toNat else (-1 - k).toNat
def stE (es : List jC) (k : Int) : jC := es.getD (sIx k) e0
def stF (es : List jC) (k : Int) : Int := if 0 ≤ k then (stE es k).fr else (stE es k).to_
def stT (es : List jC) (k : Int) : Int := if 0 ≤ k then (stE es k).to_ else (stE es k).fr
def stQ (es : List jC) (k : Int) : jB := if 0 ≤ k then (stE es k).turn else qV (uD (stE es k).turn)
def inE (es : List jC) (k : Int) : Prop := -((es.length : Nat) : Int) ≤ k ∧ k < ((es.length : Nat) : Int)
instance {es : List jC} {k : Int} : Decidable (inE es k) := by unfold inE; infer_instance
theorem sIx_lt {es : List jC} {k : Int} (h : inE es k) : sIx k < es.length := by
  unfold sIx; unfold inE at h; split <;> omega
theorem stQ_ok {es : List jC} {k : Int} (h : Tok es) (hk : inE es k) : cQ (stQ es k) := by
  have hq := h.at (sIx_lt hk)
  unfold stQ; split
  · exact hq
  · exact gU (xK hq.1) (gL hq)
theorem st_p {es : List jC} {k : Int} (h : 0 ≤ k) : stF es k = (es.getD k.toNat e0).fr ∧ stT es k = (es.getD k.toNat e0).to_ ∧ stQ es k = (es.getD k.toNat e0).turn := by
  unfold stF stT stQ stE sIx; exact ⟨by simp only [if_pos h], by simp only [if_pos h], by simp only [if_pos h]⟩
theorem st_n {es : List jC} {k : Int} (h : ¬ 0 ≤ k) : stF es k = (es.getD (-1 - k).toNat e0).to_ ∧ stT es k = (es.getD (-1 - k).toNat e0).fr ∧ stQ es k = qV (uD (es.getD (-1 - k).toNat e0).turn) := by
  unfold stF stT stQ stE sIx; exact ⟨by simp only [if_neg h], by simp only [if_neg h], by simp only [if_neg h]⟩
def arV (es : List jC) (ws : List Int) : Nat → jB
  | 0 => q1
  | k + 1 => qV (kB (stQ es (ws.getD k 0)) (arV es ws k))
def arX (es : List jC) (ws : List Int) (k : Nat) : Nat := qC (kB (stQ es (ws.getD k 0)) (arV es ws k))
def arOk (es : List jC) (ws : List Int) : Prop := ∀ i, i < ws.length → arX es ws i = 0
instance {es : List jC} {ws : List Int} : Decidable (arOk es ws) := by unfold arOk; infer_instance
def aroV (es : List jC) (ws : List Int) : jB := if arOk es ws then arV es ws ws.length else ⟨0, 0, 0, 0⟩
def cY (es : List jC) (ws : List Int) : Nat := if arOk es ws then 0 else 3
def wIn (es : List jC) (ws : List Int) : Prop := ∀ k ∈ ws, inE es k
theorem wIn_at {es : List jC} {ws : List Int} (h : wIn es ws) {i : Nat} (hi : i < ws.length) : inE es (ws.getD i 0) := by
  rw [List.getD_eq_getElem?_getD, List.getElem?_eq_getElem hi]
  exact h _ (List.getElem_mem hi)
def arUp (es : List jC) (ws : List Int) (k : Nat) : Prop := ∀ i, i < k → arX es ws i = 0
theorem arUp_0 (es : List jC) (ws : List Int) : arUp es ws 0 := fun i hi => by omega
theorem arUp_s {es : List jC} {ws : List Int} {k : Nat} (h : arUp es ws k) (h1 : arX es ws k = 0) : arUp es ws (k + 1) := fun i hi => by
  by_cases e : i = k
  · subst e; exact h1
  · exact h i (by omega)
theorem arV_ok {es : List jC} {ws : List Int} (ht : Tok es) (hw : wIn es ws) : ∀ {k : Nat}, k ≤ ws.length → arUp es ws k → cQ (arV es ws k)
  | 0, _, _ => q1_ok
  | k + 1, hk, h => by
    have ih := arV_ok ht hw (k := k) (by omega) (fun i hi => h i (by omega))
    exact gU (xB (stQ_ok ht (wIn_at hw (by omega))).1 ih.1) (h k (by omega))
theorem aro_no {es : List jC} {ws : List Int} {k : Nat} (hk : k < ws.length) (h : arX es ws k ≠ 0) : aroV es ws = ⟨0, 0, 0, 0⟩ ∧ cY es ws = 3 ∧ arX es ws k = 3 := by
  have hn : ¬ arOk es ws := fun e => h (e k hk)
  exact ⟨if_neg hn, if_neg hn, (qC_01 _).resolve_left h⟩
theorem aro_yes {es : List jC} {ws : List Int} {k : Nat} (hk : k = ws.length) (h : arUp es ws k) : aroV es ws = arV es ws k ∧ cY es ws = 0 := by
  subst hk
  exact ⟨if_pos h, if_pos h⟩
def clP (es : List jC) (ws : List Int) : Prop := ∀ i, i < ws.length → stF es (ws.getD ((i + 1) % ws.length) 0) = stT es (ws.getD i 0)
instance {es : List jC} {ws : List Int} : Decidable (clP es ws) := by unfold clP; infer_instance
theorem wk_nx {i N : Nat} (h : i < N) : ((i + N - 1) % N + 1) % N = i := by
  by_cases h0 : i = 0
  · subst h0
    rw [Nat.zero_add, Nat.mod_eq_of_lt (a := N - 1) (by omega), show N - 1 + 1 = N by omega, Nat.mod_self]
  · rw [show i + N - 1 = (i - 1) + N by omega, Nat.add_mod_right, Nat.mod_eq_of_lt (a := i - 1) (by omega), show i - 1 + 1 = i by omega, Nat.mod_eq_of_lt h]
theorem wk_pv {i N : Nat} (h : i < N) : ((i + 1) % N + N - 1) % N = i := by
  by_cases h0 : i + 1 = N
  · rw [h0, Nat.mod_self, Nat.zero_add, Nat.mod_eq_of_lt (a := N - 1) (by omega)]; omega
  · rw [Nat.mod_eq_of_lt (a := i + 1) (by omega), show i + 1 + N - 1 = i + N by omega, Nat.add_mod_right, Nat.mod_eq_of_lt h]
theorem clP_back {es : List jC} {ws : List Int} : clP es ws ↔ ∀ i, i < ws.length → stF es (ws.getD i 0) = stT es (ws.getD ((i + ws.length - 1) % ws.length) 0) := by
  constructor
  · intro h i hi
    have h1 := h ((i + ws.length - 1) % ws.length) (Nat.mod_lt _ (by omega))
    rwa [wk_nx hi] at h1
  · intro h i hi
    have h1 := h ((i + 1) % ws.length) (Nat.mod_lt _ (by omega))
    rwa [wk_pv hi] at h1
instance {es : List jC} {ws : List Int} : Decidable (wIn es ws) := by unfold wIn; infer_instance
def ardC (es : List jC) (ws : List Int) : Nat := if 256 < ws.length then 9 else if ¬ wIn es ws then 2 else if ¬ clP es ws then 5 else cY es ws
def ardV (es : List jC) (ws : List Int) : jB := if 256 < ws.length ∨ ¬ wIn es ws ∨ ¬ clP es ws then ⟨0, 0, 0, 0⟩ else aroV es ws
def arnC (n : Int) (es : List jC) (ws : List Int) : Nat := if qO n es = 0 then ardC es ws else qO n es
def arnV (n : Int) (es : List jC) (ws : List Int) : jB := if qO n es = 0 then ardV es ws else ⟨0, 0, 0, 0⟩
theorem ard_9 {es : List jC} {ws : List Int} (h : 256 < ws.length) : ardC es ws = 9 ∧ ardV es ws = ⟨0, 0, 0, 0⟩ := ⟨if_pos h, if_pos (.inl h)⟩
theorem ard_2 {es : List jC} {ws : List Int} (h : ¬ 256 < ws.length) (h2 : ¬ wIn es ws) : ardC es ws = 2 ∧ ardV es ws = ⟨0, 0, 0, 0⟩ := ⟨by unfold ardC; rw [if_neg h, if_pos h2], if_pos (.inr (.inl h2))⟩
theorem ard_5 {es : List jC} {ws : List Int} (h : ¬ 256 < ws.length) (h2 : wIn es ws) (h3 : ¬ clP es ws) : ardC es ws = 5 ∧ ardV es ws = ⟨0, 0, 0, 0⟩ := ⟨by unfold ardC; rw [if_neg h, if_neg (fun e => e h2), if_pos h3], if_pos (.inr (.inr h3))⟩
theorem ard_y {es : List jC} {ws : List Int} (h : ¬ 256 < ws.length) (h2 : wIn es ws) (h3 : clP es ws) : ardC es ws = cY es ws ∧ ardV es ws = aroV es ws := ⟨by unfold ardC; rw [if_neg h, if_neg (fun e => e h2), if_neg (fun e => e h3)], if_neg (fun e => by rcases e with e | e | e; exact h e; exact e h2; exact e h3)⟩
theorem arn_0 {n : Int} {es : List jC} {ws : List Int} (h : qO n es = 0) : arnC n es ws = ardC es ws ∧ arnV n es ws = ardV es ws := ⟨if_pos h, if_pos h⟩
theorem arn_n {n : Int} {es : List jC} {ws : List Int} (h : qO n es ≠ 0) : arnC n es ws = qO n es ∧ arnV n es ws = ⟨0, 0, 0, 0⟩ := ⟨if_neg h, if_neg h⟩
def inUp (es : List jC) (ws : List Int) (k : Nat) : Prop := ∀ i, i < k → inE es (ws.getD i 0)
theorem inUp_s {es : List jC} {ws : List Int} {k : Nat} (h : inUp es ws k) (h1 : inE es (ws.getD k 0)) : inUp es ws (k + 1) := fun i hi => by
  by_cases e : i = k
  · subst e; exact h1
  · exact h i (by omega)
theorem inUp_end {es : List jC} {ws : List Int} {k : Nat} (hk : k = ws.length) (h : inUp es ws k) : wIn es ws := by
  subst hk
  intro z hz
  obtain ⟨i, hi, rfl⟩ := List.getElem_of_mem hz
  have := h i hi
  rwa [List.getD_eq_getElem?_getD, List.getElem?_eq_getElem hi] at this
theorem inUp_no {es : List jC} {ws : List Int} {k : Nat} (hk : k < ws.length) (h : ¬ inE es (ws.getD k 0)) : ¬ wIn es ws := fun e => h (wIn_at e hk)
def exB (es : List jC) (k : Int) : Bool := decide (((es.length : Nat) : Int) ≤ k) || decide (k < -((es.length : Nat) : Int))
theorem exB_t {es : List jC} {k : Int} (h : exB es k = true) : ¬ inE es k := by
  simp only [exB, Bool.or_eq_true, decide_eq_true_eq] at h
  unfold inE; omega
theorem exB_f {es : List jC} {k : Int} (h : exB es k = false) : inE es k := by
  simp only [exB, Bool.or_eq_false_iff, decide_eq_false_iff_not] at h
  unfold inE; omega
def cbUp (es : List jC) (ws : List Int) (k : Nat) : Prop := ∀ i, i < k → stF es (ws.getD i 0) = stT es (ws.getD ((i + ws.length - 1) % ws.length) 0)
theorem up_s {P : Nat → Prop} {k : Nat} (h : ∀ i, i < k → P i) (h1 : P k) : ∀ i, i < k + 1 → P i := fun i hi => by
  by_cases e : i = k
  · subst e; exact h1
  · exact h i (by omega)
theorem cb_no {es : List jC} {ws : List Int} {k : Nat} (hk : k < ws.length) (h : stF es (ws.getD k 0) ≠ stT es (ws.getD ((k + ws.length - 1) % ws.length) 0)) : ¬ clP es ws := fun e => h (clP_back.1 e k hk)
end Go.Fid
namespace Go.Fid
def ini (i : Nat) : List Int := (List.range i).map fun k => ((k : Nat) : Int)
theorem ini_len (i : Nat) : (ini i).length = i := by simp [ini]
theorem ini_s (i : Nat) : ini i ++ [((i : Nat) : Int)] = ini (i + 1) := by simp [ini, List.range_succ]
def RlUp (a b : Int) (p : List Int) (seen : List Nat) (q : List Int) : Prop := q.length = p.length ∧ ∀ j, j < p.length → q.getD j 0 = if j ∈ seen then rl a b (p.getD j 0) else p.getD j 0
theorem RlUp_0 (a b : Int) (p : List Int) : RlUp a b p [] p := ⟨rfl, fun j hj => by simp⟩
theorem RlUp_y {a b : Int} {p q : List Int} {seen : List Nat} {k : Nat} (h : RlUp a b p seen q) (hk : k < p.length) (hn : k ∉ seen) (he : q.getD k 0 = b) : RlUp a b p (seen ++ [k]) (q.set k a) := by
  refine ⟨by rw [List.length_set]; exact h.1, fun j hj => ?_⟩
  have h1 := h.2 j hj
  by_cases e : k = j
  · subst e
    rw [List.getD_eq_getElem?_getD, List.getElem?_set_self (by rw [h.1]; exact hk)]
    rw [h1, if_neg hn] at he
    simp only [List.mem_append, List.mem_singleton, or_true, if_true, Option.getD_some]
    unfold rl; rw [if_pos he]
  · rw [List.getD_eq_getElem?_getD, List.getElem?_set_ne e, ← List.getD_eq_getElem?_getD, h1]
    simp only [List.mem_append, List.mem_singleton, show ¬ j = k from fun x => e x.symm, or_false]
theorem RlUp_n {a b : Int} {p q : List Int} {seen : List Nat} {k : Nat} (h : RlUp a b p seen q) (hk : k < p.length) (hn : k ∉ seen) (he : ¬ q.getD k 0 = b) : RlUp a b p (seen ++ [k]) q := by
  refine ⟨h.1, fun j hj => ?_⟩
  have h1 := h.2 j hj
  by_cases e : k = j
  · subst e
    rw [h1, if_neg hn] at he
    rw [h1, if_neg hn]
    simp only [List.mem_append, List.mem_singleton, or_true, if_true]
    unfold rl; rw [if_neg he]
  · rw [h1]
    simp only [List.mem_append, List.mem_singleton, show ¬ j = k from fun x => e x.symm, or_false]
theorem RlUp_end {a b : Int} {p q : List Int} {seen : List Nat} (h : RlUp a b p seen q) (hs : ∀ k, k < q.length → k ∈ seen) : q = mrg false a b p := by
  apply List.ext_getElem?
  intro j
  by_cases hj : j < p.length
  · have h1 := h.2 j hj
    rw [if_pos (hs j (by rw [h.1]; exact hj))] at h1
    have e2 := yL (g := false) (a := a) (b := b) hj
    rw [List.getD_eq_getElem?_getD, List.getElem?_eq_getElem (by rw [h.1]; exact hj)] at h1
    rw [List.getD_eq_getElem?_getD, List.getElem?_eq_getElem (by rw [mrg_len]; exact hj)] at e2
    rw [List.getElem?_eq_getElem (by rw [h.1]; exact hj), List.getElem?_eq_getElem (by rw [mrg_len]; exact hj)]
    simp only [Option.getD_some] at h1 e2
    rw [h1, e2]; rfl
  · rw [List.getElem?_eq_none (by rw [h.1]; omega), List.getElem?_eq_none (by rw [mrg_len]; omega)]
def unseen (n : Nat) (seen : List Nat) : Nat := (List.range n).countP fun j => !(seen.contains j)
theorem unseen_lt {n k : Nat} {seen : List Nat} (hk : k < n) (hn : k ∉ seen) : unseen n (seen ++ [k]) < unseen n seen := by
  unfold unseen
  refine countP_lt (i := k) (fun x _ hx => ?_) (by simpa using hk) (by simpa using hn) (by simp)
  simp only [Bool.not_eq_true', List.contains_eq_mem, decide_eq_false_iff_not, List.mem_append, not_or] at hx ⊢
  exact hx.1
theorem pA_in {n : Nat} {es : List jC} {k : Nat} (h : vS n es) (hk : k < es.length) (g : Bool) : 0 ≤ (es.getD k e0).fr ∧ (es.getD k e0).fr.toNat < (kN g n es k).length ∧ 0 ≤ (es.getD k e0).to_ ∧ (es.getD k e0).to_.toNat < (kN g n es k).length := by
  have h1 := mY h hk
  have h2 := h1.f0; have h3 := h1.f1; have h4 := h1.t0; have h5 := h1.t1
  rw [yE]; omega
end Go.Fid
