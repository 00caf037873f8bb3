/- Part 17 of a proof: rules, plain facts, and functions walked. -/
import Derived.Test.YtbecgnplakngdaaGreatM16
namespace Go.Proofs.YtbecgnplakngdaaGreat
open Go.Fid
set_option maxRecDepth 4000
set_option linter.unusedVariables false
set_option linter.unusedSimpArgs false
theorem cb84 : callB Tryz.prog 84 = true := by kernel_rfl
theorem cb103 : callB Tryz.prog 103 = true := by kernel_rfl
theorem cb134 : callB Tryz.prog 134 = true := by kernel_rfl
theorem cb135 : callB Tryz.prog 135 = true := by kernel_rfl
theorem cb147 : callB Tryz.prog 147 = true := by kernel_rfl
theorem cb148 : callB Tryz.prog 148 = true := by kernel_rfl
theorem cb149 : callB Tryz.prog 149 = true := by kernel_rfl
theorem cb189 : callB Tryz.prog 189 = true := by kernel_rfl
theorem r_neg (x : jF) (hx : x.gs.length ≤ 1099511627776) : kE Tryz.prog 134 [(kB x)] (kB (qD (-kT x))) := by
 have hvx := dD x
 refine jN Tryz.func134 rfl cb134 rfl ?_
 show uT _ _ _ _ ⟨[(0, (.d (kB x)))], []⟩
 refine jA <| kx [(1, (.ref 0 0)), (2, (.ref 1 0))] [(0, some (bx (kB x))), (1, some (bx (kB (jF.mk false []))))] (zN (uX 0) <| zN (qS 1 gR gQ) <| zZ) ?_
 refine jA <| kx [] [(0, some (bx (kB (qD (kT x)))))] (zR (kC kW) <| zE (kA (dE x (by omega))) <| zT (qB kW) <| zZ) ?_
 refine jA <| kx [] [(1, some (bx (kB (zG (!((qD (kT x)).neg)) (val (ofNat (Int.natAbs (kT x))))))))] (zE (qE xR) <| zR (vD sh4) <| zE dV <| zE (qE xU) <| zR (vD yM) <| zE (kA (hZ (!((qD (kT x)).neg)) (ofNat (Int.natAbs (kT x))) (by first | assumption | exact qC _ | exact (uD _).1 | exact (uG _).1) (by omega))) <| zT (qB kW) <| zZ) ?_
 refine jJ ⟨_, (qI (cs := (bx (kB (zG (!((qD (kT x)).neg)) (val (ofNat (Int.natAbs (kT x)))))))) (d := (kB (zG (!((qD (kT x)).neg)) (val (ofNat (Int.natAbs (kT x))))))) rfl rfl kW rfl rfl .nil), ?_⟩
 rw [← rneg_eq]; rfl
theorem r_sign (x : jF) (hx : x.gs.length ≤ 1099511627776) : kE Tryz.prog 84 [(kB x)] (.val (.int .i64 ((vA (kT x))))) := by
 have hvx := dD x
 refine jN Tryz.func84 rfl cb84 rfl ?_
 show uT _ _ _ _ ⟨[(0, (.d (kB x)))], []⟩
 refine jA <| kx [(1, (.ref 0 0))] [(0, some (bx (kB x)))] (zN (uX 0) <| zM <| zZ) ?_
 refine jA <| kx [] [(0, some (bx (kB (qD (kT x)))))] (zR (kC kW) <| zE (kA (dE x (by omega))) <| zT (qB kW) <| zZ) ?_
 refine jA <| jA <| kx [(8, (vb ((((ofNat (Int.natAbs (kT x))).length : Nat) : Int) == 0)))] [] (zE (qE xU) <| zR (vD yM) <| zE (nZ qG (L := (ofNat (Int.natAbs (kT x))))) <| zE fA <| zZ) ?_
 refine jY rfl (fun h1 => ?_) (fun h1 => ?_)
 ·replace h1 := eq_of_beq h1
  refine jA <| kx [(2, (kX 0))] [] (zM <| zZ) ?_
  refine jJ ⟨_, (.tmp (d := (.val (.int .i64 (0)))) rfl .nil), ?_⟩
  rw [rsign_zero h1]; rfl
 ·replace h1 := ne_of_beq_false h1
  refine jE <| jA <| jA <| kx [(10, (vb ((qD (kT x)).neg)))] [] (zE (qE xR) <| zR (vD sh4) <| zZ) ?_
  refine jY (b := (qD (kT x)).neg) rfl (fun h2 => ?_) (fun h2 => ?_)
  ·refine jA <| kx [(2, (vi (-1)))] [] (zM <| zZ) ?_
   refine jJ ⟨_, (.tmp (d := (.val (.int .i64 (-1)))) rfl .nil), ?_⟩
   rw [rsign_neg h1 h2]; rfl
  ·refine jE <| jA <| kx [(2, (kX 1))] [] (zM <| zZ) ?_
   refine jJ ⟨_, (.tmp (d := (.val (.int .i64 (1)))) rfl .nil), ?_⟩
   rw [rsign_pos h1 h2]; rfl
theorem r_add (x : jF) (y : jF) (hx : x.gs.length ≤ 1099511627776) (hy : y.gs.length ≤ 1099511627776) : kE Tryz.prog 135 [(kB x), (kB y)] (kB (qD (kT x + kT y))) := by
 have hvx := dD x
 have hvy := dD y
 refine jN Tryz.func135 rfl cb135 rfl ?_
 show uT _ _ _ _ ⟨[(0, (.d (kB x))), (1, (.d (kB y)))], []⟩
 refine jA <| kx [(2, (.ref 0 0)), (3, (.ref 1 0)), (4, (.ref 2 0))] [(0, some (bx (kB x))), (1, some (bx (kB y))), (2, some (bx (kB (jF.mk false []))))] (zN (uX 0) <| zN (uX 1) <| zN (qS 2 gR gQ) <| zZ) ?_
 refine jA <| kd [] [(0, some (bx (kB (qD (kT x))))), (1, some (bx (kB (qD (kT y)))))] mo (wR (kC kW) <| wE (kA (dE x (by omega))) <| wR (kC kW) <| wE (kA (dE y (by omega))) <| wT (qB kW) <| wT (qB kW) <| wZ) ?_
 refine jA <| jA <| kx [(13, (vb (((qD (kT x)).neg) == ((qD (kT y)).neg))))] [] (zE (qE xR) <| zR (vD sh4) <| zE (qE xR) <| zR (vD sh4) <| zE (oEb bo4) <| zZ) ?_
 refine jY rfl (fun h1 => ?_) (fun h1 => ?_)
 ·replace h1 := eq_of_beq h1
  refine jA <| kd [] [(2, some (bx (kB (zG ((qD (kT x)).neg) (val (ofNat (val (ofNat (Int.natAbs (kT x))) + val (ofNat (Int.natAbs (kT y))))))))))] mo (wE (qE xR) <| wR (vD sh4) <| wE (qE xU) <| wR (vD yM) <| wE (qE xU) <| wR (vD yM) <| wE (kA (r_plus (ofNat (Int.natAbs (kT x))) (ofNat (Int.natAbs (kT y))) (by first | assumption | exact qC _ | exact (uD _).1 | exact (uG _).1) (by first | assumption | exact qC _ | exact (uD _).1 | exact (uG _).1) (by omega) (by omega))) <| wE (kA (hZ ((qD (kT x)).neg) (ofNat (val (ofNat (Int.natAbs (kT x))) + val (ofNat (Int.natAbs (kT y))))) (by first | assumption | exact qC _ | exact (uD _).1 | exact (uG _).1) (by first | omega | exact Nat.le_trans (add_len (qC _) (qC _)) (by omega) | exact Nat.le_trans (sub_len (qC _)) (by omega)))) <| wT (qB kW) <| wZ) ?_
  refine jJ ⟨_, (qI (cs := (bx (kB (zG ((qD (kT x)).neg) (val (ofNat (val (ofNat (Int.natAbs (kT x))) + val (ofNat (Int.natAbs (kT y)))))))))) (d := (kB (zG ((qD (kT x)).neg) (val (ofNat (val (ofNat (Int.natAbs (kT x))) + val (ofNat (Int.natAbs (kT y))))))))) rfl rfl kW rfl rfl .nil), ?_⟩
  rw [← rsum_same h1]; rfl
 ·replace h1 := ne_of_beq_false h1
  refine jE <| jA <| jA <| kx [(27, (vb (decide (0 ≤ (xC ((val (ofNat (Int.natAbs (kT x))) : Nat) : Int) ((val (ofNat (Int.natAbs (kT y))) : Nat) : Int))))))] [] (zE (qE xU) <| zR (vD yM) <| zE (qE xU) <| zR (vD yM) <| zE (kA (r_size (ofNat (Int.natAbs (kT x))) (ofNat (Int.natAbs (kT y))) (by first | assumption | exact uD _ | exact uG _) (by first | assumption | exact uD _ | exact uG _) (by omega) (by omega))) <| zE oGe <| zZ) ?_
  refine jY rfl (fun h2 => ?_) (fun h2 => ?_)
  ·replace h2 := of_decide_eq_true h2
   refine jA <| kd [] [(2, some (bx (kB (zG ((qD (kT x)).neg) (val (ofNat (val (ofNat (Int.natAbs (kT x))) - val (ofNat (Int.natAbs (kT y))))))))))] mo (wE (qE xR) <| wR (vD sh4) <| wE (qE xU) <| wR (vD yM) <| wE (qE xU) <| wR (vD yM) <| wE (kA (r_minus (ofNat (Int.natAbs (kT x))) (ofNat (Int.natAbs (kT y))) (by first | assumption | exact qC _ | exact (uD _).1 | exact (uG _).1) (by first | assumption | exact qC _ | exact (uD _).1 | exact (uG _).1) (by have := bH h2; omega) (by omega))) <| wE (kA (hZ ((qD (kT x)).neg) (ofNat (val (ofNat (Int.natAbs (kT x))) - val (ofNat (Int.natAbs (kT y))))) (by first | assumption | exact qC _ | exact (uD _).1 | exact (uG _).1) (by first | omega | exact Nat.le_trans (add_len (qC _) (qC _)) (by omega) | exact Nat.le_trans (sub_len (qC _)) (by omega)))) <| wT (qB kW) <| wZ) ?_
   refine jJ ⟨_, (qI (cs := (bx (kB (zG ((qD (kT x)).neg) (val (ofNat (val (ofNat (Int.natAbs (kT x))) - val (ofNat (Int.natAbs (kT y)))))))))) (d := (kB (zG ((qD (kT x)).neg) (val (ofNat (val (ofNat (Int.natAbs (kT x))) - val (ofNat (Int.natAbs (kT y))))))))) rfl rfl kW rfl rfl .nil), ?_⟩
   rw [← rsum_first h1 (by have := bH h2; omega)]; rfl
  ·replace h2 := of_decide_eq_false h2
   refine jE <| jA <| kd [] [(2, some (bx (kB (zG ((qD (kT y)).neg) (val (ofNat (val (ofNat (Int.natAbs (kT y))) - val (ofNat (Int.natAbs (kT x))))))))))] mo (wE (qE xR) <| wR (vD sh4) <| wE (qE xU) <| wR (vD yM) <| wE (qE xU) <| wR (vD yM) <| wE (kA (r_minus (ofNat (Int.natAbs (kT y))) (ofNat (Int.natAbs (kT x))) (by first | assumption | exact qC _ | exact (uD _).1 | exact (uG _).1) (by first | assumption | exact qC _ | exact (uD _).1 | exact (uG _).1) (by have := cmpI_lt h2; omega) (by omega))) <| wE (kA (hZ ((qD (kT y)).neg) (ofNat (val (ofNat (Int.natAbs (kT y))) - val (ofNat (Int.natAbs (kT x))))) (by first | assumption | exact qC _ | exact (uD _).1 | exact (uG _).1) (by first | omega | exact Nat.le_trans (add_len (qC _) (qC _)) (by omega) | exact Nat.le_trans (sub_len (qC _)) (by omega)))) <| wT (qB kW) <| wZ) ?_
   refine jJ ⟨_, (qI (cs := (bx (kB (zG ((qD (kT y)).neg) (val (ofNat (val (ofNat (Int.natAbs (kT y))) - val (ofNat (Int.natAbs (kT x)))))))))) (d := (kB (zG ((qD (kT y)).neg) (val (ofNat (val (ofNat (Int.natAbs (kT y))) - val (ofNat (Int.natAbs (kT x))))))))) rfl rfl kW rfl rfl .nil), ?_⟩
   rw [← rsum_second h1 (by have := cmpI_lt h2; omega)]; rfl
theorem r_sub (x : jF) (y : jF) (hx : x.gs.length ≤ 1099511627776) (hy : y.gs.length ≤ 1099511627776) : kE Tryz.prog 147 [(kB x), (kB y)] (kB (qD (kT x - kT y))) := by
 have hv := gs_neg y
 refine jN Tryz.func147 rfl cb147 rfl ?_
 show uT _ _ _ _ ⟨[(0, (.d (kB x))), (1, (.d (kB y)))], []⟩
 refine jA <| kx [(2, (.ref 0 0)), (3, (.ref 1 0)), (4, (.ref 2 0))] [(0, some (bx (kB x))), (1, some (bx (kB y))), (2, some (bx (kB (jF.mk false []))))] (zN (uX 0) <| zN (uX 1) <| zN (qS 2 gR gQ) <| zZ) ?_
 refine jA <| kd [] [(2, some (bx (kB (qD (kT x + kT (qD (-kT y)))))))] mo (wR (kC kW) <| wR (kC kW) <| wE (kA (r_neg y (by omega))) <| wE (kA (r_add x (qD (-kT y)) (by omega) (by omega))) <| wT (qB kW) <| wZ) ?_
 refine jJ ⟨_, (qI (cs := (bx (kB (qD (kT x + kT (qD (-kT y))))))) (d := (kB (qD (kT x + kT (qD (-kT y)))))) rfl rfl kW rfl rfl .nil), ?_⟩
 rw [mT, ← Int.sub_eq_add_neg]; rfl
theorem r_mul (x : jF) (y : jF) (hx : x.gs.length ≤ 1099511627776) (hy : y.gs.length ≤ 1099511627776) : kE Tryz.prog 103 [(kB x), (kB y)] (kB (qD (kT x * kT y))) := by
 have hvx := dD x
 have hvy := dD y
 have hda := qC (Int.natAbs (kT x))
 have hdb := qC (Int.natAbs (kT y))
 refine jN Tryz.func103 rfl cb103 rfl ?_
 show uT _ _ _ _ ⟨[(0, (.d (kB x))), (1, (.d (kB y)))], []⟩
 refine jA <| kx [(2, (.ref 0 0)), (3, (.ref 1 0)), (4, (.ref 2 0))] [(0, some (bx (kB x))), (1, some (bx (kB y))), (2, some (bx (kB (jF.mk false []))))] (zN (uX 0) <| zN (uX 1) <| zN (qS 2 gR gQ) <| zZ) ?_
 refine jA <| kd [] [(0, some (bx (kB (qD (kT x))))), (1, some (bx (kB (qD (kT y)))))] mo (wR (kC kW) <| wE (kA (dE x (by omega))) <| wR (kC kW) <| wE (kA (dE y (by omega))) <| wT (qB kW) <| wT (qB kW) <| wZ) ?_
 refine jA <| kx [(5, (.own 3 152 1 ((ofNat (Int.natAbs (kT x))).length + (ofNat (Int.natAbs (kT y))).length)))] [(3, some (bm jC (List.replicate ((ofNat (Int.natAbs (kT x))).length + (ofNat (Int.natAbs (kT y))).length) 0)))] (zE (qE xU) <| zR (vD yM) <| zE (nZ qG (L := (ofNat (Int.natAbs (kT x))))) <| zE (qE xU) <| zR (vD yM) <| zE (nZ qG (L := (ofNat (Int.natAbs (kT y))))) <| zE (uZ ((ofNat (Int.natAbs (kT x))).length + (ofNat (Int.natAbs (kT y))).length)) <| zN (oMk 3 jC (0 : Nat) ((ofNat (Int.natAbs (kT x))).length + (ofNat (Int.natAbs (kT y))).length) ((ofNat (Int.natAbs (kT x))).length + (ofNat (Int.natAbs (kT y))).length) qG xO yU nI) <| zM <| zZ) ?_
 refine jA <| jA <| kx [(6, (kX 0))] [] (zM <| zZ) ?_
 refine jG <| vE (α := Nat × List Nat) (fun (i, out) => ⟨[(2, (.ref 0 0)), (3, (.ref 1 0)), (4, (.ref 2 0)), (5, (.own 3 152 1 ((ofNat (Int.natAbs (kT x))).length + (ofNat (Int.natAbs (kT y))).length))), (6, (kX i))], [(0, some (bx (kB (qD (kT x))))), (1, some (bx (kB (qD (kT y))))), (2, some (bx (kB (jF.mk false [])))), (3, some (bm jC out))]⟩) (fun (i, out) => out.length = (ofNat (Int.natAbs (kT x))).length + (ofNat (Int.natAbs (kT y))).length ∧ Dig out ∧ i ≤ (ofNat (Int.natAbs (kT x))).length ∧ (∀ k, i + (ofNat (Int.natAbs (kT y))).length ≤ k → out.getD k 0 = 0) ∧ val out = val ((ofNat (Int.natAbs (kT x))).take i) * val (ofNat (Int.natAbs (kT y)))) (fun (i, out) => (ofNat (Int.natAbs (kT x))).length - i) (0, List.replicate ((ofNat (Int.natAbs (kT x))).length + (ofNat (Int.natAbs (kT y))).length) 0) wk ⟨by simp, yD _, Nat.zero_le _, fun k _ => eY _ k, by simp [val, dI]⟩ ?_
 rintro ⟨i, out⟩ ⟨vL, hdo, hi, hz, hv⟩
 have hai := hda.getD i
 refine jA <| jA <| kx [(26, (vb (decide (((i : Nat) : Int) < (((ofNat (Int.natAbs (kT x))).length : Nat) : Int)))))] [] (zM <| zE (qE xU) <| zR (vD yM) <| zE (nZ qG (L := (ofNat (Int.natAbs (kT x))))) <| zE uW <| zZ) ?_
 refine jY rfl (fun h1 => ?_) (fun h1 => ?_)
 ·replace h1 := of_decide_eq_true h1
  refine jE <| jA <| jG <| jA <| kx [(7, (gB 0))] [] (zM <| zZ) ?_
  refine jA <| jA <| kx [(8, (kX 0))] [] (zM <| zZ) ?_
  refine jG <| vE (α := Nat × List Nat × Nat) (fun (j, o2, c) => ⟨[(2, (.ref 0 0)), (3, (.ref 1 0)), (4, (.ref 2 0)), (5, (.own 3 152 1 ((ofNat (Int.natAbs (kT x))).length + (ofNat (Int.natAbs (kT y))).length))), (6, (kX i)), (7, (gB c)), (8, (kX j))], [(0, some (bx (kB (qD (kT x))))), (1, some (bx (kB (qD (kT y))))), (2, some (bx (kB (jF.mk false [])))), (3, some (bm jC o2))]⟩) (fun (j, o2, c) => o2.length = (ofNat (Int.natAbs (kT x))).length + (ofNat (Int.natAbs (kT y))).length ∧ Dig o2 ∧ j ≤ (ofNat (Int.natAbs (kT y))).length ∧ c < 1000000000 ∧ (∀ k, i + (ofNat (Int.natAbs (kT y))).length ≤ k → o2.getD k 0 = 0) ∧ val o2 + pw (i + j) * c = val ((ofNat (Int.natAbs (kT x))).take i) * val (ofNat (Int.natAbs (kT y))) + pw i * ((ofNat (Int.natAbs (kT x))).getD i 0 * val ((ofNat (Int.natAbs (kT y))).take j))) (fun (j, o2, c) => (ofNat (Int.natAbs (kT y))).length - j) (0, out, 0) wk ⟨vL, hdo, Nat.zero_le _, by decide, hz, by simp [val, hv]⟩ ?_
  rintro ⟨j, o2, c⟩ ⟨hlen2, hdo2, hj, hc, hz2, hv2⟩
  have hbj := hdb.getD j
  have hoj := hdo2.getD (i + j)
  have hpq : (ofNat (Int.natAbs (kT x))).getD i 0 * (ofNat (Int.natAbs (kT y))).getD j 0 ≤ 999999999 * 999999999 := Nat.mul_le_mul (by omega) (by omega)
  refine jA <| jA <| kx [(33, (vb (decide (((j : Nat) : Int) < (((ofNat (Int.natAbs (kT y))).length : Nat) : Int)))))] [] (zM <| zE (qE xU) <| zR (vD yM) <| zE (nZ qG (L := (ofNat (Int.natAbs (kT y))))) <| zE uW <| zZ) ?_
  refine jY rfl (fun h2 => ?_) (fun h2 => ?_)
  ·replace h2 := of_decide_eq_true h2
   refine jE <| jA <| jG <| jA <| kd [(9, (gB (((o2.getD (i + j) 0) + (((ofNat (Int.natAbs (kT x))).getD i 0) * ((ofNat (Int.natAbs (kT y))).getD j 0))) + c)))] [] mo (wM <| wM <| wM <| wE (uZ (i + j)) <| wE (oXo qG (i + j)) <| wR (oLp uU (i + j) (0 : Nat)) <| wE (mE yT yR (o2.getD (i + j) 0)) <| wE (qE xU) <| wR (vD yM) <| wM <| wE (oXl qG i (0 : Nat) (L := (ofNat (Int.natAbs (kT x))))) <| wE (gA uU) <| wE (mE yT yR ((ofNat (Int.natAbs (kT x))).getD i 0)) <| wE (qE xU) <| wR (vD yM) <| wM <| wE (oXl qG j (0 : Nat) (L := (ofNat (Int.natAbs (kT y))))) <| wE (gA uU) <| wE (mE yT yR ((ofNat (Int.natAbs (kT y))).getD j 0)) <| wE (oMl (((ofNat (Int.natAbs (kT x))).getD i 0) * ((ofNat (Int.natAbs (kT y))).getD j 0))) <| wE (uZ ((o2.getD (i + j) 0) + (((ofNat (Int.natAbs (kT x))).getD i 0) * ((ofNat (Int.natAbs (kT y))).getD j 0)))) <| wM <| wE (uZ (((o2.getD (i + j) 0) + (((ofNat (Int.natAbs (kT x))).getD i 0) * ((ofNat (Int.natAbs (kT y))).getD j 0))) + c)) <| wM <| wZ) ?_
   refine jA <| kx [] [(3, some (bm jC (o2.set (i + j) ((((o2.getD (i + j) 0) + (((ofNat (Int.natAbs (kT x))).getD i 0) * ((ofNat (Int.natAbs (kT y))).getD j 0))) + c) % 1000000000))))] (zM <| zM <| zM <| zE (uZ (i + j)) <| zM <| zE (oRe ((((o2.getD (i + j) 0) + (((ofNat (Int.natAbs (kT x))).getD i 0) * ((ofNat (Int.natAbs (kT y))).getD j 0))) + c) % 1000000000)) <| zE (mE gW gK ((((o2.getD (i + j) 0) + (((ofNat (Int.natAbs (kT x))).getD i 0) * ((ofNat (Int.natAbs (kT y))).getD j 0))) + c) % 1000000000)) <| zE (oXo qG (i + j)) <| zT (oSp uU (i + j) ((((o2.getD (i + j) 0) + (((ofNat (Int.natAbs (kT x))).getD i 0) * ((ofNat (Int.natAbs (kT y))).getD j 0))) + c) % 1000000000)) <| zZ) ?_
   refine kx [(7, (gB ((((o2.getD (i + j) 0) + (((ofNat (Int.natAbs (kT x))).getD i 0) * ((ofNat (Int.natAbs (kT y))).getD j 0))) + c) / 1000000000)))] [] (zM <| zE (oQu ((((o2.getD (i + j) 0) + (((ofNat (Int.natAbs (kT x))).getD i 0) * ((ofNat (Int.natAbs (kT y))).getD j 0))) + c) / 1000000000)) <| zM <| zZ) ?_
   refine kx [(8, (kX (j + 1)))] [] (zM <| zE (uZ (j + 1)) <| zM <| zZ) ?_
   exact ⟨(j + 1, o2.set (i + j) ((o2.getD (i + j) 0 + (ofNat (Int.natAbs (kT x))).getD i 0 * (ofNat (Int.natAbs (kT y))).getD j 0 + c) % 1000000000), (o2.getD (i + j) 0 + (ofNat (Int.natAbs (kT x))).getD i 0 * (ofNat (Int.natAbs (kT y))).getD j 0 + c) / 1000000000), wk, (by obtain ⟨q1, q2⟩ := times_step (by omega) hdo2 hv2 rfl (val_take_succ _ j); exact ⟨by simpa using hlen2, q1, by omega, by omega, zero_set (by omega) hz2, q2⟩), (by first | omega | (dsimp only; omega))⟩
  ·replace h2 := of_decide_eq_false h2
   have hje : j = (ofNat (Int.natAbs (kT y))).length := by omega
   rw [hje] at hv2
   refine qF <| kx [] [(3, some (bm jC (o2.set (i + (ofNat (Int.natAbs (kT y))).length) c)))] (zM <| zM <| zE (qE xU) <| zR (vD yM) <| zE (nZ qG (L := (ofNat (Int.natAbs (kT y))))) <| zE (uZ (i + (ofNat (Int.natAbs (kT y))).length)) <| zM <| zE (mE gW gK c) <| zE (oXo qG (i + (ofNat (Int.natAbs (kT y))).length)) <| zT (oSp uU (i + (ofNat (Int.natAbs (kT y))).length) c) <| zZ) ?_
   refine kx [(6, (kX (i + 1)))] [] (zM <| zE (uZ (i + 1)) <| zM <| zZ) ?_
   exact ⟨(i + 1, o2.set (i + (ofNat (Int.natAbs (kT y))).length) c), wk, (by obtain ⟨q1, q2, q3, q4⟩ := times_row hdo2 (by omega) hlen2 hz2 hc hv2; exact ⟨q1, q2, by omega, q3, q4⟩), (by first | omega | (dsimp only; omega))⟩
 ·replace h1 := of_decide_eq_false h1
  have hie : i = (ofNat (Int.natAbs (kT x))).length := by omega
  rw [hie, List.take_length] at hv
  refine qF <| jA <| qM (zS (t := 5) (k := 3) (es := List.map jC out) rfl rfl (xT _ _ (fun _ => rfl)) (zB _ _ vL) (yA _ _ (fun _ => rfl) vL)) ?_
  refine kx [] [(2, some (bx (kB (zG (!(((qD (kT x)).neg) == ((qD (kT y)).neg))) (val out)))))] (zE (qE xR) <| zR (vD sh4) <| zE (qE xR) <| zR (vD sh4) <| zE (oNb bo4) <| zM <| zE (kA (hZ (!(((qD (kT x)).neg) == ((qD (kT y)).neg))) out hdo (by omega))) <| zT (qB kW) <| zZ) ?_
  refine jJ ⟨_, (qI (cs := (bx (kB (zG (!(((qD (kT x)).neg) == ((qD (kT y)).neg))) (val out))))) (d := (kB (zG (!(((qD (kT x)).neg) == ((qD (kT y)).neg))) (val out)))) rfl rfl kW rfl rfl .nil), ?_⟩
  rw [hv, rmul_eq]; rfl
theorem r_short (a : List Nat) (d : Nat) (hda : Dig a) (hd0 : 0 < d) (hd1 : d ≤ 1000000000) (hla : a.length ≤ 17592186044416) : kE Tryz.prog 189 [(.sl 152 1 (List.map jC a)), (.val (.int .u64 (((d : Nat) : Int))))] (.tup [(.sl 152 1 (List.map jC (ofNat (val a / d)))), (.val (.int .u64 ((((val a % d) : Nat) : Int))))]) := by
 refine jN Tryz.func189 rfl cb189 rfl ?_
 show uT _ _ _ _ ⟨[(0, (vl 152 1 jC a)), (1, (gB d))], []⟩
 refine jA <| kx [] [] (zE (oNl 152 1) <| zM <| zZ) ?_
 refine jA <| kx [(6, (.own 0 152 1 a.length))] [(0, some (bm jC (List.replicate a.length 0)))] (zM <| zE (nZ qG) <| zN (oMk 0 jC (0 : Nat) a.length a.length qG xO yU nI) <| zM <| zZ) ?_
 refine jA <| kx [(7, (gB 0))] [] (zM <| zZ) ?_
 refine jA <| jA <| kx [(8, (vi (((a.length : Nat) : Int) - 1)))] [] (zM <| zE (nZ qG) <| zE (fJ (((a.length : Nat) : Int) - 1)) <| zM <| zZ) ?_
 refine jG <| vE (α := Nat × List Nat × Nat) (fun (k, q, zD) => ⟨[(0, (vl 152 1 jC a)), (1, (gB d)), (6, (.own 0 152 1 a.length)), (7, (gB zD)), (8, (vi (((k : Nat) : Int) - 1)))], [(0, some (bm jC q))]⟩) (fun (k, q, zD) => k ≤ a.length ∧ q.length = a.length ∧ Dig q ∧ zD < d ∧ val (a.drop k) = val (q.drop k) * d + zD) (fun (k, q, zD) => k) (a.length, List.replicate a.length 0, 0) wk ⟨Nat.le_refl _, by simp, yD _, hd0, by simp [val]⟩ ?_
 rintro ⟨k, q, zD⟩ ⟨hk, vL, hdq, hr, hv⟩
 refine jA <| jA <| kx [(17, (vb (decide (0 ≤ (((k : Nat) : Int) - 1)))))] [] (zM <| zE oGe <| zZ) ?_
 refine jY (b := decide (0 ≤ (((k : Nat) : Int) - 1))) rfl (fun h1 => ?_) (fun h1 => ?_)
 ·replace h1 := of_decide_eq_true h1
  obtain ⟨i, rfl⟩ : ∃ i, k = i + 1 := ⟨k - 1, by omega⟩
  rw [show (((i + 1 : Nat) : Int) - 1) = ((i : Nat) : Int) from by omega]
  have hg := hda.getD i
  obtain ⟨hb1, hb2⟩ := short_bound hr hd1 hg
  refine jE <| jA <| jG <| jA <| kx [(8, (kX i)), (9, (gB ((zD * 1000000000) + (a.getD i 0))))] [] (zM <| zE (oMl (zD * 1000000000)) <| zM <| zM <| zE (oXl qG i (0 : Nat)) <| zE (gA uU) <| zE (mE yT yR (a.getD i 0)) <| zE (uZ ((zD * 1000000000) + (a.getD i 0))) <| zM <| zZ) ?_
  refine jA <| kx [] [(0, some (bm jC (q.set i (((zD * 1000000000) + (a.getD i 0)) / d))))] (zM <| zM <| zM <| zM <| zE (oQu (((zD * 1000000000) + (a.getD i 0)) / d)) <| zE (mE gW gK (((zD * 1000000000) + (a.getD i 0)) / d)) <| zE (oXo qG i) <| zT (oSp uU i (((zD * 1000000000) + (a.getD i 0)) / d)) <| zZ) ?_
  refine kx [(7, (gB (((zD * 1000000000) + (a.getD i 0)) % d)))] [] (zM <| zM <| zE (oRe (((zD * 1000000000) + (a.getD i 0)) % d)) <| zM <| zZ) ?_
  refine kx [(8, (vi (((i : Nat) : Int) - 1)))] [] (zM <| zE (fJ (((i : Nat) : Int) - 1)) <| zM <| zZ) ?_
  exact ⟨(i, q.set i ((zD * 1000000000 + a.getD i 0) / d), (zD * 1000000000 + a.getD i 0) % d), wk, ⟨by omega, by simpa using vL, hdq.set _ hb2, Nat.mod_lt _ hd0, rshort_step (by omega) hv rfl⟩, (by first | omega | (dsimp only; omega))⟩
 ·replace h1 := of_decide_eq_false h1
  obtain rfl : k = 0 := by omega
  obtain ⟨e1, e2⟩ := short_end (a := a) (q := q) (by rw [Nat.sub_self]; exact hv) hr
  refine qF <| jA <| qM (zS (t := 6) (k := 0) (es := List.map jC q) rfl rfl (xT _ _ (fun _ => rfl)) (zB _ _ vL) (yA _ _ (fun _ => rfl) vL)) ?_
  refine kx [(4, (vl 152 1 jC (ofNat (val q)))), (5, (gB zD))] [] (zM <| zE (kA (hZ false q (by first | assumption | exact qC _ | exact (uD _).1 | exact (uG _).1) (by omega))) <| zE (oF1 aE yM) <| zM <| zM <| zM <| zZ) ?_
  refine jJ ⟨_, (.tmp (d := (.sl 152 1 (List.map jC (ofNat (val q))))) rfl (.tmp (d := (.val (.int .u64 (((zD : Nat) : Int))))) rfl .nil)), ?_⟩
  rw [← e1, ← e2]; rfl
theorem r_pair (l : List Nat) (hd : Dig l) (h2 : l.length ≤ 2) : kE Tryz.prog 149 [(.sl 152 1 (List.map jC l))] (.val (.int .u64 ((((val l) : Nat) : Int)))) := by
 have h0 := hd.getD 0
 have h1 := hd.getD 1
 refine jN Tryz.func149 rfl cb149 rfl ?_
 show uT _ _ _ _ ⟨[(0, (vl 152 1 jC l))], []⟩
 refine jA <| kx [] [] (zM <| zZ) ?_
 refine jA <| kx [(2, (gB (((l.getD 1 0) * 1000000000) + (l.getD 0 0))))] [] (zM <| zE (kA (fL l 1 (by first | assumption | exact qC _ | exact (uD _).1 | exact (uG _).1))) <| zE (oMl ((l.getD 1 0) * 1000000000)) <| zM <| zE (kA (fL l 0 (by first | assumption | exact qC _ | exact (uD _).1 | exact (uG _).1))) <| zE (uZ (((l.getD 1 0) * 1000000000) + (l.getD 0 0))) <| zM <| zZ) ?_
 refine jJ ⟨_, (.tmp (d := (.val (.int .u64 ((((((l.getD 1 0) * 1000000000) + (l.getD 0 0)) : Nat) : Int))))) rfl .nil), ?_⟩
 rw [val_pair h2]; rfl
theorem r_parts (a b : List Nat) (hda : gE a) (hdb : gE b) (hb0 : 0 < b.length) (hla : a.length ≤ 1099511627776) (hlb : b.length ≤ 1099511627776) : kE Tryz.prog 148 [(.sl 152 1 (List.map jC a)), (.sl 152 1 (List.map jC b))] (.tup [(.sl 152 1 (List.map jC (ofNat (val a / val b)))), (.sl 152 1 (List.map jC (ofNat (val a % val b))))]) := by
 have hsc := aS hdb hb0
 have htp := bB hdb hb0
 have hbp := mI hdb hb0
 refine jN Tryz.func148 rfl cb148 rfl ?_
 show uT _ _ _ _ ⟨[(0, (vl 152 1 jC a)), (1, (vl 152 1 jC b))], []⟩
 refine jA <| kx [] [] (zE (oNl 152 1) <| zE (oNl 152 1) <| zZ) ?_
 refine jA <| kx [(6, (kX b.length))] [] (zM <| zE (nZ qG) <| zM <| zZ) ?_
 refine jA <| jA <| kx [(19, (vb (((b.length : Nat) : Int) == 1)))] [] (zM <| zE fA <| zZ) ?_
 refine jY (b := (((b.length : Nat) : Int) == 1)) rfl (fun h1 => ?_) (fun h1 => ?_)
 ·replace h1 := eq_of_beq h1
  have hg0 := hdb.1.getD 0
  have hv1 := val_len1 (b := b) (by omega)
  have hb00 : 0 < b.getD 0 0 := by omega
  have hrl : val a % b.getD 0 0 < 1000000000 := Nat.lt_trans (Nat.mod_lt _ hb00) (by omega)
  refine jA <| kx [(7, (vl 152 1 jC (ofNat (val a / (b.getD 0 0))))), (8, (gB (val a % (b.getD 0 0))))] [] (zM <| zM <| zE (oXl qG 0 (0 : Nat)) <| zE (gA uU) <| zE (mE yT yR (b.getD 0 0)) <| zE (kA (r_short a (b.getD 0 0) hda.1 (by omega) (by omega) (by omega))) <| zM <| zE uH <| zE uH <| zM <| zM <| zZ) ?_
  refine jA <| kx [(4, (vl 152 1 jC (ofNat (val a / (b.getD 0 0))))), (5, (vl 152 1 jC (ofNat (val [(val a % (b.getD 0 0))]))))] [] (zM <| zM <| zE (mE gW gK (val a % (b.getD 0 0))) <| zE (cH qG xO yU) <| zE (kA (hZ false [(val a % (b.getD 0 0))] (yV.2 ⟨by omega, gN⟩) (by simp))) <| zE (oF1 aE yM) <| zM <| zM <| zZ) ?_
  refine jJ ⟨_, (.tmp (d := (.sl 152 1 (List.map jC (ofNat (val a / (b.getD 0 0)))))) rfl (.tmp (d := (.sl 152 1 (List.map jC (ofNat (val [(val a % (b.getD 0 0))]))))) rfl .nil)), ?_⟩
  rw [hv1, cF]; rfl
 ·replace h1 := ne_of_beq_false h1
  refine jE <| jA <| jA <| kx [(38, (vb (decide ((xC ((val a : Nat) : Int) ((val b : Nat) : Int)) < 0))))] [] (zM <| zM <| zE (kA (r_size a b (by first | assumption | exact uD _ | exact uG _) (by first | assumption | exact uD _ | exact uG _) (by omega) (by omega))) <| zE uW <| zZ) ?_
  refine jY rfl (fun h2 => ?_) (fun h2 => ?_)
  ·replace h2 := of_decide_eq_true h2
   refine jA <| kx [(4, (vl 152 1 jC [])), (5, (vl 152 1 jC a))] [] (zE (cH qG xO yU) <| zM <| zM <| zM <| zZ) ?_
   refine jJ ⟨_, (.tmp (d := (.sl 152 1 (List.map jC []))) rfl (.tmp (d := (.sl 152 1 (List.map jC a))) rfl .nil)), ?_⟩
   have hlt := cmpI_neg h2
   rw [Nat.div_eq_of_lt hlt, Nat.mod_eq_of_lt hlt, vU, ← can_eq hda]; rfl
  ·replace h2 := of_decide_eq_false h2
   obtain ⟨u, hue⟩ : ∃ u, u = ofNat (val a * cI b) := ⟨_, rfl⟩
   obtain ⟨v, hve⟩ : ∃ v, v = ofNat (val b * cI b) := ⟨_, rfl⟩
   have hu : Dig u := by rw [hue]; exact qC _
   have hcv : gE v := by rw [hve]; exact uD _
   have hvd := hcv.1
   have hvl : v.length = b.length := by rw [hve]; exact scl_len hdb hb0
   have hvv : val v = val b * cI b := by rw [hve]; exact kZ _
   have huv : val u = val a * cI b := by rw [hue]; exact kZ _
   have hab := len_of_le hda hdb (cmpI_nn h2)
   have hul : a.length ≤ u.length ∧ u.length ≤ a.length + 1 := by rw [hue]; exact scl_lenA hda hdb hb0
   have hvp := mI hcv (by omega)
   have hpv : pw (b.length - 1) ≤ val v := by have h1 := val_top hvd (by omega); have h3 := bB hcv (by omega); rw [hvl] at h1 h3; have h2 := Nat.mul_le_mul_right (pw (b.length - 1)) h3.1; omega
   refine jE <| jA <| kx [(9, (gB (cI b)))] [] (zM <| zM <| zE (oSb (b.length - 1)) <| zE (oXl qG (b.length - 1) (0 : Nat)) <| zE (gA uU) <| zE (mE yT yR (b.getD (b.length - 1) 0)) <| zE (uZ ((b.getD (b.length - 1) 0) + 1)) <| zE (oQu (cI b) (hr := by exact (quo_u64 1000000000 (b.getD (b.length - 1) 0 + 1) (by decide)))) <| zM <| zZ) ?_
   refine jA <| kx [(0, (vl 152 1 jC u)), (1, (vl 152 1 jC v))] [] (zM <| zM <| zE (kA (hue ▸ r_scaled a (cI b) hda.1 (by omega) (by omega))) <| zM <| zM <| zE (kA (hve ▸ r_scaled b (cI b) hdb.1 (by omega) (by omega))) <| zM <| zM <| zZ) ?_
   refine jA <| kx [(10, (vl 152 1 jC (ofNat (val (List.drop ((u.length - b.length) + 1) u)))))] [] (zM <| zM <| zE (nZ qG) <| zM <| zE (oSb (u.length - b.length)) <| zE (uZ ((u.length - b.length) + 1)) <| zE (e_slc (l := ((u.length - b.length) + 1)) (h := (List.map jC u).length) (kl := .i64) (kh := .i64) (es' := List.map jC (List.drop ((u.length - b.length) + 1) u)) (by exact rfl) qG (by exact rfl) (by exact rfl) (by exact rfl) (by simp only [List.length_map]; omega) (Nat.le_refl _) (by rw [List.take_length, List.map_drop])) <| zE (kA (hZ false (List.drop ((u.length - b.length) + 1) u) (hu.drop _) (by rw [List.length_drop]; omega))) <| zE (oF1 aE yM) <| zM <| zZ) ?_
   refine jA <| kx [(11, (.own 0 152 1 ((u.length - b.length) + 1)))] [(0, some (bm jC (List.replicate ((u.length - b.length) + 1) 0)))] (zM <| zE (nZ qG) <| zM <| zE (oSb (u.length - b.length)) <| zE (uZ ((u.length - b.length) + 1)) <| zN (oMk 0 jC (0 : Nat) ((u.length - b.length) + 1) ((u.length - b.length) + 1) qG xO yU nI) <| zM <| zZ) ?_
   refine jA <| jA <| kx [(12, (vi ((((u.length - b.length) + 1 : Nat) : Int) - 1)))] [] (zM <| zE (nZ qG) <| zM <| zE (fJ ((((u.length - b.length) + 1 : Nat) : Int) - 1)) <| zM <| zZ) ?_
   refine jG <| vE (α := Nat × List Nat × List Nat) (fun (k, r, q) => ⟨[(0, (vl 152 1 jC u)), (1, (vl 152 1 jC v)), (6, (kX b.length)), (9, (gB (cI b))), (10, (vl 152 1 jC r)), (11, (.own 0 152 1 ((u.length - b.length) + 1))), (12, (vi (((k : Nat) : Int) - 1)))], [(0, some (bm jC q))]⟩) (fun (k, r, q) => gE r ∧ k ≤ ((u.length - b.length) + 1) ∧ q.length = ((u.length - b.length) + 1) ∧ Dig q ∧ val r < val v ∧ val (u.drop k) = val v * val (q.drop k) + val r) (fun (k, r, q) => k) (((u.length - b.length) + 1), ofNat (val (List.drop ((u.length - b.length) + 1) u)), List.replicate ((u.length - b.length) + 1) 0) wk ⟨uD _, Nat.le_refl _, by simp, yD _, by rw [kZ]; have h7 := xQ (hu.drop ((u.length - b.length) + 1)); rw [List.length_drop, show u.length - ((u.length - b.length) + 1) = b.length - 1 by omega] at h7; omega, by rw [kZ]; simp [val]⟩ ?_
   rintro ⟨k, r, q⟩ ⟨hrc, hk, hql, hqd, hr, hv⟩
   refine jA <| jA <| kx [(75, (vb (decide (0 ≤ (((k : Nat) : Int) - 1)))))] [] (zM <| zE oGe <| zZ) ?_
   refine jY (b := decide (0 ≤ (((k : Nat) : Int) - 1))) rfl (fun h3 => ?_) (fun h3 => ?_)
   ·replace h3 := of_decide_eq_true h3
    obtain ⟨i, rfl⟩ : ∃ i, k = i + 1 := ⟨k - 1, by omega⟩
    rw [show (((i + 1 : Nat) : Int) - 1) = ((i : Nat) : Int) from by omega]
    have hgu := hu.getD i
    have hW : (u.getD i 0 + 1000000000 * val r) < 1000000000 * val v := by omega
    have hrs := rshift_val u hv
    obtain ⟨hg1, hg2⟩ := rguess hvd hvl hb0 hW
    have hgv := hvd.getD (b.length - 1)
    have hgw1 := (qC (u.getD i 0 + 1000000000 * val r)).getD b.length
    have hgw2 := (qC (u.getD i 0 + 1000000000 * val r)).getD (b.length - 1)
    have hrl : r.length ≤ b.length := by have h9 := zQ (Nat.le_of_lt hr); rwa [← can_eq hrc, ← can_eq hcv, hvl] at h9
    have hwl : (ofNat (u.getD i 0 + 1000000000 * val r)).length ≤ b.length + 1 := vI (by rw [vV]; have := xQ hvd; rw [hvl] at this; omega)
    refine jE <| jA <| jG <| jA <| kx [(10, (vl 152 1 jC (ofNat ((u.getD i 0) + 1000000000 * val r)))), (12, (kX i))] [] (zM <| zM <| zM <| zE (oXl qG i (0 : Nat)) <| zE (gA uU) <| zE (kA (r_shifted r (u.getD i 0) hrc.1 (by omega) (by omega))) <| zM <| zZ) ?_
    refine jA <| kd [(13, (gB (((((ofNat ((u.getD i 0) + 1000000000 * val r)).getD b.length 0) * 1000000000) + ((ofNat ((u.getD i 0) + 1000000000 * val r)).getD (b.length - 1) 0)) / ((v.getD (b.length - 1) 0) + 1))))] [] mo (wM <| wM <| wE (kA (fL (ofNat ((u.getD i 0) + 1000000000 * val r)) b.length (qC _))) <| wE (oMl (((ofNat ((u.getD i 0) + 1000000000 * val r)).getD b.length 0) * 1000000000)) <| wM <| wM <| wE (oSb (b.length - 1)) <| wE (kA (fL (ofNat ((u.getD i 0) + 1000000000 * val r)) (b.length - 1) (by first | assumption | exact qC _ | exact (uD _).1 | exact (uG _).1))) <| wE (uZ ((((ofNat ((u.getD i 0) + 1000000000 * val r)).getD b.length 0) * 1000000000) + ((ofNat ((u.getD i 0) + 1000000000 * val r)).getD (b.length - 1) 0))) <| wM <| wM <| wE (oSb (b.length - 1)) <| wE (oXl qG (b.length - 1) (0 : Nat)) <| wE (gA uU) <| wE (mE yT yR (v.getD (b.length - 1) 0)) <| wE (uZ ((v.getD (b.length - 1) 0) + 1)) <| wE (oQu (((((ofNat ((u.getD i 0) + 1000000000 * val r)).getD b.length 0) * 1000000000) + ((ofNat ((u.getD i 0) + 1000000000 * val r)).getD (b.length - 1) 0)) / ((v.getD (b.length - 1) 0) + 1))) <| wM <| wZ) ?_
    refine jA <| kx [(10, (vl 152 1 jC (ofNat (val (ofNat ((u.getD i 0) + 1000000000 * val r)) - val (ofNat (val v * (((((ofNat ((u.getD i 0) + 1000000000 * val r)).getD b.length 0) * 1000000000) + ((ofNat ((u.getD i 0) + 1000000000 * val r)).getD (b.length - 1) 0)) / ((v.getD (b.length - 1) 0) + 1))))))))] [] (zM <| zM <| zM <| zE (kA (r_scaled v (((((ofNat ((u.getD i 0) + 1000000000 * val r)).getD b.length 0) * 1000000000) + ((ofNat ((u.getD i 0) + 1000000000 * val r)).getD (b.length - 1) 0)) / ((v.getD (b.length - 1) 0) + 1)) hvd (by omega) (by omega))) <| zE (kA (r_minus (ofNat ((u.getD i 0) + 1000000000 * val r)) (ofNat (val v * (((((ofNat ((u.getD i 0) + 1000000000 * val r)).getD b.length 0) * 1000000000) + ((ofNat ((u.getD i 0) + 1000000000 * val r)).getD (b.length - 1) 0)) / ((v.getD (b.length - 1) 0) + 1)))) (qC _) (qC _) (by rw [kZ, kZ, Nat.mul_comm]; exact hg1) (by omega))) <| zM <| zZ) ?_
    refine jA <| jG <| vE (α := Nat × List Nat) (fun (G, r2) => ⟨[(0, (vl 152 1 jC u)), (1, (vl 152 1 jC v)), (6, (kX b.length)), (9, (gB (cI b))), (10, (vl 152 1 jC r2)), (11, (.own 0 152 1 ((u.length - b.length) + 1))), (12, (kX i)), (13, (gB G))], [(0, some (bm jC q))]⟩) (fun (G, r2) => gE r2 ∧ val v * G + val r2 = (u.getD i 0 + 1000000000 * val r)) (fun (G, r2) => val r2) ((((ofNat (u.getD i 0 + 1000000000 * val r)).getD b.length 0 * 1000000000 + (ofNat (u.getD i 0 + 1000000000 * val r)).getD (b.length - 1) 0) / (v.getD (b.length - 1) 0 + 1)), ofNat (val (ofNat (u.getD i 0 + 1000000000 * val r)) - val (ofNat (val v * (((ofNat (u.getD i 0 + 1000000000 * val r)).getD b.length 0 * 1000000000 + (ofNat (u.getD i 0 + 1000000000 * val r)).getD (b.length - 1) 0) / (v.getD (b.length - 1) 0 + 1)))))) wk ⟨uD _, by rw [kZ, kZ, kZ]; rw [Nat.mul_comm] at hg1; omega⟩ ?_
    rintro ⟨G, r2⟩ ⟨hr2, hr2v⟩
    have hr2l : r2.length ≤ b.length + 1 := by have h9 := zQ (show val r2 ≤ (u.getD i 0 + 1000000000 * val r) by omega); rw [← can_eq hr2] at h9; omega
    refine jA <| jA <| kx [(109, (vb (decide (0 ≤ (xC ((val r2 : Nat) : Int) ((val v : Nat) : Int))))))] [] (zM <| zM <| zE (kA (r_size r2 v hr2 hcv (by omega) (by omega))) <| zE oGe <| zZ) ?_
    refine jY rfl (fun h4 => ?_) (fun h4 => ?_)
    ·replace h4 := of_decide_eq_true h4
     have hge := bH h4
     have hG := rquo_lt hr2v hW
     have hr2l : r2.length ≤ b.length + 1 := by have h9 := zQ (show val r2 ≤ (u.getD i 0 + 1000000000 * val r) by omega); rw [← can_eq hr2] at h9; omega
     refine jE <| jG <| jA <| kx [(10, (vl 152 1 jC (ofNat (val r2 - val v))))] [] (zM <| zM <| zE (kA (r_minus r2 v hr2.1 hvd (by omega) (by omega))) <| zM <| zZ) ?_
     refine kx [(13, (gB (G + 1)))] [] (zM <| zE (uZ (G + 1)) <| zM <| zZ) ?_
     exact ⟨(G + 1, ofNat (val r2 - val v)), wk, (by have hge := bH h4; exact ⟨uD _, by rw [kZ, Nat.mul_add, Nat.mul_one]; omega⟩), (by have hge := bH h4; dsimp only; rw [kZ]; omega)⟩
    ·replace h4 := of_decide_eq_false h4
     have hG := rquo_lt hr2v hW
     have hlt : val r2 < val v := by have h9 := cmpI_lt h4; omega
     refine qF <| kx [] [(0, some (bm jC (q.set i G)))] (zM <| zM <| zM <| zE (mE gW gK G) <| zE (oXo qG i) <| zT (oSp uU i G) <| zZ) ?_
     refine kx [(12, (vi (((i : Nat) : Int) - 1)))] [] (zM <| zE (fJ (((i : Nat) : Int) - 1)) <| zM <| zZ) ?_
     exact ⟨(i, r2, q.set i G), wk, ⟨hr2, by omega, by simpa using hql, hqd.set _ hG, hlt, rround (by omega) (by rw [hr2v]; exact hrs)⟩, (by first | omega | (dsimp only; omega))⟩
   ·replace h3 := of_decide_eq_false h3
    obtain rfl : k = 0 := by omega
    obtain ⟨e1, e2⟩ := scl_div (a := a) (b := b) (q := q) (u := r) hdb hb0 (by rw [List.drop_zero, List.drop_zero] at hv; rw [mD, Nat.one_mul, List.drop_zero, ← huv, ← hvv, hv]; omega) (by rw [List.drop_zero, ← hvv]; exact hr)
    have hrl : r.length ≤ b.length := by have h9 := zQ (Nat.le_of_lt hr); rwa [← can_eq hrc, ← can_eq hcv, hvl] at h9
    refine qF <| jA <| kx [(14, (vl 152 1 jC (ofNat (val r / (cI b)))))] [] (zM <| zM <| zE (kA (r_short r (cI b) hrc.1 (by omega) (by omega) (by omega))) <| zM <| zE uH <| zE uH <| zM <| zM <| zZ) ?_
    refine jA <| qM (zS (t := 11) (k := 0) (es := List.map jC q) rfl rfl (xT _ _ (fun _ => rfl)) (zB _ _ hql) (yA _ _ (fun _ => rfl) hql)) ?_
    refine kx [(4, (vl 152 1 jC (ofNat (val q)))), (5, (vl 152 1 jC (ofNat (val r / (cI b)))))] [] (zM <| zE (kA (hZ false q hqd (by omega))) <| zE (oF1 aE yM) <| zM <| zM <| zM <| zZ) ?_
    refine jJ ⟨_, (.tmp (d := (.sl 152 1 (List.map jC (ofNat (val q))))) rfl (.tmp (d := (.sl 152 1 (List.map jC (ofNat (val r / (cI b)))))) rfl .nil)), ?_⟩
    rw [← e1, ← e2]; rfl
end Go.Proofs.YtbecgnplakngdaaGreat
