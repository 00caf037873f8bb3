/- Part 18 of a proof: rules, plain facts, and functions walked. -/
import Derived.Test.YtbecgnplakngdaaGreatM17
namespace Go.Proofs.YtbecgnplakngdaaGreat
open Go.Fid
set_option maxRecDepth 4000
set_option linter.unusedVariables false
set_option linter.unusedSimpArgs false
theorem cb84 : callB Tryz.prog 84 = true := by kernel_rfl
theorem cb103 : callB Tryz.prog 103 = true := by kernel_rfl
theorem cb134 : callB Tryz.prog 134 = true := by kernel_rfl
theorem cb135 : callB Tryz.prog 135 = true := by kernel_rfl
theorem cb147 : callB Tryz.prog 147 = true := by kernel_rfl
theorem cb148 : callB Tryz.prog 148 = true := by kernel_rfl
theorem cb149 : callB Tryz.prog 149 = true := by kernel_rfl
theorem cb189 : callB Tryz.prog 189 = true := by kernel_rfl
theorem r_neg (x : jF) (hx : x.gs.length ≤ 1099511627776) : kF Tryz.prog 134 [(jH x)] (jH (jK (-kK x))) := by
 have hvx := eB x
 refine jL Tryz.func134 rfl cb134 rfl ?_
 show uK _ _ _ _ ⟨[(0, (.d (jH x)))], []⟩
 refine jA <| kx [(1, (.ref 0 0)), (2, (.ref 1 0))] [(0, some (bx (jH x))), (1, some (bx (jH (jF.mk false []))))] (zN (uX 0) <| zN (qH 1 uD uE) <| zZ) ?_
 refine jA <| kx [] [(0, some (bx (jH (jK (kK x)))))] (zR (kA jI) <| zE (kC (eE x (by omega))) <| zT (kR jI) <| zZ) ?_
 refine jA <| kx [] [(1, some (bx (jH (zI (!((jK (kK x)).neg)) (val (ofNat (Int.natAbs (kK x))))))))] (zE (kU uS) <| zR (uM eI) <| zE eX <| zE (kU uT) <| zR (uM xI) <| zE (kC (nJ (!((jK (kK x)).neg)) (ofNat (Int.natAbs (kK x))) (by first | assumption | exact qA _ | exact (uC _).1 | exact (uB _).1) (by omega))) <| zT (kR jI) <| zZ) ?_
 refine jG ⟨_, (qB (cs := (bx (jH (zI (!((jK (kK x)).neg)) (val (ofNat (Int.natAbs (kK x)))))))) (d := (jH (zI (!((jK (kK x)).neg)) (val (ofNat (Int.natAbs (kK x))))))) rfl rfl jI rfl rfl .nil), ?_⟩
 rw [← rneg_eq]; rfl
theorem r_sign (x : jF) (hx : x.gs.length ≤ 1099511627776) : kF Tryz.prog 84 [(jH x)] (.val (.int .i64 ((qX (kK x))))) := by
 have hvx := eB x
 refine jL Tryz.func84 rfl cb84 rfl ?_
 show uK _ _ _ _ ⟨[(0, (.d (jH x)))], []⟩
 refine jA <| kx [(1, (.ref 0 0))] [(0, some (bx (jH x)))] (zN (uX 0) <| zM <| zZ) ?_
 refine jA <| kx [] [(0, some (bx (jH (jK (kK x)))))] (zR (kA jI) <| zE (kC (eE x (by omega))) <| zT (kR jI) <| zZ) ?_
 refine jA <| jA <| kx [(8, (vb ((((ofNat (Int.natAbs (kK x))).length : Nat) : Int) == 0)))] [] (zE (kU uT) <| zR (uM xI) <| zE (nC kV (L := (ofNat (Int.natAbs (kK x))))) <| zE aO <| zZ) ?_
 refine jQ rfl (fun h1 => ?_) (fun h1 => ?_)
 ·replace h1 := eq_of_beq h1
  refine jA <| kx [(2, (kE 0))] [] (zM <| zZ) ?_
  refine jG ⟨_, (.tmp (d := (.val (.int .i64 (0)))) rfl .nil), ?_⟩
  rw [rsign_zero h1]; rfl
 ·replace h1 := ne_of_beq_false h1
  refine jD <| jA <| jA <| kx [(10, (vb ((jK (kK x)).neg)))] [] (zE (kU uS) <| zR (uM eI) <| zZ) ?_
  refine jQ (b := (jK (kK x)).neg) rfl (fun h2 => ?_) (fun h2 => ?_)
  ·refine jA <| kx [(2, (vi (-1)))] [] (zM <| zZ) ?_
   refine jG ⟨_, (.tmp (d := (.val (.int .i64 (-1)))) rfl .nil), ?_⟩
   rw [rsign_neg h1 h2]; rfl
  ·refine jD <| jA <| kx [(2, (kE 1))] [] (zM <| zZ) ?_
   refine jG ⟨_, (.tmp (d := (.val (.int .i64 (1)))) rfl .nil), ?_⟩
   rw [rsign_pos h1 h2]; rfl
theorem r_add (x : jF) (y : jF) (hx : x.gs.length ≤ 1099511627776) (hy : y.gs.length ≤ 1099511627776) : kF Tryz.prog 135 [(jH x), (jH y)] (jH (jK (kK x + kK y))) := by
 have hvx := eB x
 have hvy := eB y
 refine jL Tryz.func135 rfl cb135 rfl ?_
 show uK _ _ _ _ ⟨[(0, (.d (jH x))), (1, (.d (jH y)))], []⟩
 refine jA <| kx [(2, (.ref 0 0)), (3, (.ref 1 0)), (4, (.ref 2 0))] [(0, some (bx (jH x))), (1, some (bx (jH y))), (2, some (bx (jH (jF.mk false []))))] (zN (uX 0) <| zN (uX 1) <| zN (qH 2 uD uE) <| zZ) ?_
 refine jA <| kd [] [(0, some (bx (jH (jK (kK x))))), (1, some (bx (jH (jK (kK y)))))] mo (wR (kA jI) <| wE (kC (eE x (by omega))) <| wR (kA jI) <| wE (kC (eE y (by omega))) <| wT (kR jI) <| wT (kR jI) <| wZ) ?_
 refine jA <| jA <| kx [(13, (vb (((jK (kK x)).neg) == ((jK (kK y)).neg))))] [] (zE (kU uS) <| zR (uM eI) <| zE (kU uS) <| zR (uM eI) <| zE (oEb bo4) <| zZ) ?_
 refine jQ rfl (fun h1 => ?_) (fun h1 => ?_)
 ·replace h1 := eq_of_beq h1
  refine jA <| kd [] [(2, some (bx (jH (zI ((jK (kK x)).neg) (val (ofNat (val (ofNat (Int.natAbs (kK x))) + val (ofNat (Int.natAbs (kK y))))))))))] mo (wE (kU uS) <| wR (uM eI) <| wE (kU uT) <| wR (uM xI) <| wE (kU uT) <| wR (uM xI) <| wE (kC (r_plus (ofNat (Int.natAbs (kK x))) (ofNat (Int.natAbs (kK y))) (by first | assumption | exact qA _ | exact (uC _).1 | exact (uB _).1) (by first | assumption | exact qA _ | exact (uC _).1 | exact (uB _).1) (by omega) (by omega))) <| wE (kC (nJ ((jK (kK x)).neg) (ofNat (val (ofNat (Int.natAbs (kK x))) + val (ofNat (Int.natAbs (kK y))))) (by first | assumption | exact qA _ | exact (uC _).1 | exact (uB _).1) (by first | omega | exact Nat.le_trans (add_len (qA _) (qA _)) (by omega) | exact Nat.le_trans (sub_len (qA _)) (by omega)))) <| wT (kR jI) <| wZ) ?_
  refine jG ⟨_, (qB (cs := (bx (jH (zI ((jK (kK x)).neg) (val (ofNat (val (ofNat (Int.natAbs (kK x))) + val (ofNat (Int.natAbs (kK y)))))))))) (d := (jH (zI ((jK (kK x)).neg) (val (ofNat (val (ofNat (Int.natAbs (kK x))) + val (ofNat (Int.natAbs (kK y))))))))) rfl rfl jI rfl rfl .nil), ?_⟩
  rw [← rsum_same h1]; rfl
 ·replace h1 := ne_of_beq_false h1
  refine jD <| jA <| jA <| kx [(27, (vb (decide (0 ≤ (xC ((val (ofNat (Int.natAbs (kK x))) : Nat) : Int) ((val (ofNat (Int.natAbs (kK y))) : Nat) : Int))))))] [] (zE (kU uT) <| zR (uM xI) <| zE (kU uT) <| zR (uM xI) <| zE (kC (r_size (ofNat (Int.natAbs (kK x))) (ofNat (Int.natAbs (kK y))) (by first | assumption | exact uC _ | exact uB _) (by first | assumption | exact uC _ | exact uB _) (by omega) (by omega))) <| zE oGe <| zZ) ?_
  refine jQ rfl (fun h2 => ?_) (fun h2 => ?_)
  ·replace h2 := of_decide_eq_true h2
   refine jA <| kd [] [(2, some (bx (jH (zI ((jK (kK x)).neg) (val (ofNat (val (ofNat (Int.natAbs (kK x))) - val (ofNat (Int.natAbs (kK y))))))))))] mo (wE (kU uS) <| wR (uM eI) <| wE (kU uT) <| wR (uM xI) <| wE (kU uT) <| wR (uM xI) <| wE (kC (r_minus (ofNat (Int.natAbs (kK x))) (ofNat (Int.natAbs (kK y))) (by first | assumption | exact qA _ | exact (uC _).1 | exact (uB _).1) (by first | assumption | exact qA _ | exact (uC _).1 | exact (uB _).1) (by have := lA h2; omega) (by omega))) <| wE (kC (nJ ((jK (kK x)).neg) (ofNat (val (ofNat (Int.natAbs (kK x))) - val (ofNat (Int.natAbs (kK y))))) (by first | assumption | exact qA _ | exact (uC _).1 | exact (uB _).1) (by first | omega | exact Nat.le_trans (add_len (qA _) (qA _)) (by omega) | exact Nat.le_trans (sub_len (qA _)) (by omega)))) <| wT (kR jI) <| wZ) ?_
   refine jG ⟨_, (qB (cs := (bx (jH (zI ((jK (kK x)).neg) (val (ofNat (val (ofNat (Int.natAbs (kK x))) - val (ofNat (Int.natAbs (kK y)))))))))) (d := (jH (zI ((jK (kK x)).neg) (val (ofNat (val (ofNat (Int.natAbs (kK x))) - val (ofNat (Int.natAbs (kK y))))))))) rfl rfl jI rfl rfl .nil), ?_⟩
   rw [← rsum_first h1 (by have := lA h2; omega)]; rfl
  ·replace h2 := of_decide_eq_false h2
   refine jD <| jA <| kd [] [(2, some (bx (jH (zI ((jK (kK y)).neg) (val (ofNat (val (ofNat (Int.natAbs (kK y))) - val (ofNat (Int.natAbs (kK x))))))))))] mo (wE (kU uS) <| wR (uM eI) <| wE (kU uT) <| wR (uM xI) <| wE (kU uT) <| wR (uM xI) <| wE (kC (r_minus (ofNat (Int.natAbs (kK y))) (ofNat (Int.natAbs (kK x))) (by first | assumption | exact qA _ | exact (uC _).1 | exact (uB _).1) (by first | assumption | exact qA _ | exact (uC _).1 | exact (uB _).1) (by have := cmpI_lt h2; omega) (by omega))) <| wE (kC (nJ ((jK (kK y)).neg) (ofNat (val (ofNat (Int.natAbs (kK y))) - val (ofNat (Int.natAbs (kK x))))) (by first | assumption | exact qA _ | exact (uC _).1 | exact (uB _).1) (by first | omega | exact Nat.le_trans (add_len (qA _) (qA _)) (by omega) | exact Nat.le_trans (sub_len (qA _)) (by omega)))) <| wT (kR jI) <| wZ) ?_
   refine jG ⟨_, (qB (cs := (bx (jH (zI ((jK (kK y)).neg) (val (ofNat (val (ofNat (Int.natAbs (kK y))) - val (ofNat (Int.natAbs (kK x)))))))))) (d := (jH (zI ((jK (kK y)).neg) (val (ofNat (val (ofNat (Int.natAbs (kK y))) - val (ofNat (Int.natAbs (kK x))))))))) rfl rfl jI rfl rfl .nil), ?_⟩
   rw [← rsum_second h1 (by have := cmpI_lt h2; omega)]; rfl
theorem r_sub (x : jF) (y : jF) (hx : x.gs.length ≤ 1099511627776) (hy : y.gs.length ≤ 1099511627776) : kF Tryz.prog 147 [(jH x), (jH y)] (jH (jK (kK x - kK y))) := by
 have hv := gs_neg y
 refine jL Tryz.func147 rfl cb147 rfl ?_
 show uK _ _ _ _ ⟨[(0, (.d (jH x))), (1, (.d (jH y)))], []⟩
 refine jA <| kx [(2, (.ref 0 0)), (3, (.ref 1 0)), (4, (.ref 2 0))] [(0, some (bx (jH x))), (1, some (bx (jH y))), (2, some (bx (jH (jF.mk false []))))] (zN (uX 0) <| zN (uX 1) <| zN (qH 2 uD uE) <| zZ) ?_
 refine jA <| kd [] [(2, some (bx (jH (jK (kK x + kK (jK (-kK y)))))))] mo (wR (kA jI) <| wR (kA jI) <| wE (kC (r_neg y (by omega))) <| wE (kC (r_add x (jK (-kK y)) (by omega) (by omega))) <| wT (kR jI) <| wZ) ?_
 refine jG ⟨_, (qB (cs := (bx (jH (jK (kK x + kK (jK (-kK y))))))) (d := (jH (jK (kK x + kK (jK (-kK y)))))) rfl rfl jI rfl rfl .nil), ?_⟩
 rw [mG, ← Int.sub_eq_add_neg]; rfl
theorem r_mul (x : jF) (y : jF) (hx : x.gs.length ≤ 1099511627776) (hy : y.gs.length ≤ 1099511627776) : kF Tryz.prog 103 [(jH x), (jH y)] (jH (jK (kK x * kK y))) := by
 have hvx := eB x
 have hvy := eB y
 have hda := qA (Int.natAbs (kK x))
 have hdb := qA (Int.natAbs (kK y))
 refine jL Tryz.func103 rfl cb103 rfl ?_
 show uK _ _ _ _ ⟨[(0, (.d (jH x))), (1, (.d (jH y)))], []⟩
 refine jA <| kx [(2, (.ref 0 0)), (3, (.ref 1 0)), (4, (.ref 2 0))] [(0, some (bx (jH x))), (1, some (bx (jH y))), (2, some (bx (jH (jF.mk false []))))] (zN (uX 0) <| zN (uX 1) <| zN (qH 2 uD uE) <| zZ) ?_
 refine jA <| kd [] [(0, some (bx (jH (jK (kK x))))), (1, some (bx (jH (jK (kK y)))))] mo (wR (kA jI) <| wE (kC (eE x (by omega))) <| wR (kA jI) <| wE (kC (eE y (by omega))) <| wT (kR jI) <| wT (kR jI) <| wZ) ?_
 refine jA <| kx [(5, (.own 3 152 1 ((ofNat (Int.natAbs (kK x))).length + (ofNat (Int.natAbs (kK y))).length)))] [(3, some (bm jB (List.replicate ((ofNat (Int.natAbs (kK x))).length + (ofNat (Int.natAbs (kK y))).length) 0)))] (zE (kU uT) <| zR (uM xI) <| zE (nC kV (L := (ofNat (Int.natAbs (kK x))))) <| zE (kU uT) <| zR (uM xI) <| zE (nC kV (L := (ofNat (Int.natAbs (kK y))))) <| zE (qQ ((ofNat (Int.natAbs (kK x))).length + (ofNat (Int.natAbs (kK y))).length)) <| zN (oMk 3 jB (0 : Nat) ((ofNat (Int.natAbs (kK x))).length + (ofNat (Int.natAbs (kK y))).length) ((ofNat (Int.natAbs (kK x))).length + (ofNat (Int.natAbs (kK y))).length) kV xP gH nT) <| zM <| zZ) ?_
 refine jA <| jA <| kx [(6, (kE 0))] [] (zM <| zZ) ?_
 refine jE <| uA (α := Nat × List Nat) (fun (i, out) => ⟨[(2, (.ref 0 0)), (3, (.ref 1 0)), (4, (.ref 2 0)), (5, (.own 3 152 1 ((ofNat (Int.natAbs (kK x))).length + (ofNat (Int.natAbs (kK y))).length))), (6, (kE i))], [(0, some (bx (jH (jK (kK x))))), (1, some (bx (jH (jK (kK y))))), (2, some (bx (jH (jF.mk false [])))), (3, some (bm jB out))]⟩) (fun (i, out) => out.length = (ofNat (Int.natAbs (kK x))).length + (ofNat (Int.natAbs (kK y))).length ∧ Dig out ∧ i ≤ (ofNat (Int.natAbs (kK x))).length ∧ (∀ k, i + (ofNat (Int.natAbs (kK y))).length ≤ k → out.getD k 0 = 0) ∧ val out = val ((ofNat (Int.natAbs (kK x))).take i) * val (ofNat (Int.natAbs (kK y)))) (fun (i, out) => (ofNat (Int.natAbs (kK x))).length - i) (0, List.replicate ((ofNat (Int.natAbs (kK x))).length + (ofNat (Int.natAbs (kK y))).length) 0) wk ⟨by simp, yJ _, Nat.zero_le _, fun k _ => aC _ k, by simp [val, dY]⟩ ?_
 rintro ⟨i, out⟩ ⟨vD, hdo, hi, hz, hv⟩
 have hai := hda.getD i
 refine jA <| jA <| kx [(26, (vb (decide (((i : Nat) : Int) < (((ofNat (Int.natAbs (kK x))).length : Nat) : Int)))))] [] (zM <| zE (kU uT) <| zR (uM xI) <| zE (nC kV (L := (ofNat (Int.natAbs (kK x))))) <| zE qS <| zZ) ?_
 refine jQ rfl (fun h1 => ?_) (fun h1 => ?_)
 ·replace h1 := of_decide_eq_true h1
  refine jD <| jA <| jE <| jA <| kx [(7, (gQ 0))] [] (zM <| zZ) ?_
  refine jA <| jA <| kx [(8, (kE 0))] [] (zM <| zZ) ?_
  refine jE <| uA (α := Nat × List Nat × Nat) (fun (j, o2, c) => ⟨[(2, (.ref 0 0)), (3, (.ref 1 0)), (4, (.ref 2 0)), (5, (.own 3 152 1 ((ofNat (Int.natAbs (kK x))).length + (ofNat (Int.natAbs (kK y))).length))), (6, (kE i)), (7, (gQ c)), (8, (kE j))], [(0, some (bx (jH (jK (kK x))))), (1, some (bx (jH (jK (kK y))))), (2, some (bx (jH (jF.mk false [])))), (3, some (bm jB o2))]⟩) (fun (j, o2, c) => o2.length = (ofNat (Int.natAbs (kK x))).length + (ofNat (Int.natAbs (kK y))).length ∧ Dig o2 ∧ j ≤ (ofNat (Int.natAbs (kK y))).length ∧ c < 1000000000 ∧ (∀ k, i + (ofNat (Int.natAbs (kK y))).length ≤ k → o2.getD k 0 = 0) ∧ val o2 + pw (i + j) * c = val ((ofNat (Int.natAbs (kK x))).take i) * val (ofNat (Int.natAbs (kK y))) + pw i * ((ofNat (Int.natAbs (kK x))).getD i 0 * val ((ofNat (Int.natAbs (kK y))).take j))) (fun (j, o2, c) => (ofNat (Int.natAbs (kK y))).length - j) (0, out, 0) wk ⟨vD, hdo, Nat.zero_le _, by decide, hz, by simp [val, hv]⟩ ?_
  rintro ⟨j, o2, c⟩ ⟨hlen2, hdo2, hj, hc, hz2, hv2⟩
  have hbj := hdb.getD j
  have hoj := hdo2.getD (i + j)
  have hpq : (ofNat (Int.natAbs (kK x))).getD i 0 * (ofNat (Int.natAbs (kK y))).getD j 0 ≤ 999999999 * 999999999 := Nat.mul_le_mul (by omega) (by omega)
  refine jA <| jA <| kx [(33, (vb (decide (((j : Nat) : Int) < (((ofNat (Int.natAbs (kK y))).length : Nat) : Int)))))] [] (zM <| zE (kU uT) <| zR (uM xI) <| zE (nC kV (L := (ofNat (Int.natAbs (kK y))))) <| zE qS <| zZ) ?_
  refine jQ rfl (fun h2 => ?_) (fun h2 => ?_)
  ·replace h2 := of_decide_eq_true h2
   refine jD <| jA <| jE <| jA <| kd [(9, (gQ (((o2.getD (i + j) 0) + (((ofNat (Int.natAbs (kK x))).getD i 0) * ((ofNat (Int.natAbs (kK y))).getD j 0))) + c)))] [] mo (wM <| wM <| wM <| wE (qQ (i + j)) <| wE (oXo kV (i + j)) <| wR (oLp uR (i + j) (0 : Nat)) <| wE (mU gG gA (o2.getD (i + j) 0)) <| wE (kU uT) <| wR (uM xI) <| wM <| wE (eP kV i (0 : Nat) (L := (ofNat (Int.natAbs (kK x))))) <| wE (yN uR) <| wE (mU gG gA ((ofNat (Int.natAbs (kK x))).getD i 0)) <| wE (kU uT) <| wR (uM xI) <| wM <| wE (eP kV j (0 : Nat) (L := (ofNat (Int.natAbs (kK y))))) <| wE (yN uR) <| wE (mU gG gA ((ofNat (Int.natAbs (kK y))).getD j 0)) <| wE (oMl (((ofNat (Int.natAbs (kK x))).getD i 0) * ((ofNat (Int.natAbs (kK y))).getD j 0))) <| wE (qQ ((o2.getD (i + j) 0) + (((ofNat (Int.natAbs (kK x))).getD i 0) * ((ofNat (Int.natAbs (kK y))).getD j 0)))) <| wM <| wE (qQ (((o2.getD (i + j) 0) + (((ofNat (Int.natAbs (kK x))).getD i 0) * ((ofNat (Int.natAbs (kK y))).getD j 0))) + c)) <| wM <| wZ) ?_
   refine jA <| kx [] [(3, some (bm jB (o2.set (i + j) ((((o2.getD (i + j) 0) + (((ofNat (Int.natAbs (kK x))).getD i 0) * ((ofNat (Int.natAbs (kK y))).getD j 0))) + c) % 1000000000))))] (zM <| zM <| zM <| zE (qQ (i + j)) <| zM <| zE (aI ((((o2.getD (i + j) 0) + (((ofNat (Int.natAbs (kK x))).getD i 0) * ((ofNat (Int.natAbs (kK y))).getD j 0))) + c) % 1000000000)) <| zE (mU nD hH ((((o2.getD (i + j) 0) + (((ofNat (Int.natAbs (kK x))).getD i 0) * ((ofNat (Int.natAbs (kK y))).getD j 0))) + c) % 1000000000)) <| zE (oXo kV (i + j)) <| zT (oSp uR (i + j) ((((o2.getD (i + j) 0) + (((ofNat (Int.natAbs (kK x))).getD i 0) * ((ofNat (Int.natAbs (kK y))).getD j 0))) + c) % 1000000000)) <| zZ) ?_
   refine kx [(7, (gQ ((((o2.getD (i + j) 0) + (((ofNat (Int.natAbs (kK x))).getD i 0) * ((ofNat (Int.natAbs (kK y))).getD j 0))) + c) / 1000000000)))] [] (zM <| zE (oQu ((((o2.getD (i + j) 0) + (((ofNat (Int.natAbs (kK x))).getD i 0) * ((ofNat (Int.natAbs (kK y))).getD j 0))) + c) / 1000000000)) <| zM <| zZ) ?_
   refine kx [(8, (kE (j + 1)))] [] (zM <| zE (qQ (j + 1)) <| zM <| zZ) ?_
   exact ⟨(j + 1, o2.set (i + j) ((o2.getD (i + j) 0 + (ofNat (Int.natAbs (kK x))).getD i 0 * (ofNat (Int.natAbs (kK y))).getD j 0 + c) % 1000000000), (o2.getD (i + j) 0 + (ofNat (Int.natAbs (kK x))).getD i 0 * (ofNat (Int.natAbs (kK y))).getD j 0 + c) / 1000000000), wk, (by obtain ⟨q1, q2⟩ := times_step (by omega) hdo2 hv2 rfl (val_take_succ _ j); exact ⟨by simpa using hlen2, q1, by omega, by omega, zero_set (by omega) hz2, q2⟩), (by first | omega | (dsimp only; omega))⟩
  ·replace h2 := of_decide_eq_false h2
   have hje : j = (ofNat (Int.natAbs (kK y))).length := by omega
   rw [hje] at hv2
   refine kQ <| kx [] [(3, some (bm jB (o2.set (i + (ofNat (Int.natAbs (kK y))).length) c)))] (zM <| zM <| zE (kU uT) <| zR (uM xI) <| zE (nC kV (L := (ofNat (Int.natAbs (kK y))))) <| zE (qQ (i + (ofNat (Int.natAbs (kK y))).length)) <| zM <| zE (mU nD hH c) <| zE (oXo kV (i + (ofNat (Int.natAbs (kK y))).length)) <| zT (oSp uR (i + (ofNat (Int.natAbs (kK y))).length) c) <| zZ) ?_
   refine kx [(6, (kE (i + 1)))] [] (zM <| zE (qQ (i + 1)) <| zM <| zZ) ?_
   exact ⟨(i + 1, o2.set (i + (ofNat (Int.natAbs (kK y))).length) c), wk, (by obtain ⟨q1, q2, q3, q4⟩ := times_row hdo2 (by omega) hlen2 hz2 hc hv2; exact ⟨q1, q2, by omega, q3, q4⟩), (by first | omega | (dsimp only; omega))⟩
 ·replace h1 := of_decide_eq_false h1
  have hie : i = (ofNat (Int.natAbs (kK x))).length := by omega
  rw [hie, List.take_length] at hv
  refine kQ <| jA <| kX (xY (t := 5) (k := 3) (es := List.map jB out) rfl rfl (xV _ _ (fun _ => rfl)) (xU _ _ vD) (yF _ _ (fun _ => rfl) vD)) ?_
  refine kx [] [(2, some (bx (jH (zI (!(((jK (kK x)).neg) == ((jK (kK y)).neg))) (val out)))))] (zE (kU uS) <| zR (uM eI) <| zE (kU uS) <| zR (uM eI) <| zE (oNb bo4) <| zM <| zE (kC (nJ (!(((jK (kK x)).neg) == ((jK (kK y)).neg))) out hdo (by omega))) <| zT (kR jI) <| zZ) ?_
  refine jG ⟨_, (qB (cs := (bx (jH (zI (!(((jK (kK x)).neg) == ((jK (kK y)).neg))) (val out))))) (d := (jH (zI (!(((jK (kK x)).neg) == ((jK (kK y)).neg))) (val out)))) rfl rfl jI rfl rfl .nil), ?_⟩
  rw [hv, rmul_eq]; rfl
theorem r_short (a : List Nat) (d : Nat) (hda : Dig a) (hd0 : 0 < d) (hd1 : d ≤ 1000000000) (hla : a.length ≤ 17592186044416) : kF Tryz.prog 189 [(.sl 152 1 (List.map jB a)), (.val (.int .u64 (((d : Nat) : Int))))] (.tup [(.sl 152 1 (List.map jB (ofNat (val a / d)))), (.val (.int .u64 ((((val a % d) : Nat) : Int))))]) := by
 refine jL Tryz.func189 rfl cb189 rfl ?_
 show uK _ _ _ _ ⟨[(0, (vl 152 1 jB a)), (1, (gQ d))], []⟩
 refine jA <| kx [] [] (zE (oNl 152 1) <| zM <| zZ) ?_
 refine jA <| kx [(6, (.own 0 152 1 a.length))] [(0, some (bm jB (List.replicate a.length 0)))] (zM <| zE (nC kV) <| zN (oMk 0 jB (0 : Nat) a.length a.length kV xP gH nT) <| zM <| zZ) ?_
 refine jA <| kx [(7, (gQ 0))] [] (zM <| zZ) ?_
 refine jA <| jA <| kx [(8, (vi (((a.length : Nat) : Int) - 1)))] [] (zM <| zE (nC kV) <| zE (aF (((a.length : Nat) : Int) - 1)) <| zM <| zZ) ?_
 refine jE <| uA (α := Nat × List Nat × Nat) (fun (k, q, zG) => ⟨[(0, (vl 152 1 jB a)), (1, (gQ d)), (6, (.own 0 152 1 a.length)), (7, (gQ zG)), (8, (vi (((k : Nat) : Int) - 1)))], [(0, some (bm jB q))]⟩) (fun (k, q, zG) => k ≤ a.length ∧ q.length = a.length ∧ Dig q ∧ zG < d ∧ val (a.drop k) = val (q.drop k) * d + zG) (fun (k, q, zG) => k) (a.length, List.replicate a.length 0, 0) wk ⟨Nat.le_refl _, by simp, yJ _, hd0, by simp [val]⟩ ?_
 rintro ⟨k, q, zG⟩ ⟨hk, vD, hdq, hr, hv⟩
 refine jA <| jA <| kx [(17, (vb (decide (0 ≤ (((k : Nat) : Int) - 1)))))] [] (zM <| zE oGe <| zZ) ?_
 refine jQ (b := decide (0 ≤ (((k : Nat) : Int) - 1))) rfl (fun h1 => ?_) (fun h1 => ?_)
 ·replace h1 := of_decide_eq_true h1
  obtain ⟨i, rfl⟩ : ∃ i, k = i + 1 := ⟨k - 1, by omega⟩
  rw [show (((i + 1 : Nat) : Int) - 1) = ((i : Nat) : Int) from by omega]
  have hg := hda.getD i
  obtain ⟨hb1, hb2⟩ := short_bound hr hd1 hg
  refine jD <| jA <| jE <| jA <| kx [(8, (kE i)), (9, (gQ ((zG * 1000000000) + (a.getD i 0))))] [] (zM <| zE (oMl (zG * 1000000000)) <| zM <| zM <| zE (eP kV i (0 : Nat)) <| zE (yN uR) <| zE (mU gG gA (a.getD i 0)) <| zE (qQ ((zG * 1000000000) + (a.getD i 0))) <| zM <| zZ) ?_
  refine jA <| kx [] [(0, some (bm jB (q.set i (((zG * 1000000000) + (a.getD i 0)) / d))))] (zM <| zM <| zM <| zM <| zE (oQu (((zG * 1000000000) + (a.getD i 0)) / d)) <| zE (mU nD hH (((zG * 1000000000) + (a.getD i 0)) / d)) <| zE (oXo kV i) <| zT (oSp uR i (((zG * 1000000000) + (a.getD i 0)) / d)) <| zZ) ?_
  refine kx [(7, (gQ (((zG * 1000000000) + (a.getD i 0)) % d)))] [] (zM <| zM <| zE (aI (((zG * 1000000000) + (a.getD i 0)) % d)) <| zM <| zZ) ?_
  refine kx [(8, (vi (((i : Nat) : Int) - 1)))] [] (zM <| zE (aF (((i : Nat) : Int) - 1)) <| zM <| zZ) ?_
  exact ⟨(i, q.set i ((zG * 1000000000 + a.getD i 0) / d), (zG * 1000000000 + a.getD i 0) % d), wk, ⟨by omega, by simpa using vD, hdq.set _ hb2, Nat.mod_lt _ hd0, rshort_step (by omega) hv rfl⟩, (by first | omega | (dsimp only; omega))⟩
 ·replace h1 := of_decide_eq_false h1
  obtain rfl : k = 0 := by omega
  obtain ⟨e1, e2⟩ := short_end (a := a) (q := q) (by rw [Nat.sub_self]; exact hv) hr
  refine kQ <| jA <| kX (xY (t := 6) (k := 0) (es := List.map jB q) rfl rfl (xV _ _ (fun _ => rfl)) (xU _ _ vD) (yF _ _ (fun _ => rfl) vD)) ?_
  refine kx [(4, (vl 152 1 jB (ofNat (val q)))), (5, (gQ zG))] [] (zM <| zE (kC (nJ false q (by first | assumption | exact qA _ | exact (uC _).1 | exact (uB _).1) (by omega))) <| zE (oF1 bK xI) <| zM <| zM <| zM <| zZ) ?_
  refine jG ⟨_, (.tmp (d := (.sl 152 1 (List.map jB (ofNat (val q))))) rfl (.tmp (d := (.val (.int .u64 (((zG : Nat) : Int))))) rfl .nil)), ?_⟩
  rw [← e1, ← e2]; rfl
theorem r_pair (l : List Nat) (hd : Dig l) (h2 : l.length ≤ 2) : kF Tryz.prog 149 [(.sl 152 1 (List.map jB l))] (.val (.int .u64 ((((val l) : Nat) : Int)))) := by
 have h0 := hd.getD 0
 have h1 := hd.getD 1
 refine jL Tryz.func149 rfl cb149 rfl ?_
 show uK _ _ _ _ ⟨[(0, (vl 152 1 jB l))], []⟩
 refine jA <| kx [] [] (zM <| zZ) ?_
 refine jA <| kx [(2, (gQ (((l.getD 1 0) * 1000000000) + (l.getD 0 0))))] [] (zM <| zE (kC (aV l 1 (by first | assumption | exact qA _ | exact (uC _).1 | exact (uB _).1))) <| zE (oMl ((l.getD 1 0) * 1000000000)) <| zM <| zE (kC (aV l 0 (by first | assumption | exact qA _ | exact (uC _).1 | exact (uB _).1))) <| zE (qQ (((l.getD 1 0) * 1000000000) + (l.getD 0 0))) <| zM <| zZ) ?_
 refine jG ⟨_, (.tmp (d := (.val (.int .u64 ((((((l.getD 1 0) * 1000000000) + (l.getD 0 0)) : Nat) : Int))))) rfl .nil), ?_⟩
 rw [val_pair h2]; rfl
theorem r_parts (a b : List Nat) (hda : gS a) (hdb : gS b) (hb0 : 0 < b.length) (hla : a.length ≤ 1099511627776) (hlb : b.length ≤ 1099511627776) : kF Tryz.prog 148 [(.sl 152 1 (List.map jB a)), (.sl 152 1 (List.map jB b))] (.tup [(.sl 152 1 (List.map jB (ofNat (val a / val b)))), (.sl 152 1 (List.map jB (ofNat (val a % val b))))]) := by
 have hsc := bT hdb hb0
 have htp := lB hdb hb0
 have hbp := cC hdb hb0
 refine jL Tryz.func148 rfl cb148 rfl ?_
 show uK _ _ _ _ ⟨[(0, (vl 152 1 jB a)), (1, (vl 152 1 jB b))], []⟩
 refine jA <| kx [] [] (zE (oNl 152 1) <| zE (oNl 152 1) <| zZ) ?_
 refine jA <| kx [(6, (kE b.length))] [] (zM <| zE (nC kV) <| zM <| zZ) ?_
 refine jA <| jA <| kx [(19, (vb (((b.length : Nat) : Int) == 1)))] [] (zM <| zE aO <| zZ) ?_
 refine jQ (b := (((b.length : Nat) : Int) == 1)) rfl (fun h1 => ?_) (fun h1 => ?_)
 ·replace h1 := eq_of_beq h1
  have hg0 := hdb.1.getD 0
  have hv1 := val_len1 (b := b) (by omega)
  have hb00 : 0 < b.getD 0 0 := by omega
  have hrl : val a % b.getD 0 0 < 1000000000 := Nat.lt_trans (Nat.mod_lt _ hb00) (by omega)
  refine jA <| kx [(7, (vl 152 1 jB (ofNat (val a / (b.getD 0 0))))), (8, (gQ (val a % (b.getD 0 0))))] [] (zM <| zM <| zE (eP kV 0 (0 : Nat)) <| zE (yN uR) <| zE (mU gG gA (b.getD 0 0)) <| zE (kC (r_short a (b.getD 0 0) hda.1 (by omega) (by omega) (by omega))) <| zM <| zE uH <| zE uH <| zM <| zM <| zZ) ?_
  refine jA <| kx [(4, (vl 152 1 jB (ofNat (val a / (b.getD 0 0))))), (5, (vl 152 1 jB (ofNat (val [(val a % (b.getD 0 0))]))))] [] (zM <| zM <| zE (mU nD hH (val a % (b.getD 0 0))) <| zE (cP kV xP gH) <| zE (kC (nJ false [(val a % (b.getD 0 0))] (gI.2 ⟨by omega, hO⟩) (by simp))) <| zE (oF1 bK xI) <| zM <| zM <| zZ) ?_
  refine jG ⟨_, (.tmp (d := (.sl 152 1 (List.map jB (ofNat (val a / (b.getD 0 0)))))) rfl (.tmp (d := (.sl 152 1 (List.map jB (ofNat (val [(val a % (b.getD 0 0))]))))) rfl .nil)), ?_⟩
  rw [hv1, cY]; rfl
 ·replace h1 := ne_of_beq_false h1
  refine jD <| jA <| jA <| kx [(38, (vb (decide ((xC ((val a : Nat) : Int) ((val b : Nat) : Int)) < 0))))] [] (zM <| zM <| zE (kC (r_size a b (by first | assumption | exact uC _ | exact uB _) (by first | assumption | exact uC _ | exact uB _) (by omega) (by omega))) <| zE qS <| zZ) ?_
  refine jQ rfl (fun h2 => ?_) (fun h2 => ?_)
  ·replace h2 := of_decide_eq_true h2
   refine jA <| kx [(4, (vl 152 1 jB [])), (5, (vl 152 1 jB a))] [] (zE (cP kV xP gH) <| zM <| zM <| zM <| zZ) ?_
   refine jG ⟨_, (.tmp (d := (.sl 152 1 (List.map jB []))) rfl (.tmp (d := (.sl 152 1 (List.map jB a))) rfl .nil)), ?_⟩
   have hlt := cmpI_neg h2
   rw [Nat.div_eq_of_lt hlt, Nat.mod_eq_of_lt hlt, vU, ← can_eq hda]; rfl
  ·replace h2 := of_decide_eq_false h2
   obtain ⟨u, hue⟩ : ∃ u, u = ofNat (val a * cZ b) := ⟨_, rfl⟩
   obtain ⟨v, hve⟩ : ∃ v, v = ofNat (val b * cZ b) := ⟨_, rfl⟩
   have hu : Dig u := by rw [hue]; exact qA _
   have hcv : gS v := by rw [hve]; exact uC _
   have hvd := hcv.1
   have hvl : v.length = b.length := by rw [hve]; exact scl_len hdb hb0
   have hvv : val v = val b * cZ b := by rw [hve]; exact kW _
   have huv : val u = val a * cZ b := by rw [hue]; exact kW _
   have hab := len_of_le hda hdb (cmpI_nn h2)
   have hul : a.length ≤ u.length ∧ u.length ≤ a.length + 1 := by rw [hue]; exact scl_lenA hda hdb hb0
   have hvp := cC hcv (by omega)
   have hpv : pw (b.length - 1) ≤ val v := by have h1 := val_top hvd (by omega); have h3 := lB hcv (by omega); rw [hvl] at h1 h3; have h2 := Nat.mul_le_mul_right (pw (b.length - 1)) h3.1; omega
   refine jD <| jA <| kx [(9, (gQ (cZ b)))] [] (zM <| zM <| zE (oSb (b.length - 1)) <| zE (eP kV (b.length - 1) (0 : Nat)) <| zE (yN uR) <| zE (mU gG gA (b.getD (b.length - 1) 0)) <| zE (qQ ((b.getD (b.length - 1) 0) + 1)) <| zE (oQu (cZ b) (hr := by exact (quo_u64 1000000000 (b.getD (b.length - 1) 0 + 1) (by decide)))) <| zM <| zZ) ?_
   refine jA <| kx [(0, (vl 152 1 jB u)), (1, (vl 152 1 jB v))] [] (zM <| zM <| zE (kC (hue ▸ r_scaled a (cZ b) hda.1 (by omega) (by omega))) <| zM <| zM <| zE (kC (hve ▸ r_scaled b (cZ b) hdb.1 (by omega) (by omega))) <| zM <| zM <| zZ) ?_
   refine jA <| kx [(10, (vl 152 1 jB (ofNat (val (List.drop ((u.length - b.length) + 1) u)))))] [] (zM <| zM <| zE (nC kV) <| zM <| zE (oSb (u.length - b.length)) <| zE (qQ ((u.length - b.length) + 1)) <| zE (e_slc (l := ((u.length - b.length) + 1)) (h := (List.map jB u).length) (kl := .i64) (kh := .i64) (es' := List.map jB (List.drop ((u.length - b.length) + 1) u)) (by exact rfl) kV (by exact rfl) (by exact rfl) (by exact rfl) (by simp only [List.length_map]; omega) (Nat.le_refl _) (by rw [List.take_length, List.map_drop])) <| zE (kC (nJ false (List.drop ((u.length - b.length) + 1) u) (hu.drop _) (by rw [List.length_drop]; omega))) <| zE (oF1 bK xI) <| zM <| zZ) ?_
   refine jA <| kx [(11, (.own 0 152 1 ((u.length - b.length) + 1)))] [(0, some (bm jB (List.replicate ((u.length - b.length) + 1) 0)))] (zM <| zE (nC kV) <| zM <| zE (oSb (u.length - b.length)) <| zE (qQ ((u.length - b.length) + 1)) <| zN (oMk 0 jB (0 : Nat) ((u.length - b.length) + 1) ((u.length - b.length) + 1) kV xP gH nT) <| zM <| zZ) ?_
   refine jA <| jA <| kx [(12, (vi ((((u.length - b.length) + 1 : Nat) : Int) - 1)))] [] (zM <| zE (nC kV) <| zM <| zE (aF ((((u.length - b.length) + 1 : Nat) : Int) - 1)) <| zM <| zZ) ?_
   refine jE <| uA (α := Nat × List Nat × List Nat) (fun (k, r, q) => ⟨[(0, (vl 152 1 jB u)), (1, (vl 152 1 jB v)), (6, (kE b.length)), (9, (gQ (cZ b))), (10, (vl 152 1 jB r)), (11, (.own 0 152 1 ((u.length - b.length) + 1))), (12, (vi (((k : Nat) : Int) - 1)))], [(0, some (bm jB q))]⟩) (fun (k, r, q) => gS r ∧ k ≤ ((u.length - b.length) + 1) ∧ q.length = ((u.length - b.length) + 1) ∧ Dig q ∧ val r < val v ∧ val (u.drop k) = val v * val (q.drop k) + val r) (fun (k, r, q) => k) (((u.length - b.length) + 1), ofNat (val (List.drop ((u.length - b.length) + 1) u)), List.replicate ((u.length - b.length) + 1) 0) wk ⟨uC _, Nat.le_refl _, by simp, yJ _, by rw [kW]; have h7 := xS (hu.drop ((u.length - b.length) + 1)); rw [List.length_drop, show u.length - ((u.length - b.length) + 1) = b.length - 1 by omega] at h7; omega, by rw [kW]; simp [val]⟩ ?_
   rintro ⟨k, r, q⟩ ⟨hrc, hk, hql, hqd, hr, hv⟩
   refine jA <| jA <| kx [(75, (vb (decide (0 ≤ (((k : Nat) : Int) - 1)))))] [] (zM <| zE oGe <| zZ) ?_
   refine jQ (b := decide (0 ≤ (((k : Nat) : Int) - 1))) rfl (fun h3 => ?_) (fun h3 => ?_)
   ·replace h3 := of_decide_eq_true h3
    obtain ⟨i, rfl⟩ : ∃ i, k = i + 1 := ⟨k - 1, by omega⟩
    rw [show (((i + 1 : Nat) : Int) - 1) = ((i : Nat) : Int) from by omega]
    have hgu := hu.getD i
    have hW : (u.getD i 0 + 1000000000 * val r) < 1000000000 * val v := by omega
    have hrs := rshift_val u hv
    obtain ⟨hg1, hg2⟩ := rguess hvd hvl hb0 hW
    have hgv := hvd.getD (b.length - 1)
    have hgw1 := (qA (u.getD i 0 + 1000000000 * val r)).getD b.length
    have hgw2 := (qA (u.getD i 0 + 1000000000 * val r)).getD (b.length - 1)
    have hrl : r.length ≤ b.length := by have h9 := zP (Nat.le_of_lt hr); rwa [← can_eq hrc, ← can_eq hcv, hvl] at h9
    have hwl : (ofNat (u.getD i 0 + 1000000000 * val r)).length ≤ b.length + 1 := vH (by rw [vV]; have := xS hvd; rw [hvl] at this; omega)
    refine jD <| jA <| jE <| jA <| kx [(10, (vl 152 1 jB (ofNat ((u.getD i 0) + 1000000000 * val r)))), (12, (kE i))] [] (zM <| zM <| zM <| zE (eP kV i (0 : Nat)) <| zE (yN uR) <| zE (kC (r_shifted r (u.getD i 0) hrc.1 (by omega) (by omega))) <| zM <| zZ) ?_
    refine jA <| kd [(13, (gQ (((((ofNat ((u.getD i 0) + 1000000000 * val r)).getD b.length 0) * 1000000000) + ((ofNat ((u.getD i 0) + 1000000000 * val r)).getD (b.length - 1) 0)) / ((v.getD (b.length - 1) 0) + 1))))] [] mo (wM <| wM <| wE (kC (aV (ofNat ((u.getD i 0) + 1000000000 * val r)) b.length (qA _))) <| wE (oMl (((ofNat ((u.getD i 0) + 1000000000 * val r)).getD b.length 0) * 1000000000)) <| wM <| wM <| wE (oSb (b.length - 1)) <| wE (kC (aV (ofNat ((u.getD i 0) + 1000000000 * val r)) (b.length - 1) (by first | assumption | exact qA _ | exact (uC _).1 | exact (uB _).1))) <| wE (qQ ((((ofNat ((u.getD i 0) + 1000000000 * val r)).getD b.length 0) * 1000000000) + ((ofNat ((u.getD i 0) + 1000000000 * val r)).getD (b.length - 1) 0))) <| wM <| wM <| wE (oSb (b.length - 1)) <| wE (eP kV (b.length - 1) (0 : Nat)) <| wE (yN uR) <| wE (mU gG gA (v.getD (b.length - 1) 0)) <| wE (qQ ((v.getD (b.length - 1) 0) + 1)) <| wE (oQu (((((ofNat ((u.getD i 0) + 1000000000 * val r)).getD b.length 0) * 1000000000) + ((ofNat ((u.getD i 0) + 1000000000 * val r)).getD (b.length - 1) 0)) / ((v.getD (b.length - 1) 0) + 1))) <| wM <| wZ) ?_
    refine jA <| kx [(10, (vl 152 1 jB (ofNat (val (ofNat ((u.getD i 0) + 1000000000 * val r)) - val (ofNat (val v * (((((ofNat ((u.getD i 0) + 1000000000 * val r)).getD b.length 0) * 1000000000) + ((ofNat ((u.getD i 0) + 1000000000 * val r)).getD (b.length - 1) 0)) / ((v.getD (b.length - 1) 0) + 1))))))))] [] (zM <| zM <| zM <| zE (kC (r_scaled v (((((ofNat ((u.getD i 0) + 1000000000 * val r)).getD b.length 0) * 1000000000) + ((ofNat ((u.getD i 0) + 1000000000 * val r)).getD (b.length - 1) 0)) / ((v.getD (b.length - 1) 0) + 1)) hvd (by omega) (by omega))) <| zE (kC (r_minus (ofNat ((u.getD i 0) + 1000000000 * val r)) (ofNat (val v * (((((ofNat ((u.getD i 0) + 1000000000 * val r)).getD b.length 0) * 1000000000) + ((ofNat ((u.getD i 0) + 1000000000 * val r)).getD (b.length - 1) 0)) / ((v.getD (b.length - 1) 0) + 1)))) (qA _) (qA _) (by rw [kW, kW, Nat.mul_comm]; exact hg1) (by omega))) <| zM <| zZ) ?_
    refine jA <| jE <| uA (α := Nat × List Nat) (fun (G, r2) => ⟨[(0, (vl 152 1 jB u)), (1, (vl 152 1 jB v)), (6, (kE b.length)), (9, (gQ (cZ b))), (10, (vl 152 1 jB r2)), (11, (.own 0 152 1 ((u.length - b.length) + 1))), (12, (kE i)), (13, (gQ G))], [(0, some (bm jB q))]⟩) (fun (G, r2) => gS r2 ∧ val v * G + val r2 = (u.getD i 0 + 1000000000 * val r)) (fun (G, r2) => val r2) ((((ofNat (u.getD i 0 + 1000000000 * val r)).getD b.length 0 * 1000000000 + (ofNat (u.getD i 0 + 1000000000 * val r)).getD (b.length - 1) 0) / (v.getD (b.length - 1) 0 + 1)), ofNat (val (ofNat (u.getD i 0 + 1000000000 * val r)) - val (ofNat (val v * (((ofNat (u.getD i 0 + 1000000000 * val r)).getD b.length 0 * 1000000000 + (ofNat (u.getD i 0 + 1000000000 * val r)).getD (b.length - 1) 0) / (v.getD (b.length - 1) 0 + 1)))))) wk ⟨uC _, by rw [kW, kW, kW]; rw [Nat.mul_comm] at hg1; omega⟩ ?_
    rintro ⟨G, r2⟩ ⟨hr2, hr2v⟩
    have hr2l : r2.length ≤ b.length + 1 := by have h9 := zP (show val r2 ≤ (u.getD i 0 + 1000000000 * val r) by omega); rw [← can_eq hr2] at h9; omega
    refine jA <| jA <| kx [(109, (vb (decide (0 ≤ (xC ((val r2 : Nat) : Int) ((val v : Nat) : Int))))))] [] (zM <| zM <| zE (kC (r_size r2 v hr2 hcv (by omega) (by omega))) <| zE oGe <| zZ) ?_
    refine jQ rfl (fun h4 => ?_) (fun h4 => ?_)
    ·replace h4 := of_decide_eq_true h4
     have hge := lA h4
     have hG := rquo_lt hr2v hW
     have hr2l : r2.length ≤ b.length + 1 := by have h9 := zP (show val r2 ≤ (u.getD i 0 + 1000000000 * val r) by omega); rw [← can_eq hr2] at h9; omega
     refine jD <| jE <| jA <| kx [(10, (vl 152 1 jB (ofNat (val r2 - val v))))] [] (zM <| zM <| zE (kC (r_minus r2 v hr2.1 hvd (by omega) (by omega))) <| zM <| zZ) ?_
     refine kx [(13, (gQ (G + 1)))] [] (zM <| zE (qQ (G + 1)) <| zM <| zZ) ?_
     exact ⟨(G + 1, ofNat (val r2 - val v)), wk, (by have hge := lA h4; exact ⟨uC _, by rw [kW, Nat.mul_add, Nat.mul_one]; omega⟩), (by have hge := lA h4; dsimp only; rw [kW]; omega)⟩
    ·replace h4 := of_decide_eq_false h4
     have hG := rquo_lt hr2v hW
     have hlt : val r2 < val v := by have h9 := cmpI_lt h4; omega
     refine kQ <| kx [] [(0, some (bm jB (q.set i G)))] (zM <| zM <| zM <| zE (mU nD hH G) <| zE (oXo kV i) <| zT (oSp uR i G) <| zZ) ?_
     refine kx [(12, (vi (((i : Nat) : Int) - 1)))] [] (zM <| zE (aF (((i : Nat) : Int) - 1)) <| zM <| zZ) ?_
     exact ⟨(i, r2, q.set i G), wk, ⟨hr2, by omega, by simpa using hql, hqd.set _ hG, hlt, rround (by omega) (by rw [hr2v]; exact hrs)⟩, (by first | omega | (dsimp only; omega))⟩
   ·replace h3 := of_decide_eq_false h3
    obtain rfl : k = 0 := by omega
    obtain ⟨e1, e2⟩ := scl_div (a := a) (b := b) (q := q) (u := r) hdb hb0 (by rw [List.drop_zero, List.drop_zero] at hv; rw [mX, Nat.one_mul, List.drop_zero, ← huv, ← hvv, hv]; omega) (by rw [List.drop_zero, ← hvv]; exact hr)
    have hrl : r.length ≤ b.length := by have h9 := zP (Nat.le_of_lt hr); rwa [← can_eq hrc, ← can_eq hcv, hvl] at h9
    refine kQ <| jA <| kx [(14, (vl 152 1 jB (ofNat (val r / (cZ b)))))] [] (zM <| zM <| zE (kC (r_short r (cZ b) hrc.1 (by omega) (by omega) (by omega))) <| zM <| zE uH <| zE uH <| zM <| zM <| zZ) ?_
    refine jA <| kX (xY (t := 11) (k := 0) (es := List.map jB q) rfl rfl (xV _ _ (fun _ => rfl)) (xU _ _ hql) (yF _ _ (fun _ => rfl) hql)) ?_
    refine kx [(4, (vl 152 1 jB (ofNat (val q)))), (5, (vl 152 1 jB (ofNat (val r / (cZ b)))))] [] (zM <| zE (kC (nJ false q hqd (by omega))) <| zE (oF1 bK xI) <| zM <| zM <| zM <| zZ) ?_
    refine jG ⟨_, (.tmp (d := (.sl 152 1 (List.map jB (ofNat (val q))))) rfl (.tmp (d := (.sl 152 1 (List.map jB (ofNat (val r / (cZ b)))))) rfl .nil)), ?_⟩
    rw [← e1, ← e2]; rfl
end Go.Proofs.YtbecgnplakngdaaGreat
