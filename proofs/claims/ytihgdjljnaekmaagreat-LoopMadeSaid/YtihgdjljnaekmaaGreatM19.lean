/- Part 19 of a proof: rules, plain facts, and functions walked. -/
import Derived.Test.YtihgdjljnaekmaaGreatM18
namespace Go.Proofs.YtihgdjljnaekmaaGreat
open Go.Fid
set_option maxRecDepth 4000
set_option linter.unusedVariables false
set_option linter.unusedSimpArgs false
theorem cb62 : callB Tryz.prog 62 = true := by kernel_rfl
theorem cb162 : callB Tryz.prog 162 = true := by kernel_rfl
theorem cb163 : callB Tryz.prog 163 = true := by kernel_rfl
theorem cb165 : callB Tryz.prog 165 = true := by kernel_rfl
theorem cb168 : callB Tryz.prog 168 = true := by kernel_rfl
theorem cb183 : callB Tryz.prog 183 = true := by kernel_rfl
theorem cb186 : callB Tryz.prog 186 = true := by kernel_rfl
theorem cb187 : callB Tryz.prog 187 = true := by kernel_rfl
theorem r_neg (x : kG) (hx : x.gs.length ≤ 1099511627776) : jZ Tryz.prog 183 [(jJ x)] (jJ (jR (-jS x))) := by
 have hvx := mP x
 refine jL Tryz.func183 rfl cb183 rfl ?_
 show qS _ _ _ _ ⟨[(0, (.d (jJ x)))], []⟩
 refine jA <| kx [(1, (.ref 0 0)), (2, (.ref 1 0))] [(0, some (bx (jJ x))), (1, some (bx (jJ (kG.mk false []))))] (zN (zL 0) <| zN (uQ 1 uN uM) <| zZ) ?_
 refine jA <| kx [] [(0, some (bx (jJ (jR (jS x)))))] (zR (kT jM) <| zE (kD (nH x (by omega))) <| zT (kZ jM) <| zZ) ?_
 refine jA <| kx [] [(1, some (bx (jJ (vH (!((jR (jS x)).neg)) (val (ofNat (Int.natAbs (jS x))))))))] (zE (kQ uW) <| zR (kM cZ) <| zE oNt <| zE (kQ vD) <| zR (kM xE) <| zE (kD (yR (!((jR (jS x)).neg)) (ofNat (Int.natAbs (jS x))) (by first | assumption | exact jY _ | exact (kO _).1 | exact (kR _).1) (by omega))) <| zT (kZ jM) <| zZ) ?_
 refine jI ⟨_, (kS (cs := (bx (jJ (vH (!((jR (jS x)).neg)) (val (ofNat (Int.natAbs (jS x)))))))) (d := (jJ (vH (!((jR (jS x)).neg)) (val (ofNat (Int.natAbs (jS x))))))) rfl rfl jM rfl rfl .nil), ?_⟩
 rw [← rneg_eq]; rfl
theorem r_sign (x : kG) (hx : x.gs.length ≤ 1099511627776) : jZ Tryz.prog 62 [(jJ x)] (.val (.int .i64 ((kF (jS x))))) := by
 have hvx := mP x
 refine jL Tryz.func62 rfl cb62 rfl ?_
 show qS _ _ _ _ ⟨[(0, (.d (jJ x)))], []⟩
 refine jA <| kx [(1, (.ref 0 0))] [(0, some (bx (jJ x)))] (zN (zL 0) <| zM <| zZ) ?_
 refine jA <| kx [] [(0, some (bx (jJ (jR (jS x)))))] (zR (kT jM) <| zE (kD (nH x (by omega))) <| zT (kZ jM) <| zZ) ?_
 refine jA <| jA <| kx [(8, (vb ((((ofNat (Int.natAbs (jS x))).length : Nat) : Int) == 0)))] [] (zE (kQ vD) <| zR (kM xE) <| zE (xA kC (L := (ofNat (Int.natAbs (jS x))))) <| zE gF <| zZ) ?_
 refine jG rfl (fun h1 => ?_) (fun h1 => ?_)
 ·replace h1 := eq_of_beq h1
  refine jA <| kx [(2, (jQ 0))] [] (zM <| zZ) ?_
  refine jI ⟨_, (.tmp (d := (.val (.int .i64 (0)))) rfl .nil), ?_⟩
  rw [rsign_zero h1]; rfl
 ·replace h1 := ne_of_beq_false h1
  refine jF <| jA <| jA <| kx [(10, (vb ((jR (jS x)).neg)))] [] (zE (kQ uW) <| zR (kM cZ) <| zZ) ?_
  refine jG (b := (jR (jS x)).neg) rfl (fun h2 => ?_) (fun h2 => ?_)
  ·refine jA <| kx [(2, (vi (-1)))] [] (zM <| zZ) ?_
   refine jI ⟨_, (.tmp (d := (.val (.int .i64 (-1)))) rfl .nil), ?_⟩
   rw [rsign_neg h1 h2]; rfl
  ·refine jF <| jA <| kx [(2, (jQ 1))] [] (zM <| zZ) ?_
   refine jI ⟨_, (.tmp (d := (.val (.int .i64 (1)))) rfl .nil), ?_⟩
   rw [rsign_pos h1 h2]; rfl
theorem r_add (x : kG) (y : kG) (hx : x.gs.length ≤ 1099511627776) (hy : y.gs.length ≤ 1099511627776) : jZ Tryz.prog 186 [(jJ x), (jJ y)] (jJ (jR (jS x + jS y))) := by
 have hvx := mP x
 have hvy := mP y
 refine jL Tryz.func186 rfl cb186 rfl ?_
 show qS _ _ _ _ ⟨[(0, (.d (jJ x))), (1, (.d (jJ y)))], []⟩
 refine jA <| kx [(2, (.ref 0 0)), (3, (.ref 1 0)), (4, (.ref 2 0))] [(0, some (bx (jJ x))), (1, some (bx (jJ y))), (2, some (bx (jJ (kG.mk false []))))] (zN (zL 0) <| zN (zL 1) <| zN (uQ 2 uN uM) <| zZ) ?_
 refine jA <| kd [] [(0, some (bx (jJ (jR (jS x))))), (1, some (bx (jJ (jR (jS y)))))] mo (wR (kT jM) <| wE (kD (nH x (by omega))) <| wR (kT jM) <| wE (kD (nH y (by omega))) <| wT (kZ jM) <| wT (kZ jM) <| wZ) ?_
 refine jA <| jA <| kx [(13, (vb (((jR (jS x)).neg) == ((jR (jS y)).neg))))] [] (zE (kQ uW) <| zR (kM cZ) <| zE (kQ uW) <| zR (kM cZ) <| zE (oEb bo4) <| zZ) ?_
 refine jG rfl (fun h1 => ?_) (fun h1 => ?_)
 ·replace h1 := eq_of_beq h1
  refine jA <| kd [] [(2, some (bx (jJ (vH ((jR (jS x)).neg) (val (ofNat (val (ofNat (Int.natAbs (jS x))) + val (ofNat (Int.natAbs (jS y))))))))))] mo (wE (kQ uW) <| wR (kM cZ) <| wE (kQ vD) <| wR (kM xE) <| wE (kQ vD) <| wR (kM xE) <| wE (kD (r_plus (ofNat (Int.natAbs (jS x))) (ofNat (Int.natAbs (jS y))) (by first | assumption | exact jY _ | exact (kO _).1 | exact (kR _).1) (by first | assumption | exact jY _ | exact (kO _).1 | exact (kR _).1) (by omega) (by omega))) <| wE (kD (yR ((jR (jS x)).neg) (ofNat (val (ofNat (Int.natAbs (jS x))) + val (ofNat (Int.natAbs (jS y))))) (by first | assumption | exact jY _ | exact (kO _).1 | exact (kR _).1) (by first | omega | exact Nat.le_trans (add_len (jY _) (jY _)) (by omega) | exact Nat.le_trans (sub_len (jY _)) (by omega)))) <| wT (kZ jM) <| wZ) ?_
  refine jI ⟨_, (kS (cs := (bx (jJ (vH ((jR (jS x)).neg) (val (ofNat (val (ofNat (Int.natAbs (jS x))) + val (ofNat (Int.natAbs (jS y)))))))))) (d := (jJ (vH ((jR (jS x)).neg) (val (ofNat (val (ofNat (Int.natAbs (jS x))) + val (ofNat (Int.natAbs (jS y))))))))) rfl rfl jM rfl rfl .nil), ?_⟩
  rw [← rsum_same h1]; rfl
 ·replace h1 := ne_of_beq_false h1
  refine jF <| jA <| jA <| kx [(27, (vb (decide (0 ≤ (qY ((val (ofNat (Int.natAbs (jS x))) : Nat) : Int) ((val (ofNat (Int.natAbs (jS y))) : Nat) : Int))))))] [] (zE (kQ vD) <| zR (kM xE) <| zE (kQ vD) <| zR (kM xE) <| zE (kD (r_size (ofNat (Int.natAbs (jS x))) (ofNat (Int.natAbs (jS y))) (by first | assumption | exact kO _ | exact kR _) (by first | assumption | exact kO _ | exact kR _) (by omega) (by omega))) <| zE oGe <| zZ) ?_
  refine jG rfl (fun h2 => ?_) (fun h2 => ?_)
  ·replace h2 := of_decide_eq_true h2
   refine jA <| kd [] [(2, some (bx (jJ (vH ((jR (jS x)).neg) (val (ofNat (val (ofNat (Int.natAbs (jS x))) - val (ofNat (Int.natAbs (jS y))))))))))] mo (wE (kQ uW) <| wR (kM cZ) <| wE (kQ vD) <| wR (kM xE) <| wE (kQ vD) <| wR (kM xE) <| wE (kD (r_minus (ofNat (Int.natAbs (jS x))) (ofNat (Int.natAbs (jS y))) (by first | assumption | exact jY _ | exact (kO _).1 | exact (kR _).1) (by first | assumption | exact jY _ | exact (kO _).1 | exact (kR _).1) (by have := dW h2; omega) (by omega))) <| wE (kD (yR ((jR (jS x)).neg) (ofNat (val (ofNat (Int.natAbs (jS x))) - val (ofNat (Int.natAbs (jS y))))) (by first | assumption | exact jY _ | exact (kO _).1 | exact (kR _).1) (by first | omega | exact Nat.le_trans (add_len (jY _) (jY _)) (by omega) | exact Nat.le_trans (sub_len (jY _)) (by omega)))) <| wT (kZ jM) <| wZ) ?_
   refine jI ⟨_, (kS (cs := (bx (jJ (vH ((jR (jS x)).neg) (val (ofNat (val (ofNat (Int.natAbs (jS x))) - val (ofNat (Int.natAbs (jS y)))))))))) (d := (jJ (vH ((jR (jS x)).neg) (val (ofNat (val (ofNat (Int.natAbs (jS x))) - val (ofNat (Int.natAbs (jS y))))))))) rfl rfl jM rfl rfl .nil), ?_⟩
   rw [← rsum_first h1 (by have := dW h2; omega)]; rfl
  ·replace h2 := of_decide_eq_false h2
   refine jF <| jA <| kd [] [(2, some (bx (jJ (vH ((jR (jS y)).neg) (val (ofNat (val (ofNat (Int.natAbs (jS y))) - val (ofNat (Int.natAbs (jS x))))))))))] mo (wE (kQ uW) <| wR (kM cZ) <| wE (kQ vD) <| wR (kM xE) <| wE (kQ vD) <| wR (kM xE) <| wE (kD (r_minus (ofNat (Int.natAbs (jS y))) (ofNat (Int.natAbs (jS x))) (by first | assumption | exact jY _ | exact (kO _).1 | exact (kR _).1) (by first | assumption | exact jY _ | exact (kO _).1 | exact (kR _).1) (by have := cmpI_lt h2; omega) (by omega))) <| wE (kD (yR ((jR (jS y)).neg) (ofNat (val (ofNat (Int.natAbs (jS y))) - val (ofNat (Int.natAbs (jS x))))) (by first | assumption | exact jY _ | exact (kO _).1 | exact (kR _).1) (by first | omega | exact Nat.le_trans (add_len (jY _) (jY _)) (by omega) | exact Nat.le_trans (sub_len (jY _)) (by omega)))) <| wT (kZ jM) <| wZ) ?_
   refine jI ⟨_, (kS (cs := (bx (jJ (vH ((jR (jS y)).neg) (val (ofNat (val (ofNat (Int.natAbs (jS y))) - val (ofNat (Int.natAbs (jS x)))))))))) (d := (jJ (vH ((jR (jS y)).neg) (val (ofNat (val (ofNat (Int.natAbs (jS y))) - val (ofNat (Int.natAbs (jS x))))))))) rfl rfl jM rfl rfl .nil), ?_⟩
   rw [← rsum_second h1 (by have := cmpI_lt h2; omega)]; rfl
theorem r_sub (x : kG) (y : kG) (hx : x.gs.length ≤ 1099511627776) (hy : y.gs.length ≤ 1099511627776) : jZ Tryz.prog 162 [(jJ x), (jJ y)] (jJ (jR (jS x - jS y))) := by
 have hv := gs_neg y
 refine jL Tryz.func162 rfl cb162 rfl ?_
 show qS _ _ _ _ ⟨[(0, (.d (jJ x))), (1, (.d (jJ y)))], []⟩
 refine jA <| kx [(2, (.ref 0 0)), (3, (.ref 1 0)), (4, (.ref 2 0))] [(0, some (bx (jJ x))), (1, some (bx (jJ y))), (2, some (bx (jJ (kG.mk false []))))] (zN (zL 0) <| zN (zL 1) <| zN (uQ 2 uN uM) <| zZ) ?_
 refine jA <| kd [] [(2, some (bx (jJ (jR (jS x + jS (jR (-jS y)))))))] mo (wR (kT jM) <| wR (kT jM) <| wE (kD (r_neg y (by omega))) <| wE (kD (r_add x (jR (-jS y)) (by omega) (by omega))) <| wT (kZ jM) <| wZ) ?_
 refine jI ⟨_, (kS (cs := (bx (jJ (jR (jS x + jS (jR (-jS y))))))) (d := (jJ (jR (jS x + jS (jR (-jS y)))))) rfl rfl jM rfl rfl .nil), ?_⟩
 rw [gZ, ← Int.sub_eq_add_neg]; rfl
theorem r_mul (x : kG) (y : kG) (hx : x.gs.length ≤ 1099511627776) (hy : y.gs.length ≤ 1099511627776) : jZ Tryz.prog 168 [(jJ x), (jJ y)] (jJ (jR (jS x * jS y))) := by
 have hvx := mP x
 have hvy := mP y
 have hda := jY (Int.natAbs (jS x))
 have hdb := jY (Int.natAbs (jS y))
 refine jL Tryz.func168 rfl cb168 rfl ?_
 show qS _ _ _ _ ⟨[(0, (.d (jJ x))), (1, (.d (jJ y)))], []⟩
 refine jA <| kx [(2, (.ref 0 0)), (3, (.ref 1 0)), (4, (.ref 2 0))] [(0, some (bx (jJ x))), (1, some (bx (jJ y))), (2, some (bx (jJ (kG.mk false []))))] (zN (zL 0) <| zN (zL 1) <| zN (uQ 2 uN uM) <| zZ) ?_
 refine jA <| kd [] [(0, some (bx (jJ (jR (jS x))))), (1, some (bx (jJ (jR (jS y)))))] mo (wR (kT jM) <| wE (kD (nH x (by omega))) <| wR (kT jM) <| wE (kD (nH y (by omega))) <| wT (kZ jM) <| wT (kZ jM) <| wZ) ?_
 refine jA <| kx [(5, (.own 3 135 1 ((ofNat (Int.natAbs (jS x))).length + (ofNat (Int.natAbs (jS y))).length)))] [(3, some (bm jD (List.replicate ((ofNat (Int.natAbs (jS x))).length + (ofNat (Int.natAbs (jS y))).length) 0)))] (zE (kQ vD) <| zR (kM xE) <| zE (xA kC (L := (ofNat (Int.natAbs (jS x))))) <| zE (kQ vD) <| zR (kM xE) <| zE (xA kC (L := (ofNat (Int.natAbs (jS y))))) <| zE (qQ ((ofNat (Int.natAbs (jS x))).length + (ofNat (Int.natAbs (jS y))).length)) <| zN (oMk 3 jD (0 : Nat) ((ofNat (Int.natAbs (jS x))).length + (ofNat (Int.natAbs (jS y))).length) ((ofNat (Int.natAbs (jS x))).length + (ofNat (Int.natAbs (jS y))).length) kC uU xP gB) <| zM <| zZ) ?_
 refine jA <| jA <| kx [(6, (jQ 0))] [] (zM <| zZ) ?_
 refine jH <| kH (α := Nat × List Nat) (fun (i, out) => ⟨[(2, (.ref 0 0)), (3, (.ref 1 0)), (4, (.ref 2 0)), (5, (.own 3 135 1 ((ofNat (Int.natAbs (jS x))).length + (ofNat (Int.natAbs (jS y))).length))), (6, (jQ i))], [(0, some (bx (jJ (jR (jS x))))), (1, some (bx (jJ (jR (jS y))))), (2, some (bx (jJ (kG.mk false [])))), (3, some (bm jD out))]⟩) (fun (i, out) => out.length = (ofNat (Int.natAbs (jS x))).length + (ofNat (Int.natAbs (jS y))).length ∧ Dig out ∧ i ≤ (ofNat (Int.natAbs (jS x))).length ∧ (∀ k, i + (ofNat (Int.natAbs (jS y))).length ≤ k → out.getD k 0 = 0) ∧ val out = val ((ofNat (Int.natAbs (jS x))).take i) * val (ofNat (Int.natAbs (jS y)))) (fun (i, out) => (ofNat (Int.natAbs (jS x))).length - i) (0, List.replicate ((ofNat (Int.natAbs (jS x))).length + (ofNat (Int.natAbs (jS y))).length) 0) wk ⟨by simp, vX _, Nat.zero_le _, fun k _ => dK _ k, by simp [val, mN]⟩ ?_
 rintro ⟨i, out⟩ ⟨qU, hdo, hi, hz, hv⟩
 have hai := hda.getD i
 refine jA <| jA <| kx [(26, (vb (decide (((i : Nat) : Int) < (((ofNat (Int.natAbs (jS x))).length : Nat) : Int)))))] [] (zM <| zE (kQ vD) <| zR (kM xE) <| zE (xA kC (L := (ofNat (Int.natAbs (jS x))))) <| zE uP <| zZ) ?_
 refine jG rfl (fun h1 => ?_) (fun h1 => ?_)
 ·replace h1 := of_decide_eq_true h1
  refine jF <| jA <| jH <| jA <| kx [(7, (xX 0))] [] (zM <| zZ) ?_
  refine jA <| jA <| kx [(8, (jQ 0))] [] (zM <| zZ) ?_
  refine jH <| kH (α := Nat × List Nat × Nat) (fun (j, o2, c) => ⟨[(2, (.ref 0 0)), (3, (.ref 1 0)), (4, (.ref 2 0)), (5, (.own 3 135 1 ((ofNat (Int.natAbs (jS x))).length + (ofNat (Int.natAbs (jS y))).length))), (6, (jQ i)), (7, (xX c)), (8, (jQ j))], [(0, some (bx (jJ (jR (jS x))))), (1, some (bx (jJ (jR (jS y))))), (2, some (bx (jJ (kG.mk false [])))), (3, some (bm jD o2))]⟩) (fun (j, o2, c) => o2.length = (ofNat (Int.natAbs (jS x))).length + (ofNat (Int.natAbs (jS y))).length ∧ Dig o2 ∧ j ≤ (ofNat (Int.natAbs (jS y))).length ∧ c < 1000000000 ∧ (∀ k, i + (ofNat (Int.natAbs (jS y))).length ≤ k → o2.getD k 0 = 0) ∧ val o2 + pw (i + j) * c = val ((ofNat (Int.natAbs (jS x))).take i) * val (ofNat (Int.natAbs (jS y))) + pw i * ((ofNat (Int.natAbs (jS x))).getD i 0 * val ((ofNat (Int.natAbs (jS y))).take j))) (fun (j, o2, c) => (ofNat (Int.natAbs (jS y))).length - j) (0, out, 0) wk ⟨qU, hdo, Nat.zero_le _, by decide, hz, by simp [val, hv]⟩ ?_
  rintro ⟨j, o2, c⟩ ⟨hlen2, hdo2, hj, hc, hz2, hv2⟩
  have hbj := hdb.getD j
  have hoj := hdo2.getD (i + j)
  have hpq : (ofNat (Int.natAbs (jS x))).getD i 0 * (ofNat (Int.natAbs (jS y))).getD j 0 ≤ 999999999 * 999999999 := Nat.mul_le_mul (by omega) (by omega)
  refine jA <| jA <| kx [(33, (vb (decide (((j : Nat) : Int) < (((ofNat (Int.natAbs (jS y))).length : Nat) : Int)))))] [] (zM <| zE (kQ vD) <| zR (kM xE) <| zE (xA kC (L := (ofNat (Int.natAbs (jS y))))) <| zE uP <| zZ) ?_
  refine jG rfl (fun h2 => ?_) (fun h2 => ?_)
  ·replace h2 := of_decide_eq_true h2
   refine jF <| jA <| jH <| jA <| kd [(9, (xX (((o2.getD (i + j) 0) + (((ofNat (Int.natAbs (jS x))).getD i 0) * ((ofNat (Int.natAbs (jS y))).getD j 0))) + c)))] [] mo (wM <| wM <| wM <| wE (qQ (i + j)) <| wE (dT kC (i + j)) <| wR (oLp qD (i + j) (0 : Nat)) <| wE (yV vZ xC (o2.getD (i + j) 0)) <| wE (kQ vD) <| wR (kM xE) <| wM <| wE (yO kC i (0 : Nat) (L := (ofNat (Int.natAbs (jS x))))) <| wE (nB qD) <| wE (yV vZ xC ((ofNat (Int.natAbs (jS x))).getD i 0)) <| wE (kQ vD) <| wR (kM xE) <| wM <| wE (yO kC j (0 : Nat) (L := (ofNat (Int.natAbs (jS y))))) <| wE (nB qD) <| wE (yV vZ xC ((ofNat (Int.natAbs (jS y))).getD j 0)) <| wE (oMl (((ofNat (Int.natAbs (jS x))).getD i 0) * ((ofNat (Int.natAbs (jS y))).getD j 0))) <| wE (qQ ((o2.getD (i + j) 0) + (((ofNat (Int.natAbs (jS x))).getD i 0) * ((ofNat (Int.natAbs (jS y))).getD j 0)))) <| wM <| wE (qQ (((o2.getD (i + j) 0) + (((ofNat (Int.natAbs (jS x))).getD i 0) * ((ofNat (Int.natAbs (jS y))).getD j 0))) + c)) <| wM <| wZ) ?_
   refine jA <| kx [] [(3, some (bm jD (o2.set (i + j) ((((o2.getD (i + j) 0) + (((ofNat (Int.natAbs (jS x))).getD i 0) * ((ofNat (Int.natAbs (jS y))).getD j 0))) + c) % 1000000000))))] (zM <| zM <| zM <| zE (qQ (i + j)) <| zM <| zE (oRe ((((o2.getD (i + j) 0) + (((ofNat (Int.natAbs (jS x))).getD i 0) * ((ofNat (Int.natAbs (jS y))).getD j 0))) + c) % 1000000000)) <| zE (yV zU zP ((((o2.getD (i + j) 0) + (((ofNat (Int.natAbs (jS x))).getD i 0) * ((ofNat (Int.natAbs (jS y))).getD j 0))) + c) % 1000000000)) <| zE (dT kC (i + j)) <| zT (oSp qD (i + j) ((((o2.getD (i + j) 0) + (((ofNat (Int.natAbs (jS x))).getD i 0) * ((ofNat (Int.natAbs (jS y))).getD j 0))) + c) % 1000000000)) <| zZ) ?_
   refine kx [(7, (xX ((((o2.getD (i + j) 0) + (((ofNat (Int.natAbs (jS x))).getD i 0) * ((ofNat (Int.natAbs (jS y))).getD j 0))) + c) / 1000000000)))] [] (zM <| zE (oQu ((((o2.getD (i + j) 0) + (((ofNat (Int.natAbs (jS x))).getD i 0) * ((ofNat (Int.natAbs (jS y))).getD j 0))) + c) / 1000000000)) <| zM <| zZ) ?_
   refine kx [(8, (jQ (j + 1)))] [] (zM <| zE (qQ (j + 1)) <| zM <| zZ) ?_
   exact ⟨(j + 1, o2.set (i + j) ((o2.getD (i + j) 0 + (ofNat (Int.natAbs (jS x))).getD i 0 * (ofNat (Int.natAbs (jS y))).getD j 0 + c) % 1000000000), (o2.getD (i + j) 0 + (ofNat (Int.natAbs (jS x))).getD i 0 * (ofNat (Int.natAbs (jS y))).getD j 0 + c) / 1000000000), wk, (by obtain ⟨q1, q2⟩ := times_step (by omega) hdo2 hv2 rfl (val_take_succ _ j); exact ⟨by simpa using hlen2, q1, by omega, by omega, zero_set (by omega) hz2, q2⟩), (by first | omega | (dsimp only; omega))⟩
  ·replace h2 := of_decide_eq_false h2
   have hje : j = (ofNat (Int.natAbs (jS y))).length := by omega
   rw [hje] at hv2
   refine jW <| kx [] [(3, some (bm jD (o2.set (i + (ofNat (Int.natAbs (jS y))).length) c)))] (zM <| zM <| zE (kQ vD) <| zR (kM xE) <| zE (xA kC (L := (ofNat (Int.natAbs (jS y))))) <| zE (qQ (i + (ofNat (Int.natAbs (jS y))).length)) <| zM <| zE (yV zU zP c) <| zE (dT kC (i + (ofNat (Int.natAbs (jS y))).length)) <| zT (oSp qD (i + (ofNat (Int.natAbs (jS y))).length) c) <| zZ) ?_
   refine kx [(6, (jQ (i + 1)))] [] (zM <| zE (qQ (i + 1)) <| zM <| zZ) ?_
   exact ⟨(i + 1, o2.set (i + (ofNat (Int.natAbs (jS y))).length) c), wk, (by obtain ⟨q1, q2, q3, q4⟩ := times_row hdo2 (by omega) hlen2 hz2 hc hv2; exact ⟨q1, q2, by omega, q3, q4⟩), (by first | omega | (dsimp only; omega))⟩
 ·replace h1 := of_decide_eq_false h1
  have hie : i = (ofNat (Int.natAbs (jS x))).length := by omega
  rw [hie, List.take_length] at hv
  refine jW <| jA <| kY (vV (t := 5) (k := 3) (es := List.map jD out) rfl rfl (uO _ _ (fun _ => rfl)) (uS _ _ qU) (vE _ _ (fun _ => rfl) qU)) ?_
  refine kx [] [(2, some (bx (jJ (vH (!(((jR (jS x)).neg) == ((jR (jS y)).neg))) (val out)))))] (zE (kQ uW) <| zR (kM cZ) <| zE (kQ uW) <| zR (kM cZ) <| zE (oNb bo4) <| zM <| zE (kD (yR (!(((jR (jS x)).neg) == ((jR (jS y)).neg))) out hdo (by omega))) <| zT (kZ jM) <| zZ) ?_
  refine jI ⟨_, (kS (cs := (bx (jJ (vH (!(((jR (jS x)).neg) == ((jR (jS y)).neg))) (val out))))) (d := (jJ (vH (!(((jR (jS x)).neg) == ((jR (jS y)).neg))) (val out)))) rfl rfl jM rfl rfl .nil), ?_⟩
  rw [hv, rmul_eq]; rfl
theorem r_short (a : List Nat) (d : Nat) (hda : Dig a) (hd0 : 0 < d) (hd1 : d ≤ 1000000000) (hla : a.length ≤ 17592186044416) : jZ Tryz.prog 187 [(.sl 135 1 (List.map jD a)), (.val (.int .u64 (((d : Nat) : Int))))] (.tup [(.sl 135 1 (List.map jD (ofNat (val a / d)))), (.val (.int .u64 ((((val a % d) : Nat) : Int))))]) := by
 refine jL Tryz.func187 rfl cb187 rfl ?_
 show qS _ _ _ _ ⟨[(0, (vl 135 1 jD a)), (1, (xX d))], []⟩
 refine jA <| kx [] [] (zE (oNl 135 1) <| zM <| zZ) ?_
 refine jA <| kx [(6, (.own 0 135 1 a.length))] [(0, some (bm jD (List.replicate a.length 0)))] (zM <| zE (xA kC) <| zN (oMk 0 jD (0 : Nat) a.length a.length kC uU xP gB) <| zM <| zZ) ?_
 refine jA <| kx [(7, (xX 0))] [] (zM <| zZ) ?_
 refine jA <| jA <| kx [(8, (vi (((a.length : Nat) : Int) - 1)))] [] (zM <| zE (xA kC) <| zE (zSb (((a.length : Nat) : Int) - 1)) <| zM <| zZ) ?_
 refine jH <| kH (α := Nat × List Nat × Nat) (fun (k, q, vG) => ⟨[(0, (vl 135 1 jD a)), (1, (xX d)), (6, (.own 0 135 1 a.length)), (7, (xX vG)), (8, (vi (((k : Nat) : Int) - 1)))], [(0, some (bm jD q))]⟩) (fun (k, q, vG) => k ≤ a.length ∧ q.length = a.length ∧ Dig q ∧ vG < d ∧ val (a.drop k) = val (q.drop k) * d + vG) (fun (k, q, vG) => k) (a.length, List.replicate a.length 0, 0) wk ⟨Nat.le_refl _, by simp, vX _, hd0, by simp [val]⟩ ?_
 rintro ⟨k, q, vG⟩ ⟨hk, qU, hdq, hr, hv⟩
 refine jA <| jA <| kx [(17, (vb (decide (0 ≤ (((k : Nat) : Int) - 1)))))] [] (zM <| zE oGe <| zZ) ?_
 refine jG (b := decide (0 ≤ (((k : Nat) : Int) - 1))) rfl (fun h1 => ?_) (fun h1 => ?_)
 ·replace h1 := of_decide_eq_true h1
  obtain ⟨i, rfl⟩ : ∃ i, k = i + 1 := ⟨k - 1, by omega⟩
  rw [show (((i + 1 : Nat) : Int) - 1) = ((i : Nat) : Int) from by omega]
  have hg := hda.getD i
  obtain ⟨hb1, hb2⟩ := short_bound hr hd1 hg
  refine jF <| jA <| jH <| jA <| kx [(8, (jQ i)), (9, (xX ((vG * 1000000000) + (a.getD i 0))))] [] (zM <| zE (oMl (vG * 1000000000)) <| zM <| zM <| zE (yO kC i (0 : Nat)) <| zE (nB qD) <| zE (yV vZ xC (a.getD i 0)) <| zE (qQ ((vG * 1000000000) + (a.getD i 0))) <| zM <| zZ) ?_
  refine jA <| kx [] [(0, some (bm jD (q.set i (((vG * 1000000000) + (a.getD i 0)) / d))))] (zM <| zM <| zM <| zM <| zE (oQu (((vG * 1000000000) + (a.getD i 0)) / d)) <| zE (yV zU zP (((vG * 1000000000) + (a.getD i 0)) / d)) <| zE (dT kC i) <| zT (oSp qD i (((vG * 1000000000) + (a.getD i 0)) / d)) <| zZ) ?_
  refine kx [(7, (xX (((vG * 1000000000) + (a.getD i 0)) % d)))] [] (zM <| zM <| zE (oRe (((vG * 1000000000) + (a.getD i 0)) % d)) <| zM <| zZ) ?_
  refine kx [(8, (vi (((i : Nat) : Int) - 1)))] [] (zM <| zE (zSb (((i : Nat) : Int) - 1)) <| zM <| zZ) ?_
  exact ⟨(i, q.set i ((vG * 1000000000 + a.getD i 0) / d), (vG * 1000000000 + a.getD i 0) % d), wk, ⟨by omega, by simpa using qU, hdq.set _ hb2, Nat.mod_lt _ hd0, rshort_step (by omega) hv rfl⟩, (by first | omega | (dsimp only; omega))⟩
 ·replace h1 := of_decide_eq_false h1
  obtain rfl : k = 0 := by omega
  obtain ⟨e1, e2⟩ := short_end (a := a) (q := q) (by rw [Nat.sub_self]; exact hv) hr
  refine jW <| jA <| kY (vV (t := 6) (k := 0) (es := List.map jD q) rfl rfl (uO _ _ (fun _ => rfl)) (uS _ _ qU) (vE _ _ (fun _ => rfl) qU)) ?_
  refine kx [(4, (vl 135 1 jD (ofNat (val q)))), (5, (xX vG))] [] (zM <| zE (kD (yR false q (by first | assumption | exact jY _ | exact (kO _).1 | exact (kR _).1) (by omega))) <| zE (oF1 eL xE) <| zM <| zM <| zM <| zZ) ?_
  refine jI ⟨_, (.tmp (d := (.sl 135 1 (List.map jD (ofNat (val q))))) rfl (.tmp (d := (.val (.int .u64 (((vG : Nat) : Int))))) rfl .nil)), ?_⟩
  rw [← e1, ← e2]; rfl
theorem r_pair (l : List Nat) (hd : Dig l) (h2 : l.length ≤ 2) : jZ Tryz.prog 165 [(.sl 135 1 (List.map jD l))] (.val (.int .u64 ((((val l) : Nat) : Int)))) := by
 have h0 := hd.getD 0
 have h1 := hd.getD 1
 refine jL Tryz.func165 rfl cb165 rfl ?_
 show qS _ _ _ _ ⟨[(0, (vl 135 1 jD l))], []⟩
 refine jA <| kx [] [] (zM <| zZ) ?_
 refine jA <| kx [(2, (xX (((l.getD 1 0) * 1000000000) + (l.getD 0 0))))] [] (zM <| zE (kD (dZ l 1 (by first | assumption | exact jY _ | exact (kO _).1 | exact (kR _).1))) <| zE (oMl ((l.getD 1 0) * 1000000000)) <| zM <| zE (kD (dZ l 0 (by first | assumption | exact jY _ | exact (kO _).1 | exact (kR _).1))) <| zE (qQ (((l.getD 1 0) * 1000000000) + (l.getD 0 0))) <| zM <| zZ) ?_
 refine jI ⟨_, (.tmp (d := (.val (.int .u64 ((((((l.getD 1 0) * 1000000000) + (l.getD 0 0)) : Nat) : Int))))) rfl .nil), ?_⟩
 rw [val_pair h2]; rfl
theorem r_parts (a b : List Nat) (hda : zC a) (hdb : zC b) (hb0 : 0 < b.length) (hla : a.length ≤ 1099511627776) (hlb : b.length ≤ 1099511627776) : jZ Tryz.prog 163 [(.sl 135 1 (List.map jD a)), (.sl 135 1 (List.map jD b))] (.tup [(.sl 135 1 (List.map jD (ofNat (val a / val b)))), (.sl 135 1 (List.map jD (ofNat (val a % val b))))]) := by
 have hsc := eW hdb hb0
 have htp := aB hdb hb0
 have hbp := hZ hdb hb0
 refine jL Tryz.func163 rfl cb163 rfl ?_
 show qS _ _ _ _ ⟨[(0, (vl 135 1 jD a)), (1, (vl 135 1 jD b))], []⟩
 refine jA <| kx [] [] (zE (oNl 135 1) <| zE (oNl 135 1) <| zZ) ?_
 refine jA <| kx [(6, (jQ b.length))] [] (zM <| zE (xA kC) <| zM <| zZ) ?_
 refine jA <| jA <| kx [(19, (vb (((b.length : Nat) : Int) == 1)))] [] (zM <| zE gF <| zZ) ?_
 refine jG (b := (((b.length : Nat) : Int) == 1)) rfl (fun h1 => ?_) (fun h1 => ?_)
 ·replace h1 := eq_of_beq h1
  have hg0 := hdb.1.getD 0
  have hv1 := val_len1 (b := b) (by omega)
  have hb00 : 0 < b.getD 0 0 := by omega
  have hrl : val a % b.getD 0 0 < 1000000000 := Nat.lt_trans (Nat.mod_lt _ hb00) (by omega)
  refine jA <| kx [(7, (vl 135 1 jD (ofNat (val a / (b.getD 0 0))))), (8, (xX (val a % (b.getD 0 0))))] [] (zM <| zM <| zE (yO kC 0 (0 : Nat)) <| zE (nB qD) <| zE (yV vZ xC (b.getD 0 0)) <| zE (kD (r_short a (b.getD 0 0) hda.1 (by omega) (by omega) (by omega))) <| zM <| zE qG <| zE qG <| zM <| zM <| zZ) ?_
  refine jA <| kx [(4, (vl 135 1 jD (ofNat (val a / (b.getD 0 0))))), (5, (vl 135 1 jD (ofNat (val [(val a % (b.getD 0 0))]))))] [] (zM <| zM <| zE (yV zU zP (val a % (b.getD 0 0))) <| zE (aA kC uU xP) <| zE (kD (yR false [(val a % (b.getD 0 0))] (xQ.2 ⟨by omega, zY⟩) (by simp))) <| zE (oF1 eL xE) <| zM <| zM <| zZ) ?_
  refine jI ⟨_, (.tmp (d := (.sl 135 1 (List.map jD (ofNat (val a / (b.getD 0 0)))))) rfl (.tmp (d := (.sl 135 1 (List.map jD (ofNat (val [(val a % (b.getD 0 0))]))))) rfl .nil)), ?_⟩
  rw [hv1, nS]; rfl
 ·replace h1 := ne_of_beq_false h1
  refine jF <| jA <| jA <| kx [(38, (vb (decide ((qY ((val a : Nat) : Int) ((val b : Nat) : Int)) < 0))))] [] (zM <| zM <| zE (kD (r_size a b (by first | assumption | exact kO _ | exact kR _) (by first | assumption | exact kO _ | exact kR _) (by omega) (by omega))) <| zE uP <| zZ) ?_
  refine jG rfl (fun h2 => ?_) (fun h2 => ?_)
  ·replace h2 := of_decide_eq_true h2
   refine jA <| kx [(4, (vl 135 1 jD [])), (5, (vl 135 1 jD a))] [] (zE (aA kC uU xP) <| zM <| zM <| zM <| zZ) ?_
   refine jI ⟨_, (.tmp (d := (.sl 135 1 (List.map jD []))) rfl (.tmp (d := (.sl 135 1 (List.map jD a))) rfl .nil)), ?_⟩
   have hlt := cmpI_neg h2
   rw [Nat.div_eq_of_lt hlt, Nat.mod_eq_of_lt hlt, uC, ← can_eq hda]; rfl
  ·replace h2 := of_decide_eq_false h2
   obtain ⟨u, hue⟩ : ∃ u, u = ofNat (val a * nW b) := ⟨_, rfl⟩
   obtain ⟨v, hve⟩ : ∃ v, v = ofNat (val b * nW b) := ⟨_, rfl⟩
   have hu : Dig u := by rw [hue]; exact jY _
   have hcv : zC v := by rw [hve]; exact kO _
   have hvd := hcv.1
   have hvl : v.length = b.length := by rw [hve]; exact scl_len hdb hb0
   have hvv : val v = val b * nW b := by rw [hve]; exact jX _
   have huv : val u = val a * nW b := by rw [hue]; exact jX _
   have hab := len_of_le hda hdb (cmpI_nn h2)
   have hul : a.length ≤ u.length ∧ u.length ≤ a.length + 1 := by rw [hue]; exact scl_lenA hda hdb hb0
   have hvp := hZ hcv (by omega)
   have hpv : pw (b.length - 1) ≤ val v := by have h1 := val_top hvd (by omega); have h3 := aB hcv (by omega); rw [hvl] at h1 h3; have h2 := Nat.mul_le_mul_right (pw (b.length - 1)) h3.1; omega
   refine jF <| jA <| kx [(9, (xX (nW b)))] [] (zM <| zM <| zE (oSb (b.length - 1)) <| zE (yO kC (b.length - 1) (0 : Nat)) <| zE (nB qD) <| zE (yV vZ xC (b.getD (b.length - 1) 0)) <| zE (qQ ((b.getD (b.length - 1) 0) + 1)) <| zE (oQu (nW b) (hr := by exact (quo_u64 1000000000 (b.getD (b.length - 1) 0 + 1) (by decide)))) <| zM <| zZ) ?_
   refine jA <| kx [(0, (vl 135 1 jD u)), (1, (vl 135 1 jD v))] [] (zM <| zM <| zE (kD (hue ▸ r_scaled a (nW b) hda.1 (by omega) (by omega))) <| zM <| zM <| zE (kD (hve ▸ r_scaled b (nW b) hdb.1 (by omega) (by omega))) <| zM <| zM <| zZ) ?_
   refine jA <| kx [(10, (vl 135 1 jD (ofNat (val (List.drop ((u.length - b.length) + 1) u)))))] [] (zM <| zM <| zE (xA kC) <| zM <| zE (oSb (u.length - b.length)) <| zE (qQ ((u.length - b.length) + 1)) <| zE (e_slc (l := ((u.length - b.length) + 1)) (h := (List.map jD u).length) (kl := .i64) (kh := .i64) (es' := List.map jD (List.drop ((u.length - b.length) + 1) u)) (by exact rfl) kC (by exact rfl) (by exact rfl) (by exact rfl) (by simp only [List.length_map]; omega) (Nat.le_refl _) (by rw [List.take_length, List.map_drop])) <| zE (kD (yR false (List.drop ((u.length - b.length) + 1) u) (hu.drop _) (by rw [List.length_drop]; omega))) <| zE (oF1 eL xE) <| zM <| zZ) ?_
   refine jA <| kx [(11, (.own 0 135 1 ((u.length - b.length) + 1)))] [(0, some (bm jD (List.replicate ((u.length - b.length) + 1) 0)))] (zM <| zE (xA kC) <| zM <| zE (oSb (u.length - b.length)) <| zE (qQ ((u.length - b.length) + 1)) <| zN (oMk 0 jD (0 : Nat) ((u.length - b.length) + 1) ((u.length - b.length) + 1) kC uU xP gB) <| zM <| zZ) ?_
   refine jA <| jA <| kx [(12, (vi ((((u.length - b.length) + 1 : Nat) : Int) - 1)))] [] (zM <| zE (xA kC) <| zM <| zE (zSb ((((u.length - b.length) + 1 : Nat) : Int) - 1)) <| zM <| zZ) ?_
   refine jH <| kH (α := Nat × List Nat × List Nat) (fun (k, r, q) => ⟨[(0, (vl 135 1 jD u)), (1, (vl 135 1 jD v)), (6, (jQ b.length)), (9, (xX (nW b))), (10, (vl 135 1 jD r)), (11, (.own 0 135 1 ((u.length - b.length) + 1))), (12, (vi (((k : Nat) : Int) - 1)))], [(0, some (bm jD q))]⟩) (fun (k, r, q) => zC r ∧ k ≤ ((u.length - b.length) + 1) ∧ q.length = ((u.length - b.length) + 1) ∧ Dig q ∧ val r < val v ∧ val (u.drop k) = val v * val (q.drop k) + val r) (fun (k, r, q) => k) (((u.length - b.length) + 1), ofNat (val (List.drop ((u.length - b.length) + 1) u)), List.replicate ((u.length - b.length) + 1) 0) wk ⟨kO _, Nat.le_refl _, by simp, vX _, by rw [jX]; have h7 := uX (hu.drop ((u.length - b.length) + 1)); rw [List.length_drop, show u.length - ((u.length - b.length) + 1) = b.length - 1 by omega] at h7; omega, by rw [jX]; simp [val]⟩ ?_
   rintro ⟨k, r, q⟩ ⟨hrc, hk, hql, hqd, hr, hv⟩
   refine jA <| jA <| kx [(75, (vb (decide (0 ≤ (((k : Nat) : Int) - 1)))))] [] (zM <| zE oGe <| zZ) ?_
   refine jG (b := decide (0 ≤ (((k : Nat) : Int) - 1))) rfl (fun h3 => ?_) (fun h3 => ?_)
   ·replace h3 := of_decide_eq_true h3
    obtain ⟨i, rfl⟩ : ∃ i, k = i + 1 := ⟨k - 1, by omega⟩
    rw [show (((i + 1 : Nat) : Int) - 1) = ((i : Nat) : Int) from by omega]
    have hgu := hu.getD i
    have hW : (u.getD i 0 + 1000000000 * val r) < 1000000000 * val v := by omega
    have hrs := rshift_val u hv
    obtain ⟨hg1, hg2⟩ := rguess hvd hvl hb0 hW
    have hgv := hvd.getD (b.length - 1)
    have hgw1 := (jY (u.getD i 0 + 1000000000 * val r)).getD b.length
    have hgw2 := (jY (u.getD i 0 + 1000000000 * val r)).getD (b.length - 1)
    have hrl : r.length ≤ b.length := by have h9 := vL (Nat.le_of_lt hr); rwa [← can_eq hrc, ← can_eq hcv, hvl] at h9
    have hwl : (ofNat (u.getD i 0 + 1000000000 * val r)).length ≤ b.length + 1 := qJ (by rw [uB]; have := uX hvd; rw [hvl] at this; omega)
    refine jF <| jA <| jH <| jA <| kx [(10, (vl 135 1 jD (ofNat ((u.getD i 0) + 1000000000 * val r)))), (12, (jQ i))] [] (zM <| zM <| zM <| zE (yO kC i (0 : Nat)) <| zE (nB qD) <| zE (kD (r_shifted r (u.getD i 0) hrc.1 (by omega) (by omega))) <| zM <| zZ) ?_
    refine jA <| kd [(13, (xX (((((ofNat ((u.getD i 0) + 1000000000 * val r)).getD b.length 0) * 1000000000) + ((ofNat ((u.getD i 0) + 1000000000 * val r)).getD (b.length - 1) 0)) / ((v.getD (b.length - 1) 0) + 1))))] [] mo (wM <| wM <| wE (kD (dZ (ofNat ((u.getD i 0) + 1000000000 * val r)) b.length (jY _))) <| wE (oMl (((ofNat ((u.getD i 0) + 1000000000 * val r)).getD b.length 0) * 1000000000)) <| wM <| wM <| wE (oSb (b.length - 1)) <| wE (kD (dZ (ofNat ((u.getD i 0) + 1000000000 * val r)) (b.length - 1) (by first | assumption | exact jY _ | exact (kO _).1 | exact (kR _).1))) <| wE (qQ ((((ofNat ((u.getD i 0) + 1000000000 * val r)).getD b.length 0) * 1000000000) + ((ofNat ((u.getD i 0) + 1000000000 * val r)).getD (b.length - 1) 0))) <| wM <| wM <| wE (oSb (b.length - 1)) <| wE (yO kC (b.length - 1) (0 : Nat)) <| wE (nB qD) <| wE (yV vZ xC (v.getD (b.length - 1) 0)) <| wE (qQ ((v.getD (b.length - 1) 0) + 1)) <| wE (oQu (((((ofNat ((u.getD i 0) + 1000000000 * val r)).getD b.length 0) * 1000000000) + ((ofNat ((u.getD i 0) + 1000000000 * val r)).getD (b.length - 1) 0)) / ((v.getD (b.length - 1) 0) + 1))) <| wM <| wZ) ?_
    refine jA <| kx [(10, (vl 135 1 jD (ofNat (val (ofNat ((u.getD i 0) + 1000000000 * val r)) - val (ofNat (val v * (((((ofNat ((u.getD i 0) + 1000000000 * val r)).getD b.length 0) * 1000000000) + ((ofNat ((u.getD i 0) + 1000000000 * val r)).getD (b.length - 1) 0)) / ((v.getD (b.length - 1) 0) + 1))))))))] [] (zM <| zM <| zM <| zE (kD (r_scaled v (((((ofNat ((u.getD i 0) + 1000000000 * val r)).getD b.length 0) * 1000000000) + ((ofNat ((u.getD i 0) + 1000000000 * val r)).getD (b.length - 1) 0)) / ((v.getD (b.length - 1) 0) + 1)) hvd (by omega) (by omega))) <| zE (kD (r_minus (ofNat ((u.getD i 0) + 1000000000 * val r)) (ofNat (val v * (((((ofNat ((u.getD i 0) + 1000000000 * val r)).getD b.length 0) * 1000000000) + ((ofNat ((u.getD i 0) + 1000000000 * val r)).getD (b.length - 1) 0)) / ((v.getD (b.length - 1) 0) + 1)))) (jY _) (jY _) (by rw [jX, jX, Nat.mul_comm]; exact hg1) (by omega))) <| zM <| zZ) ?_
    refine jA <| jH <| kH (α := Nat × List Nat) (fun (G, r2) => ⟨[(0, (vl 135 1 jD u)), (1, (vl 135 1 jD v)), (6, (jQ b.length)), (9, (xX (nW b))), (10, (vl 135 1 jD r2)), (11, (.own 0 135 1 ((u.length - b.length) + 1))), (12, (jQ i)), (13, (xX G))], [(0, some (bm jD q))]⟩) (fun (G, r2) => zC r2 ∧ val v * G + val r2 = (u.getD i 0 + 1000000000 * val r)) (fun (G, r2) => val r2) ((((ofNat (u.getD i 0 + 1000000000 * val r)).getD b.length 0 * 1000000000 + (ofNat (u.getD i 0 + 1000000000 * val r)).getD (b.length - 1) 0) / (v.getD (b.length - 1) 0 + 1)), ofNat (val (ofNat (u.getD i 0 + 1000000000 * val r)) - val (ofNat (val v * (((ofNat (u.getD i 0 + 1000000000 * val r)).getD b.length 0 * 1000000000 + (ofNat (u.getD i 0 + 1000000000 * val r)).getD (b.length - 1) 0) / (v.getD (b.length - 1) 0 + 1)))))) wk ⟨kO _, by rw [jX, jX, jX]; rw [Nat.mul_comm] at hg1; omega⟩ ?_
    rintro ⟨G, r2⟩ ⟨hr2, hr2v⟩
    have hr2l : r2.length ≤ b.length + 1 := by have h9 := vL (show val r2 ≤ (u.getD i 0 + 1000000000 * val r) by omega); rw [← can_eq hr2] at h9; omega
    refine jA <| jA <| kx [(109, (vb (decide (0 ≤ (qY ((val r2 : Nat) : Int) ((val v : Nat) : Int))))))] [] (zM <| zM <| zE (kD (r_size r2 v hr2 hcv (by omega) (by omega))) <| zE oGe <| zZ) ?_
    refine jG rfl (fun h4 => ?_) (fun h4 => ?_)
    ·replace h4 := of_decide_eq_true h4
     have hge := dW h4
     have hG := rquo_lt hr2v hW
     have hr2l : r2.length ≤ b.length + 1 := by have h9 := vL (show val r2 ≤ (u.getD i 0 + 1000000000 * val r) by omega); rw [← can_eq hr2] at h9; omega
     refine jF <| jH <| jA <| kx [(10, (vl 135 1 jD (ofNat (val r2 - val v))))] [] (zM <| zM <| zE (kD (r_minus r2 v hr2.1 hvd (by omega) (by omega))) <| zM <| zZ) ?_
     refine kx [(13, (xX (G + 1)))] [] (zM <| zE (qQ (G + 1)) <| zM <| zZ) ?_
     exact ⟨(G + 1, ofNat (val r2 - val v)), wk, (by have hge := dW h4; exact ⟨kO _, by rw [jX, Nat.mul_add, Nat.mul_one]; omega⟩), (by have hge := dW h4; dsimp only; rw [jX]; omega)⟩
    ·replace h4 := of_decide_eq_false h4
     have hG := rquo_lt hr2v hW
     have hlt : val r2 < val v := by have h9 := cmpI_lt h4; omega
     refine jW <| kx [] [(0, some (bm jD (q.set i G)))] (zM <| zM <| zM <| zE (yV zU zP G) <| zE (dT kC i) <| zT (oSp qD i G) <| zZ) ?_
     refine kx [(12, (vi (((i : Nat) : Int) - 1)))] [] (zM <| zE (zSb (((i : Nat) : Int) - 1)) <| zM <| zZ) ?_
     exact ⟨(i, r2, q.set i G), wk, ⟨hr2, by omega, by simpa using hql, hqd.set _ hG, hlt, rround (by omega) (by rw [hr2v]; exact hrs)⟩, (by first | omega | (dsimp only; omega))⟩
   ·replace h3 := of_decide_eq_false h3
    obtain rfl : k = 0 := by omega
    obtain ⟨e1, e2⟩ := scl_div (a := a) (b := b) (q := q) (u := r) hdb hb0 (by rw [List.drop_zero, List.drop_zero] at hv; rw [gX, Nat.one_mul, List.drop_zero, ← huv, ← hvv, hv]; omega) (by rw [List.drop_zero, ← hvv]; exact hr)
    have hrl : r.length ≤ b.length := by have h9 := vL (Nat.le_of_lt hr); rwa [← can_eq hrc, ← can_eq hcv, hvl] at h9
    refine jW <| jA <| kx [(14, (vl 135 1 jD (ofNat (val r / (nW b)))))] [] (zM <| zM <| zE (kD (r_short r (nW b) hrc.1 (by omega) (by omega) (by omega))) <| zM <| zE qG <| zE qG <| zM <| zM <| zZ) ?_
    refine jA <| kY (vV (t := 11) (k := 0) (es := List.map jD q) rfl rfl (uO _ _ (fun _ => rfl)) (uS _ _ hql) (vE _ _ (fun _ => rfl) hql)) ?_
    refine kx [(4, (vl 135 1 jD (ofNat (val q)))), (5, (vl 135 1 jD (ofNat (val r / (nW b)))))] [] (zM <| zE (kD (yR false q hqd (by omega))) <| zE (oF1 eL xE) <| zM <| zM <| zM <| zZ) ?_
    refine jI ⟨_, (.tmp (d := (.sl 135 1 (List.map jD (ofNat (val q))))) rfl (.tmp (d := (.sl 135 1 (List.map jD (ofNat (val r / (nW b)))))) rfl .nil)), ?_⟩
    rw [← e1, ← e2]; rfl
end Go.Proofs.YtihgdjljnaekmaaGreat
