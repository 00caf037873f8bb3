/- Part 20 of a proof: rules, plain facts, and functions walked. -/
import Derived.Test.YtihgdjljnaekmaaGreatM19
import Derived.Test.YtihgdjljnaekmaaGreatM14
namespace Go.Proofs.YtihgdjljnaekmaaGreat
open Go.Fid
set_option maxRecDepth 4000
set_option linter.unusedVariables false
set_option linter.unusedSimpArgs false
theorem cb131 : callB Tryz.prog 131 = true := by kernel_rfl
theorem cb132 : callB Tryz.prog 132 = true := by kernel_rfl
theorem cb184 : callB Tryz.prog 184 = true := by kernel_rfl
theorem r_gcd (x : kG) (y : kG) (hx : x.gs.length ≤ 1099511627776) (hy : y.gs.length ≤ 1099511627776) : jZ Tryz.prog 132 [(jJ x), (jJ y)] (jJ (jR ((Int.gcd (jS x) (jS y) : Nat) : Int))) := by
 have hvx := mP x
 have hvy := mP y
 refine jL Tryz.func132 rfl cb132 rfl ?_
 show qS _ _ _ _ ⟨[(0, (.d (jJ x))), (1, (.d (jJ y)))], []⟩
 refine jA <| kx [(2, (.ref 0 0)), (3, (.ref 1 0)), (4, (.ref 2 0))] [(0, some (bx (jJ x))), (1, some (bx (jJ y))), (2, some (bx (jJ (kG.mk false []))))] (zN (zL 0) <| zN (zL 1) <| zN (uQ 2 uN uM) <| zZ) ?_
 refine jA <| kd [(5, (vl 135 1 jD (ofNat (Int.natAbs (jS x))))), (6, (vl 135 1 jD (ofNat (Int.natAbs (jS y)))))] [] mo (wR (kT jM) <| wE (kD (nH x (by omega))) <| wE (oF1 eL xE) <| wR (kT jM) <| wE (kD (nH y (by omega))) <| wE (oF1 eL xE) <| wM <| wM <| wZ) ?_
 refine jA <| jH <| kH (α := List Nat × List Nat) (fun (a, b) => ⟨[(4, (.ref 2 0)), (5, (vl 135 1 jD a)), (6, (vl 135 1 jD b))], [(2, some (bx (jJ (kG.mk false []))))]⟩) (fun (a, b) => zC a ∧ zC b ∧ a.length ≤ 1099511627776 ∧ b.length ≤ 1099511627776 ∧ Nat.gcd (val a) (val b) = Int.gcd (jS x) (jS y)) (fun (a, b) => val b) ((ofNat (Int.natAbs (jS x))), (ofNat (Int.natAbs (jS y)))) wk ⟨kO _, kO _, by omega, by omega, by rw [jX, jX]; rfl⟩ ?_
 rintro ⟨a, b⟩ ⟨ha, hb, hla, hlb, hg⟩
 refine jA <| jA <| kx [(29, (vb (decide (0 < ((b.length : Nat) : Int)) && (decide (2 < ((a.length : Nat) : Int)) || decide (2 < ((b.length : Nat) : Int))))))] [] ?_ ?_
 ·refine zM <| zE (xA kC) <| zE mZ <| zE (oV (vb (decide (0 < ((b.length : Nat) : Int)))) (kP (by kernel_rfl))) <| ?_
  rcases hb1 : (decide (0 < ((b.length : Nat) : Int))) with _ | _
  ·replace hb1 := of_decide_eq_false hb1
   exact zK <| zK <| zK <| zK <| zK <| zK <| zK <| zK <| zE oPf <| zZ
  ·replace hb1 := of_decide_eq_true hb1
   refine zM <| zE (xA kC) <| zE mZ <| zE (oV (vb (decide (2 < ((a.length : Nat) : Int)))) (kP (by kernel_rfl))) <| ?_
   rcases hb2 : (decide (2 < ((a.length : Nat) : Int))) with _ | _
   ·replace hb2 := of_decide_eq_false hb2
    exact zM <| zE (xA kC) <| zE mZ <| zE nI <| zE oPa <| zZ
   ·replace hb2 := of_decide_eq_true hb2
    exact zK <| zK <| zK <| zE vR <| zE vR <| zZ
 refine jG rfl (fun h3 => ?_) (fun h3 => ?_)
 ·have hbl : 0 < b.length := by rw [Bool.and_eq_true, decide_eq_true_eq] at h3; omega
  have hb0 := hZ hb hbl
  refine jF <| jH <| jA <| kx [(8, (vl 135 1 jD (ofNat (val a % val b))))] [] (zM <| zM <| zE (kD (r_parts a b ha hb (by omega) (by omega) (by omega))) <| zM <| zE qG <| zE qG <| zM <| zM <| zZ) ?_
  refine kx [(5, (vl 135 1 jD b)), (6, (vl 135 1 jD (ofNat (val a % val b))))] [] (zM <| zM <| zM <| zM <| zZ) ?_
  exact ⟨(b, ofNat (val a % val b)), wk, ⟨hb, kO _, hlb, Nat.le_trans (len_rem a ha _) hla, by rw [jX, ← hg, Nat.gcd_comm, ← Nat.gcd_rec, Nat.gcd_comm]⟩, (by dsimp only; rw [jX]; exact Nat.mod_lt _ hb0)⟩
 ·have hex := h3
  refine jW <| jA <| jA <| kx [(40, (vb (((b.length : Nat) : Int) == 0)))] [] (zM <| zE (xA kC) <| zE gF <| zZ) ?_
  refine jG (b := (((b.length : Nat) : Int) == 0)) rfl (fun h4 => ?_) (fun h4 => ?_)
  ·replace h4 := eq_of_beq h4
   have hb1 : b = [] := List.eq_nil_of_length_eq_zero (by omega)
   rw [hb1, val_nil, Nat.gcd_zero_right] at hg
   refine jA <| kx [] [(2, some (bx (jJ (vH false (val a)))))] (zM <| zE (kD (yR false a ha.1 (by omega))) <| zT (kZ jM) <| zZ) ?_
   refine jI ⟨_, (kS (cs := (bx (jJ (vH false (val a))))) (d := (jJ (vH false (val a)))) rfl rfl jM rfl rfl .nil), ?_⟩
   rw [← hg, mkI_false]; rfl
  ·replace h4 := ne_of_beq_false h4
   have hl2 : a.length ≤ 2 ∧ b.length ≤ 2 := by simp only [Bool.and_eq_false_iff, Bool.or_eq_false_iff, decide_eq_false_iff_not] at hex; omega
   refine jF <| jA <| kx [(9, (xX (val a))), (10, (xX (val b)))] [] (zM <| zE (kD (r_pair a ha.1 (by omega))) <| zM <| zE (kD (r_pair b hb.1 (by omega))) <| zM <| zM <| zZ) ?_
   refine jA <| jH <| kH (α := Nat × Nat) (fun (m, n) => ⟨[(4, (.ref 2 0)), (9, (xX m)), (10, (xX n))], [(2, some (bx (jJ (kG.mk false []))))]⟩) (fun (m, n) => m < 1000000000000000000 ∧ n < 1000000000000000000 ∧ Nat.gcd m n = Int.gcd (jS x) (jS y)) (fun (m, n) => n) (val a, val b) wk ⟨val_len2 ha.1 hl2.1, val_len2 hb.1 hl2.2, hg⟩ ?_
   rintro ⟨m, n⟩ ⟨hm, hn, hg2⟩
   refine jA <| jA <| kx [(48, (vb (decide (0 < ((n : Nat) : Int)))))] [] (zM <| zE mZ <| zZ) ?_
   refine jG (b := decide (0 < ((n : Nat) : Int))) rfl (fun h5 => ?_) (fun h5 => ?_)
   ·replace h5 := of_decide_eq_true h5
    refine jF <| jH <| kd [(9, (xX n)), (10, (xX (m % n)))] [] mo (wM <| wM <| wM <| wE (oRe (m % n)) <| wM <| wM <| wZ) ?_
    exact ⟨(n, m % n), wk, ⟨hn, Nat.lt_of_le_of_lt (Nat.mod_le _ _) hm, by rw [← hg2, Nat.gcd_comm, ← Nat.gcd_rec, Nat.gcd_comm]⟩, (by dsimp only; exact Nat.mod_lt _ (by omega))⟩
   ·replace h5 := of_decide_eq_false h5
    obtain rfl : n = 0 := by omega
    rw [Nat.gcd_zero_right] at hg2
    have hmv : val [m % 1000000000, m / 1000000000] = m := by simp only [val]; omega
    refine jW <| jA <| kx [] [(2, some (bx (jJ (vH false (val [(m % 1000000000), (m / 1000000000)])))))] (zM <| zE (oRe (m % 1000000000)) <| zE (yV zU zP (m % 1000000000)) <| zM <| zE (oQu (m / 1000000000)) <| zE (yV zU zP (m / 1000000000)) <| zE (aA kC uU xP) <| zE (kD (yR false [(m % 1000000000), (m / 1000000000)] (xQ.2 ⟨Nat.mod_lt _ (by decide), xQ.2 ⟨by omega, zY⟩⟩) (by simp))) <| zT (kZ jM) <| zZ) ?_
    refine jI ⟨_, (kS (cs := (bx (jJ (vH false (val [(m % 1000000000), (m / 1000000000)]))))) (d := (jJ (vH false (val [(m % 1000000000), (m / 1000000000)])))) rfl rfl jM rfl rfl .nil), ?_⟩
    rw [← hg2, hmv, mkI_false]; rfl
theorem r_compare (x : kG) (y : kG) (hx : x.gs.length ≤ 274877906944) (hy : y.gs.length ≤ 274877906944) : jZ Tryz.prog 131 [(jJ x), (jJ y)] (.val (.int .i64 ((qY (jS x) (jS y))))) := by
 have hv := gs_sub x y
 refine jL Tryz.func131 rfl cb131 rfl ?_
 show qS _ _ _ _ ⟨[(0, (.d (jJ x))), (1, (.d (jJ y)))], []⟩
 refine jA <| kx [(2, (.ref 0 0)), (3, (.ref 1 0))] [(0, some (bx (jJ x))), (1, some (bx (jJ y)))] (zN (zL 0) <| zN (zL 1) <| zM <| zZ) ?_
 refine jA <| kx [(4, (vi (kF (jS (jR (jS x - jS y))))))] [] (zR (kT jM) <| zR (kT jM) <| zE (kD (r_sub x y (by omega) (by omega))) <| zE (kD (r_sign (jR (jS x - jS y)) (by omega))) <| zM <| zZ) ?_
 refine jI ⟨_, (.tmp (d := (.val (.int .i64 ((kF (jS (jR (jS x - jS y)))))))) rfl .nil), ?_⟩
 rw [gZ, signI_sub]; rfl
theorem r_divide (x : kG) (y : kG) (hx : x.gs.length ≤ 274877906944) (hy : y.gs.length ≤ 274877906944) (hy0 : jS y ≠ 0) : jZ Tryz.prog 184 [(jJ x), (jJ y)] (.tup [(jJ (jR ((jS x).fdiv (jS y)))), (jJ (jR ((jS x).fmod (jS y)))), (.val (.int .i64 (0)))]) := by
 have hvx := mP x
 have hvy := mP y
 have hmx := gs_val x
 have hmy := gs_val y
 have hy1 : 0 < (jS y).natAbs := by omega
 have hyl := gS hy1
 have hql : (ofNat (val (ofNat (Int.natAbs (jS x))) / val (ofNat (Int.natAbs (jS y))))).length ≤ 274877906944 := by have := len_quo (ofNat (Int.natAbs (jS x))) (kO _) (val (ofNat (Int.natAbs (jS y)))); omega
 have hqg : (vH (!((jR (jS x)).neg == (jR (jS y)).neg)) (val (ofNat (val (ofNat (Int.natAbs (jS x))) / val (ofNat (Int.natAbs (jS y))))))).gs.length ≤ 274877906944 := by show (ofNat (val (ofNat (val (ofNat (Int.natAbs (jS x))) / val (ofNat (Int.natAbs (jS y))))))).length ≤ _; rw [jX]; exact hql
 have fO : (jR 1).gs.length ≤ 1 := (mJ (z := 1) (by decide)).l
 have hqs := gs_sub (vH (!((jR (jS x)).neg == (jR (jS y)).neg)) (val (ofNat (val (ofNat (Int.natAbs (jS x))) / val (ofNat (Int.natAbs (jS y))))))) (jR 1)
 refine jL Tryz.func184 rfl cb184 rfl ?_
 show qS _ _ _ _ ⟨[(0, (.d (jJ x))), (1, (.d (jJ y)))], []⟩
 refine jA <| kx [(2, (.ref 0 0)), (3, (.ref 1 0)), (4, (.ref 2 0)), (5, (.ref 3 0))] [(0, some (bx (jJ x))), (1, some (bx (jJ y))), (2, some (bx (jJ (kG.mk false [])))), (3, some (bx (jJ (kG.mk false []))))] (zN (zL 0) <| zN (zL 1) <| zN (uQ 2 uN uM) <| zN (uQ 3 uN uM) <| zM <| zZ) ?_
 refine jA <| kd [] [(0, some (bx (jJ (jR (jS x))))), (1, some (bx (jJ (jR (jS y)))))] mo (wR (kT jM) <| wE (kD (nH x (by omega))) <| wR (kT jM) <| wE (kD (nH y (by omega))) <| wT (kZ jM) <| wT (kZ jM) <| wZ) ?_
 refine jA <| jA <| kx [(17, (vb ((((ofNat (Int.natAbs (jS y))).length : Nat) : Int) == 0)))] [] (zE (kQ vD) <| zR (kM xE) <| zE (xA kC (L := (ofNat (Int.natAbs (jS y))))) <| zE gF <| zZ) ?_
 refine jG rfl (fun h1 => ?_) (fun h1 => ?_)
 ·replace h1 := eq_of_beq h1
  exact absurd h1 (by omega)
 ·replace h1 := ne_of_beq_false h1
  refine jF <| jA <| kx [(7, (vl 135 1 jD (ofNat (val (ofNat (Int.natAbs (jS x))) / val (ofNat (Int.natAbs (jS y))))))), (8, (vl 135 1 jD (ofNat (val (ofNat (Int.natAbs (jS x))) % val (ofNat (Int.natAbs (jS y)))))))] [] (zE (kQ vD) <| zR (kM xE) <| zE (kQ vD) <| zR (kM xE) <| zE (kD (r_parts (ofNat (Int.natAbs (jS x))) (ofNat (Int.natAbs (jS y))) (by first | assumption | exact kO _ | exact kR _) (by first | assumption | exact kO _ | exact kR _) (by omega) (by omega) (by omega))) <| zM <| zE qG <| zE qG <| zM <| zM <| zZ) ?_
  refine jA <| kx [(9, (.ref 4 0))] [(4, some (bx (jJ (vH (!(((jR (jS x)).neg) == ((jR (jS y)).neg))) (val (ofNat (val (ofNat (Int.natAbs (jS x))) / val (ofNat (Int.natAbs (jS y))))))))))] (zE (kQ uW) <| zR (kM cZ) <| zE (kQ uW) <| zR (kM cZ) <| zE (oNb bo4) <| zM <| zE (kD (yR (!(((jR (jS x)).neg) == ((jR (jS y)).neg))) (ofNat (val (ofNat (Int.natAbs (jS x))) / val (ofNat (Int.natAbs (jS y))))) (jY _) (by omega))) <| zN (uQ 4 uN uM) <| zT (kZ jM) <| zZ) ?_
  refine jA <| jA <| kx [(44, (vb (!(((jR (jS x)).neg) == ((jR (jS y)).neg)) && decide (0 < (((ofNat (val (ofNat (Int.natAbs (jS x))) % val (ofNat (Int.natAbs (jS y))))).length : Nat) : Int)))))] [] ?_ ?_
  ·refine zE (kQ uW) <| zR (kM cZ) <| zE (kQ uW) <| zR (kM cZ) <| zE (oNb bo4) <| zE (oV (vb (!(((jR (jS x)).neg) == ((jR (jS y)).neg)))) (kP (by kernel_rfl))) <| ?_
   rcases hb2 : (!(((jR (jS x)).neg) == ((jR (jS y)).neg))) with _ | _
   ·exact zK <| zK <| zK <| zE oPf <| zZ
   ·exact zM <| zE (xA kC (L := (ofNat (val (ofNat (Int.natAbs (jS x))) % val (ofNat (Int.natAbs (jS y))))))) <| zE mZ <| zE oPa <| zZ
  refine jG rfl (fun h3 => ?_) (fun h3 => ?_)
  ·have hqm := gs_mul (jR (jS (vH (!((jR (jS x)).neg == (jR (jS y)).neg)) (val (ofNat (val (ofNat (Int.natAbs (jS x))) / val (ofNat (Int.natAbs (jS y))))))) - jS (jR 1))) (jR (jS y))
   have hk := r_div_other (X := jS x) (Y := jS y) hy1 (by rw [Bool.and_eq_true, Bool.not_eq_true', beq_eq_false_iff_ne, decide_eq_true_eq] at h3; exact h3)
   refine kd [] [(4, some (bx (jJ (jR (jS (vH (!(((jR (jS x)).neg) == ((jR (jS y)).neg))) (val (ofNat (val (ofNat (Int.natAbs (jS x))) / val (ofNat (Int.natAbs (jS y))))))) - jS (jR 1))))))] mo (wR (kT jM) <| wE (kD (r_of 1 (by omega) (by omega))) <| wE (kD (r_sub (vH (!(((jR (jS x)).neg) == ((jR (jS y)).neg))) (val (ofNat (val (ofNat (Int.natAbs (jS x))) / val (ofNat (Int.natAbs (jS y))))))) (jR 1) (by omega) (by omega))) <| wT (kZ jM) <| wZ) ?_
   refine jA <| kd [(6, (jQ 0))] [(2, some (bx (jJ (jR (jS (vH (!(((jR (jS x)).neg) == ((jR (jS y)).neg))) (val (ofNat (val (ofNat (Int.natAbs (jS x))) / val (ofNat (Int.natAbs (jS y))))))) - jS (jR 1)))))), (3, some (bx (jJ (jR (jS (jR (jS x)) - jS (jR (jS (jR (jS (vH (!(((jR (jS x)).neg) == ((jR (jS y)).neg))) (val (ofNat (val (ofNat (Int.natAbs (jS x))) / val (ofNat (Int.natAbs (jS y))))))) - jS (jR 1))) * jS (jR (jS y)))))))))] mo (wR (kT jM) <| wR (kT jM) <| wR (kT jM) <| wR (kT jM) <| wE (kD (r_mul (jR (jS (vH (!(((jR (jS x)).neg) == ((jR (jS y)).neg))) (val (ofNat (val (ofNat (Int.natAbs (jS x))) / val (ofNat (Int.natAbs (jS y))))))) - jS (jR 1))) (jR (jS y)) (by omega) (by omega))) <| wE (kD (r_sub (jR (jS x)) (jR (jS (jR (jS (vH (!(((jR (jS x)).neg) == ((jR (jS y)).neg))) (val (ofNat (val (ofNat (Int.natAbs (jS x))) / val (ofNat (Int.natAbs (jS y))))))) - jS (jR 1))) * jS (jR (jS y)))) (by omega) (by omega))) <| wT (kZ jM) <| wT (kZ jM) <| wM <| wZ) ?_
   refine jI ⟨_, (kS (cs := (bx (jJ (jR (jS (vH (!(((jR (jS x)).neg) == ((jR (jS y)).neg))) (val (ofNat (val (ofNat (Int.natAbs (jS x))) / val (ofNat (Int.natAbs (jS y))))))) - jS (jR 1)))))) (d := (jJ (jR (jS (vH (!(((jR (jS x)).neg) == ((jR (jS y)).neg))) (val (ofNat (val (ofNat (Int.natAbs (jS x))) / val (ofNat (Int.natAbs (jS y))))))) - jS (jR 1))))) rfl rfl jM rfl rfl (kS (cs := (bx (jJ (jR (jS (jR (jS x)) - jS (jR (jS (jR (jS (vH (!(((jR (jS x)).neg) == ((jR (jS y)).neg))) (val (ofNat (val (ofNat (Int.natAbs (jS x))) / val (ofNat (Int.natAbs (jS y))))))) - jS (jR 1))) * jS (jR (jS y))))))))) (d := (jJ (jR (jS (jR (jS x)) - jS (jR (jS (jR (jS (vH (!(((jR (jS x)).neg) == ((jR (jS y)).neg))) (val (ofNat (val (ofNat (Int.natAbs (jS x))) / val (ofNat (Int.natAbs (jS y))))))) - jS (jR 1))) * jS (jR (jS y)))))))) rfl rfl jM rfl rfl (.tmp (d := (.val (.int .i64 (0)))) rfl .nil))), ?_⟩
   rw [hk, r_rem_eq]; rfl
  ·have hqm := gs_mul (vH (!((jR (jS x)).neg == (jR (jS y)).neg)) (val (ofNat (val (ofNat (Int.natAbs (jS x))) / val (ofNat (Int.natAbs (jS y))))))) (jR (jS y))
   have hk := r_div_same (X := jS x) (Y := jS y) hy1 (by rw [Bool.and_eq_false_iff, Bool.not_eq_false', beq_iff_eq, decide_eq_false_iff_not] at h3; exact h3)
   refine jF <| jA <| kd [(6, (jQ 0))] [(2, some (bx (jJ (vH (!(((jR (jS x)).neg) == ((jR (jS y)).neg))) (val (ofNat (val (ofNat (Int.natAbs (jS x))) / val (ofNat (Int.natAbs (jS y)))))))))), (3, some (bx (jJ (jR (jS (jR (jS x)) - jS (jR (jS (vH (!(((jR (jS x)).neg) == ((jR (jS y)).neg))) (val (ofNat (val (ofNat (Int.natAbs (jS x))) / val (ofNat (Int.natAbs (jS y))))))) * jS (jR (jS y)))))))))] mo (wR (kT jM) <| wR (kT jM) <| wR (kT jM) <| wR (kT jM) <| wE (kD (r_mul (vH (!(((jR (jS x)).neg) == ((jR (jS y)).neg))) (val (ofNat (val (ofNat (Int.natAbs (jS x))) / val (ofNat (Int.natAbs (jS y))))))) (jR (jS y)) (by omega) (by omega))) <| wE (kD (r_sub (jR (jS x)) (jR (jS (vH (!(((jR (jS x)).neg) == ((jR (jS y)).neg))) (val (ofNat (val (ofNat (Int.natAbs (jS x))) / val (ofNat (Int.natAbs (jS y))))))) * jS (jR (jS y)))) (by omega) (by omega))) <| wT (kZ jM) <| wT (kZ jM) <| wM <| wZ) ?_
   refine jI ⟨_, (kS (cs := (bx (jJ (vH (!(((jR (jS x)).neg) == ((jR (jS y)).neg))) (val (ofNat (val (ofNat (Int.natAbs (jS x))) / val (ofNat (Int.natAbs (jS y)))))))))) (d := (jJ (vH (!(((jR (jS x)).neg) == ((jR (jS y)).neg))) (val (ofNat (val (ofNat (Int.natAbs (jS x))) / val (ofNat (Int.natAbs (jS y))))))))) rfl rfl jM rfl rfl (kS (cs := (bx (jJ (jR (jS (jR (jS x)) - jS (jR (jS (vH (!(((jR (jS x)).neg) == ((jR (jS y)).neg))) (val (ofNat (val (ofNat (Int.natAbs (jS x))) / val (ofNat (Int.natAbs (jS y))))))) * jS (jR (jS y))))))))) (d := (jJ (jR (jS (jR (jS x)) - jS (jR (jS (vH (!(((jR (jS x)).neg) == ((jR (jS y)).neg))) (val (ofNat (val (ofNat (Int.natAbs (jS x))) / val (ofNat (Int.natAbs (jS y))))))) * jS (jR (jS y)))))))) rfl rfl jM rfl rfl (.tmp (d := (.val (.int .i64 (0)))) rfl .nil))), ?_⟩
   rw [hk, r_rem_eq]; rfl
end Go.Proofs.YtihgdjljnaekmaaGreat
namespace Go.Proofs.YtihgdjljnaekmaaGreat
open Go.Fid
set_option maxRecDepth 4000
set_option linter.unusedVariables false
set_option linter.unusedSimpArgs false
theorem s_neg {x : kG} {a : Int} {m : Nat} (hx : zW x a m) (hm : m ≤ 274877906944) : jZ Tryz.prog 177 [(jJ x)] (jJ (jR (-a))) := by
 obtain ⟨rfl, hx'⟩ := hx
 exact t_neg x (by omega)
theorem cB {x : kG} {a : Int} {m : Nat} (hx : zW x a m) (hm : m ≤ 274877906944) : jZ Tryz.prog 139 [(jJ x)] (.val (.int .i64 (kF a))) := by
 obtain ⟨rfl, hx'⟩ := hx
 exact t_sign x (by omega)
theorem s_add {x y : kG} {a b : Int} {m n : Nat} (hx : zW x a m) (hy : zW y b n) (hm : m ≤ 274877906944) (hn : n ≤ 274877906944) : jZ Tryz.prog 120 [(jJ x), (jJ y)] (jJ (jR (a + b))) := by
 obtain ⟨rfl, hx'⟩ := hx; obtain ⟨rfl, hy'⟩ := hy
 exact t_add x y (by omega) (by omega)
theorem s_mul {x y : kG} {a b : Int} {m n : Nat} (hx : zW x a m) (hy : zW y b n) (hm : m ≤ 274877906944) (hn : n ≤ 274877906944) : jZ Tryz.prog 106 [(jJ x), (jJ y)] (jJ (jR (a * b))) := by
 obtain ⟨rfl, hx'⟩ := hx; obtain ⟨rfl, hy'⟩ := hy
 exact t_mul x y (by omega) (by omega)
theorem s_compare {x y : kG} {a b : Int} {m n : Nat} (hx : zW x a m) (hy : zW y b n) (hm : m ≤ 274877906944) (hn : n ≤ 274877906944) : jZ Tryz.prog 140 [(jJ x), (jJ y)] (.val (.int .i64 (qY a b))) := by
 obtain ⟨rfl, hx'⟩ := hx; obtain ⟨rfl, hy'⟩ := hy
 exact t_compareI x y (by omega) (by omega)
theorem s_gcd {x y : kG} {a b : Int} {m n : Nat} (hx : zW x a m) (hy : zW y b n) (hm : m ≤ 274877906944) (hn : n ≤ 274877906944) : jZ Tryz.prog 141 [(jJ x), (jJ y)] (jJ (jR ((Int.gcd a b : Nat) : Int))) := by
 obtain ⟨rfl, hx'⟩ := hx; obtain ⟨rfl, hy'⟩ := hy
 exact t_gcdI x y (by omega) (by omega)
theorem mW {x y : kG} {a b : Int} {m n : Nat} (hx : zW x a m) (hy : zW y b n) (hm : m ≤ 274877906944) (hn : n ≤ 274877906944) (hb : b ≠ 0) : jZ Tryz.prog 178 [(jJ x), (jJ y)] (.tup [(jJ (jR (a.fdiv b))), (jJ (jR (a.fmod b))), (.val (.int .i64 0))]) := by
 obtain ⟨rfl, hx'⟩ := hx; obtain ⟨rfl, hy'⟩ := hy
 exact t_divideI x y (by omega) (by omega) hb
theorem rs_neg {x : kG} {a : Int} {m : Nat} (hx : zW x a m) (hm : m ≤ 274877906944) : jZ Tryz.prog 183 [(jJ x)] (jJ (jR (-a))) := by
 obtain ⟨rfl, hx'⟩ := hx
 exact r_neg x (by omega)
theorem rs_sign {x : kG} {a : Int} {m : Nat} (hx : zW x a m) (hm : m ≤ 274877906944) : jZ Tryz.prog 62 [(jJ x)] (.val (.int .i64 (kF a))) := by
 obtain ⟨rfl, hx'⟩ := hx
 exact r_sign x (by omega)
theorem rs_compare {x y : kG} {a b : Int} {m n : Nat} (hx : zW x a m) (hy : zW y b n) (hm : m ≤ 274877906944) (hn : n ≤ 274877906944) : jZ Tryz.prog 131 [(jJ x), (jJ y)] (.val (.int .i64 (qY a b))) := by
 obtain ⟨rfl, hx'⟩ := hx; obtain ⟨rfl, hy'⟩ := hy
 exact r_compare x y (by omega) (by omega)
theorem rs_gcd {x y : kG} {a b : Int} {m n : Nat} (hx : zW x a m) (hy : zW y b n) (hm : m ≤ 274877906944) (hn : n ≤ 274877906944) : jZ Tryz.prog 132 [(jJ x), (jJ y)] (jJ (jR ((Int.gcd a b : Nat) : Int))) := by
 obtain ⟨rfl, hx'⟩ := hx; obtain ⟨rfl, hy'⟩ := hy
 exact r_gcd x y (by omega) (by omega)
theorem nC {x y : kG} {a b : Int} {m n : Nat} (hx : zW x a m) (hy : zW y b n) (hm : m ≤ 274877906944) (hn : n ≤ 274877906944) (hb : b ≠ 0) : jZ Tryz.prog 184 [(jJ x), (jJ y)] (.tup [(jJ (jR (a.fdiv b))), (jJ (jR (a.fmod b))), (.val (.int .i64 0))]) := by
 obtain ⟨rfl, hx'⟩ := hx; obtain ⟨rfl, hy'⟩ := hy
 exact r_divide x y (by omega) (by omega) hb
end Go.Proofs.YtihgdjljnaekmaaGreat
namespace Go.Proofs.YtihgdjljnaekmaaGreat
open Go.Fid
set_option maxRecDepth 4000
set_option linter.unusedVariables false
set_option linter.unusedSimpArgs false
theorem cb83 : callB Tryz.prog 83 = true := by kernel_rfl
theorem cb84 : callB Tryz.prog 84 = true := by kernel_rfl
theorem cb85 : callB Tryz.prog 85 = true := by kernel_rfl
theorem cb86 : callB Tryz.prog 86 = true := by kernel_rfl
theorem cb108 : callB Tryz.prog 108 = true := by kernel_rfl
theorem cb142 : callB Tryz.prog 142 = true := by kernel_rfl
theorem cb149 : callB Tryz.prog 149 = true := by kernel_rfl
theorem cb152 : callB Tryz.prog 152 = true := by kernel_rfl
theorem cb153 : callB Tryz.prog 153 = true := by kernel_rfl
theorem cb176 : callB Tryz.prog 176 = true := by kernel_rfl
theorem fo51_0 : yQ Tryz.prog 51 0 = some 0 := by kernel_rfl
theorem dN : yQ Tryz.prog 51 1 = some 2 := by kernel_rfl
theorem ft51_0 : aJ Tryz.prog 51 0 = some (0, 49) := by kernel_rfl
theorem pl51 : aC Tryz.prog 51 = some [(0, 2), (2, 2)] := by kernel_rfl
theorem vP : kV Tryz.prog 51 = some (true, 4) := by kernel_rfl
theorem cW : vF Tryz.prog 51 = some [.bool false, .slice none 0 0, .bool false, .slice none 0 0] := by kernel_rfl
theorem dA : mV [.bool false, .slice none 0 0, .bool false, .slice none 0 0] [.val (.bool false), .sl 135 1 [], .val (.bool false), .sl 135 1 []] := by simp [mV, Value.oneCell']
theorem f_reduced (num den : kG) (a b : Int) (dS : zW num a 68719476736) (mM : zW den b 68719476736) (hb : b ≠ 0) : jZ Tryz.prog 149 [(jJ num), (jJ den)] (kX (yP (Rat.divInt a b))) := by
 refine jL Tryz.func149 rfl cb149 rfl ?_
 show qS _ _ _ _ ⟨[(0, (.d (jJ num))), (1, (.d (jJ den)))], []⟩
 refine jA <| kx [(2, (.ref 0 0)), (3, (.ref 1 0)), (4, (.ref 2 0))] [(0, some (bx (jJ num))), (1, some (bx (jJ den))), (2, some (bx (kX (uG.mk (kG.mk false []) (kG.mk false [])))))] (zN (zL 0) <| zN (zL 1) <| zN (uQ 2 cW dA) <| zZ) ?_
 refine jA <| jA <| kx [(8, (vb (decide ((kF b) < 0))))] [] (zR (kT jM) <| zE (kD (cB mM (by decide))) <| zE uP <| zZ) ?_
 refine jG (b := decide ((kF b) < 0)) rfl (fun h1 => ?_) (fun h1 => ?_)
 ·replace h1 := of_decide_eq_true h1
  have hlt := signI_lt.1 h1
  have hb2 : -b ≠ 0 := by omega
  refine kd [] [(0, some (bx (jJ (jR (-a))))), (1, some (bx (jJ (jR (-b)))))] mo (wR (kT jM) <| wE (kD (s_neg dS (by decide))) <| wR (kT jM) <| wE (kD (s_neg mM (by decide))) <| wT (kZ jM) <| wT (kZ jM) <| wZ) ?_
  refine jA <| kx [(5, (.ref 3 0))] [(3, some (bx (jJ (jR ((Int.gcd (-a) (-b) : Nat) : Int)))))] (zR (kT jM) <| zR (kT jM) <| zE (kD (s_gcd (hH dS) (hH mM) (by decide) (by decide))) <| zN (uQ 3 uN uM) <| zT (kZ jM) <| zZ) ?_
  refine jA <| kx [] [(0, some (bx (jJ (jR ((-a).fdiv (((Int.gcd (-a) (-b) : Nat) : Int)))))))] (zR (kT jM) <| zR (kT jM) <| zE (kD (mW (hH dS) (qP (k := 68719476736) (hH dS) (hH mM) (by decide)) (by decide) (by decide) (gcd_ne (by omega)))) <| zM <| zE qG <| zE qG <| zE qG <| zT (kZ jM) <| zZ) ?_
  refine jA <| kx [] [(1, some (bx (jJ (jR ((-b).fdiv (((Int.gcd (-a) (-b) : Nat) : Int)))))))] (zR (kT jM) <| zR (kT jM) <| zE (kD (mW (hH mM) (qP (k := 68719476736) (hH dS) (hH mM) (by decide)) (by decide) (by decide) (gcd_ne (by omega)))) <| zM <| zE qG <| zE qG <| zE qG <| zT (kZ jM) <| zZ) ?_
  refine jA <| kx [] [(2, some (bx (kX (uG.mk (jR ((-a).fdiv (((Int.gcd (-a) (-b) : Nat) : Int)))) (jR ((-b).fdiv (((Int.gcd (-a) (-b) : Nat) : Int))))))))] (zR (kT jM) <| zR (kT jM) <| zE (eQ pl51 cW dA) <| zT (kZ vP) <| zZ) ?_
  refine jI ⟨_, (kS (cs := (bx (kX (uG.mk (jR ((-a).fdiv (((Int.gcd (-a) (-b) : Nat) : Int)))) (jR ((-b).fdiv (((Int.gcd (-a) (-b) : Nat) : Int)))))))) (d := (kX (uG.mk (jR ((-a).fdiv (((Int.gcd (-a) (-b) : Nat) : Int)))) (jR ((-b).fdiv (((Int.gcd (-a) (-b) : Nat) : Int))))))) rfl rfl vP rfl rfl .nil), ?_⟩
  rw [red_neg hlt]; rfl
 ·replace h1 := of_decide_eq_false h1
  have hge : ¬ b < 0 := fun hh => h1 (signI_lt.2 hh)
  refine jF <| jA <| kx [(5, (.ref 4 0))] [(4, some (bx (jJ (jR ((Int.gcd a b : Nat) : Int)))))] (zR (kT jM) <| zR (kT jM) <| zE (kD (s_gcd dS mM (by decide) (by decide))) <| zN (uQ 4 uN uM) <| zT (kZ jM) <| zZ) ?_
  refine jA <| kx [] [(0, some (bx (jJ (jR (a.fdiv (((Int.gcd a b : Nat) : Int)))))))] (zR (kT jM) <| zR (kT jM) <| zE (kD (mW dS (qP (k := 68719476736) dS mM (by decide)) (by decide) (by decide) (gcd_ne (by omega)))) <| zM <| zE qG <| zE qG <| zE qG <| zT (kZ jM) <| zZ) ?_
  refine jA <| kx [] [(1, some (bx (jJ (jR (b.fdiv (((Int.gcd a b : Nat) : Int)))))))] (zR (kT jM) <| zR (kT jM) <| zE (kD (mW mM (qP (k := 68719476736) dS mM (by decide)) (by decide) (by decide) (gcd_ne (by omega)))) <| zM <| zE qG <| zE qG <| zE qG <| zT (kZ jM) <| zZ) ?_
  refine jA <| kx [] [(2, some (bx (kX (uG.mk (jR (a.fdiv (((Int.gcd a b : Nat) : Int)))) (jR (b.fdiv (((Int.gcd a b : Nat) : Int))))))))] (zR (kT jM) <| zR (kT jM) <| zE (eQ pl51 cW dA) <| zT (kZ vP) <| zZ) ?_
  refine jI ⟨_, (kS (cs := (bx (kX (uG.mk (jR (a.fdiv (((Int.gcd a b : Nat) : Int)))) (jR (b.fdiv (((Int.gcd a b : Nat) : Int)))))))) (d := (kX (uG.mk (jR (a.fdiv (((Int.gcd a b : Nat) : Int)))) (jR (b.fdiv (((Int.gcd a b : Nat) : Int))))))) rfl rfl vP rfl rfl .nil), ?_⟩
  rw [red_pos hge hb]; rfl
theorem f_whole (n : Int) (hlo : -9223372036854775808 ≤ n) (hhi : n ≤ 9223372036854775807) : jZ Tryz.prog 86 [(.val (.int .i64 (n)))] (kX (yP ((n : Int) : Rat))) := by
 refine jL Tryz.func86 rfl cb86 rfl ?_
 show qS _ _ _ _ ⟨[(0, (vi n))], []⟩
 refine jA <| kx [(2, (.ref 0 0))] [(0, some (bx (kX (uG.mk (kG.mk false []) (kG.mk false [])))))] (zN (uQ 0 cW dA) <| zZ) ?_
 refine jA <| kx [] [(0, some (bx (kX (uG.mk (jR n) (jR 1)))))] (zM <| zE (kD (t_of n (by omega) (by omega))) <| zE (kD (t_of 1 (by decide) (by decide))) <| zE (eQ pl51 cW dA) <| zT (kZ vP) <| zZ) ?_
 refine jI ⟨_, (kS (cs := (bx (kX (uG.mk (jR n) (jR 1))))) (d := (kX (uG.mk (jR n) (jR 1)))) rfl rfl vP rfl rfl .nil), ?_⟩
 rfl
theorem f_valid (x : uG) (p : Rat) (hx : QOk x p 17179869184) : jZ Tryz.prog 83 [(kX x)] (.val (.bool ((xS x)))) := by
 refine jL Tryz.func83 rfl cb83 rfl ?_
 show qS _ _ _ _ ⟨[(0, (.d (kX x)))], []⟩
 refine jA <| kx [(1, (.ref 0 0))] [(0, some (bx (kX x)))] (zN (zL 0) <| zM <| zZ) ?_
 refine jA <| jA <| kx [(18, (vb ((!(uI x.num) || !(uI x.den)) || decide ((kF (jS x.den)) ≤ 0))))] [] ?_ ?_
 ·refine zE (kQ fo51_0) <| zR (kT jM) <| zE (kD (t_valid x.num (Nat.le_trans (nN hx.n1).l (by decide)))) <| zE oNt <| zE (oV (vb (!(uI x.num))) (kP (by kernel_rfl))) <| ?_
  rcases hb1 : (!(uI x.num)) with _ | _
  ·refine zE (kQ dN) <| zR (kT jM) <| zE (kD (t_valid x.den (Nat.le_trans (nN hx.n2).l (by decide)))) <| zE oNt <| zE nI <| zE (oV (vb (false || !(uI x.den))) (kP (by kernel_rfl))) <| ?_
   rcases hb2 : (false || !(uI x.den)) with _ | _
   ·exact zE (kQ dN) <| zR (kT jM) <| zE (kD (cB (nN hx.n2) (by decide))) <| zE oLe <| zE nI <| zZ
   ·exact zK <| zK <| zK <| zK <| zE vR <| zZ
  ·exact zK <| zK <| zK <| zK <| zE vR <| zM <| zK <| zK <| zK <| zK <| zE vR <| zZ
 refine jG rfl (fun h3 => ?_) (fun h3 => ?_)
 ·refine jA <| kx [(2, (vb false))] [] (zM <| zZ) ?_
  refine jI ⟨_, (.tmp (d := (.val (.bool (false)))) rfl .nil), ?_⟩
  rw [validR_no h3]; rfl
 ·refine jF <| jA <| kx [(2, (vb ((qY (((Int.gcd (jS x.num) (jS x.den) : Nat) : Int)) 1) == 0)))] [] (zE (kQ fo51_0) <| zR (kT jM) <| zE (kQ dN) <| zR (kT jM) <| zE (kD (s_gcd (nN hx.n1) (nN hx.n2) (by decide) (by decide))) <| zE (kD (t_of 1 (by decide) (by decide))) <| zE (kD (s_compare (qP (k := 17179869184) (nN hx.n1) (nN hx.n2) (by decide)) (mJ (z := 1) (by decide)) (by decide) (by decide))) <| zE gF <| zM <| zZ) ?_
  refine jI ⟨_, (.tmp (d := (.val (.bool (((qY (((Int.gcd (jS x.num) (jS x.den) : Nat) : Int)) 1) == 0))))) rfl .nil), ?_⟩
  rw [validR_yes h3]; rfl
theorem f_copied (x : uG) (p : Rat) (hx : QOk x p 17179869184) : jZ Tryz.prog 176 [(kX x)] (kX (uG.mk (jR (-(-jS x.num))) (jR (-(-jS x.den))))) := by
 refine jL Tryz.func176 rfl cb176 rfl ?_
 show qS _ _ _ _ ⟨[(0, (.d (kX x)))], []⟩
 refine jA <| kx [(1, (.ref 0 0)), (2, (.ref 1 0))] [(0, some (bx (kX x))), (1, some (bx (kX (uG.mk (kG.mk false []) (kG.mk false [])))))] (zN (zL 0) <| zN (uQ 1 cW dA) <| zZ) ?_
 refine jA <| kd [] [(1, some (bx (kX (uG.mk (jR (-(-(jS x.num)))) (jR (-(-(jS x.den))))))))] mo (wE (kQ fo51_0) <| wR (kT jM) <| wE (kD (s_neg (nN hx.n1) (by decide))) <| wE (kD (s_neg (hH (nN hx.n1)) (by decide))) <| wE (kQ dN) <| wR (kT jM) <| wE (kD (s_neg (nN hx.n2) (by decide))) <| wE (kD (s_neg (hH (nN hx.n2)) (by decide))) <| wE (eQ pl51 cW dA) <| wT (kZ vP) <| wZ) ?_
 refine jI ⟨_, (kS (cs := (bx (kX (uG.mk (jR (-(-(jS x.num)))) (jR (-(-(jS x.den)))))))) (d := (kX (uG.mk (jR (-(-(jS x.num)))) (jR (-(-(jS x.den))))))) rfl rfl vP rfl rfl .nil), ?_⟩
 rfl
theorem f_value (x : uG) (p : Rat) (hx : QOk x p 17179869184) : jZ Tryz.prog 142 [(kX x)] (kX (yP p)) := by
 refine jL Tryz.func142 rfl cb142 rfl ?_
 show qS _ _ _ _ ⟨[(0, (.d (kX x)))], []⟩
 refine jA <| kx [(1, (.ref 0 0)), (2, (.ref 1 0))] [(0, some (bx (kX x))), (1, some (bx (kX (uG.mk (kG.mk false []) (kG.mk false [])))))] (zN (zL 0) <| zN (uQ 1 cW dA) <| zZ) ?_
 refine jA <| jA <| kx [(4, (vb (xS x)))] [] (zR (kT vP) <| zE (kD (f_valid x p hx)) <| zZ) ?_
 refine jG (b := (xS x)) rfl (fun h1 => ?_) (fun h1 => ?_)
 ·refine jA <| kx [] [(1, some (bx (kX (uG.mk (jR (-(-jS x.num))) (jR (-(-jS x.den)))))))] (zR (kT vP) <| zE (kD (f_copied x p hx)) <| zT (kZ vP) <| zZ) ?_
  refine jI ⟨_, (kS (cs := (bx (kX (uG.mk (jR (-(-jS x.num))) (jR (-(-jS x.den))))))) (d := (kX (uG.mk (jR (-(-jS x.num))) (jR (-(-jS x.den)))))) rfl rfl vP rfl rfl .nil), ?_⟩
  rw [← hx.v, ← copied_eq h1]; rfl
 ·refine jF <| jA <| kx [] [(1, some (bx (kX (yP ((0 : Int) : Rat)))))] (zE (kD (f_whole 0 (by decide) (by decide))) <| zT (kZ vP) <| zZ) ?_
  refine jI ⟨_, (kS (cs := (bx (kX (yP ((0 : Int) : Rat))))) (d := (kX (yP ((0 : Int) : Rat)))) rfl rfl vP rfl rfl .nil), ?_⟩
  rw [← hx.v, toQ_bad h1]; rfl
theorem f_sign (x : uG) (p : Rat) (hx : QOk x p 17179869184) : jZ Tryz.prog 84 [(kX x)] (.val (.int .i64 ((signQ p)))) := by
 refine jL Tryz.func84 rfl cb84 rfl ?_
 show qS _ _ _ _ ⟨[(0, (.d (kX x)))], []⟩
 refine jA <| kx [(1, (.ref 0 0))] [(0, some (bx (kX x)))] (zN (zL 0) <| zM <| zZ) ?_
 refine jA <| kx [(2, (vi (kF p.num)))] [] (zR (kT vP) <| zE (kD (f_value x p hx)) <| zE (oFv ft51_0 jM) <| zE (kD (cB (gW hx.ql) (by decide))) <| zM <| zZ) ?_
 refine jI ⟨_, (.tmp (d := (.val (.int .i64 ((kF p.num))))) rfl .nil), ?_⟩
 rfl
theorem f_neg (x : uG) (p : Rat) (hx : QOk x p 17179869184) : jZ Tryz.prog 153 [(kX x)] (kX (yP (-p))) := by
 refine jL Tryz.func153 rfl cb153 rfl ?_
 show qS _ _ _ _ ⟨[(0, (.d (kX x)))], []⟩
 refine jA <| kx [(1, (.ref 0 0)), (2, (.ref 1 0))] [(0, some (bx (kX x))), (1, some (bx (kX (uG.mk (kG.mk false []) (kG.mk false [])))))] (zN (zL 0) <| zN (uQ 1 cW dA) <| zZ) ?_
 refine jA <| kx [] [(0, some (bx (kX (yP p))))] (zR (kT vP) <| zE (kD (f_value x p hx)) <| zT (kZ vP) <| zZ) ?_
 refine jA <| kd [] [(1, some (bx (kX (uG.mk (jR (-p.num)) ((yP p).den)))))] mo (wE (kQ fo51_0) <| wR (kT jM) <| wE (kD (s_neg (gW hx.ql) (by decide))) <| wE (kQ dN) <| wR (kT jM) <| wE (eQ pl51 cW dA) <| wT (kZ vP) <| wZ) ?_
 refine jI ⟨_, (kS (cs := (bx (kX (uG.mk (jR (-p.num)) ((yP p).den))))) (d := (kX (uG.mk (jR (-p.num)) ((yP p).den)))) rfl rfl vP rfl rfl .nil), ?_⟩
 rfl
theorem f_add (x : uG) (y : uG) (p : Rat) (q : Rat) (hx : QOk x p 17179869184) (hy : QOk y q 17179869184) : jZ Tryz.prog 152 [(kX x), (kX y)] (kX (yP (p + q))) := by
 refine jL Tryz.func152 rfl cb152 rfl ?_
 show qS _ _ _ _ ⟨[(0, (.d (kX x))), (1, (.d (kX y)))], []⟩
 refine jA <| kx [(2, (.ref 0 0)), (3, (.ref 1 0)), (4, (.ref 2 0))] [(0, some (bx (kX x))), (1, some (bx (kX y))), (2, some (bx (kX (uG.mk (kG.mk false []) (kG.mk false [])))))] (zN (zL 0) <| zN (zL 1) <| zN (uQ 2 cW dA) <| zZ) ?_
 refine jA <| kd [] [(0, some (bx (kX (yP p)))), (1, some (bx (kX (yP q))))] mo (wR (kT vP) <| wE (kD (f_value x p hx)) <| wR (kT vP) <| wE (kD (f_value y q hy)) <| wT (kZ vP) <| wT (kZ vP) <| wZ) ?_
 refine jA <| kd [] [(2, some (bx (kX (yP (Rat.divInt ((p.num * (q.den : Int)) + (q.num * (p.den : Int))) ((p.den : Int) * (q.den : Int)))))))] mo (wE (kQ fo51_0) <| wR (kT jM) <| wE (kQ dN) <| wR (kT jM) <| wE (kD (s_mul (gW hx.ql) (yS hy.ql) (by decide) (by decide))) <| wE (kQ fo51_0) <| wR (kT jM) <| wE (kQ dN) <| wR (kT jM) <| wE (kD (s_mul (gW hy.ql) (yS hx.ql) (by decide) (by decide))) <| wE (kD (s_add (nJ (k := 34359738368) (gW hx.ql) (yS hy.ql) (by decide)) (nJ (k := 34359738368) (gW hy.ql) (yS hx.ql) (by decide)) (by decide) (by decide))) <| wE (kQ dN) <| wR (kT jM) <| wE (kQ dN) <| wR (kT jM) <| wE (kD (s_mul (yS hx.ql) (yS hy.ql) (by decide) (by decide))) <| wE (kD (f_reduced (jR ((p.num * (q.den : Int)) + (q.num * (p.den : Int)))) (jR ((p.den : Int) * (q.den : Int))) ((p.num * (q.den : Int)) + (q.num * (p.den : Int))) ((p.den : Int) * (q.den : Int)) (xI (iok_add (k := 34359738369) (nJ (k := 34359738368) (gW hx.ql) (yS hy.ql) (by decide)) (nJ (k := 34359738368) (gW hy.ql) (yS hx.ql) (by decide)) (by decide)) (by decide)) (xI (nJ (k := 34359738368) (yS hx.ql) (yS hy.ql) (by decide)) (by decide)) (mul_ne (den_ne _) (den_ne _)))) <| wT (kZ vP) <| wZ) ?_
 refine jI ⟨_, (kS (cs := (bx (kX (yP (Rat.divInt ((p.num * (q.den : Int)) + (q.num * (p.den : Int))) ((p.den : Int) * (q.den : Int))))))) (d := (kX (yP (Rat.divInt ((p.num * (q.den : Int)) + (q.num * (p.den : Int))) ((p.den : Int) * (q.den : Int)))))) rfl rfl vP rfl rfl .nil), ?_⟩
 rw [add_divInt]; rfl
theorem f_sub (x : uG) (y : uG) (p : Rat) (q : Rat) (hx : QOk x p 17179869184) (hy : QOk y q 17179869184) : jZ Tryz.prog 108 [(kX x), (kX y)] (kX (yP (p - q))) := by
 refine jL Tryz.func108 rfl cb108 rfl ?_
 show qS _ _ _ _ ⟨[(0, (.d (kX x))), (1, (.d (kX y)))], []⟩
 refine jA <| kx [(2, (.ref 0 0)), (3, (.ref 1 0)), (4, (.ref 2 0))] [(0, some (bx (kX x))), (1, some (bx (kX y))), (2, some (bx (kX (uG.mk (kG.mk false []) (kG.mk false [])))))] (zN (zL 0) <| zN (zL 1) <| zN (uQ 2 cW dA) <| zZ) ?_
 refine jA <| kd [] [(2, some (bx (kX (yP (p + (-q))))))] mo (wR (kT vP) <| wR (kT vP) <| wE (kD (f_neg y q hy)) <| wE (kD (f_add x (yP (-q)) p (-q) hx (qok_of (ql_neg hy.ql)))) <| wT (kZ vP) <| wZ) ?_
 refine jI ⟨_, (kS (cs := (bx (kX (yP (p + (-q)))))) (d := (kX (yP (p + (-q))))) rfl rfl vP rfl rfl .nil), ?_⟩
 rw [Rat.sub_eq_add_neg]; rfl
theorem f_compare (x : uG) (y : uG) (p : Rat) (q : Rat) (hx : QOk x p 17179869184) (hy : QOk y q 17179869184) : jZ Tryz.prog 85 [(kX x), (kX y)] (.val (.int .i64 ((cmpQ p q)))) := by
 refine jL Tryz.func85 rfl cb85 rfl ?_
 show qS _ _ _ _ ⟨[(0, (.d (kX x))), (1, (.d (kX y)))], []⟩
 refine jA <| kx [(2, (.ref 0 0)), (3, (.ref 1 0))] [(0, some (bx (kX x))), (1, some (bx (kX y)))] (zN (zL 0) <| zN (zL 1) <| zM <| zZ) ?_
 refine jA <| kd [] [(0, some (bx (kX (yP p)))), (1, some (bx (kX (yP q))))] mo (wR (kT vP) <| wE (kD (f_value x p hx)) <| wR (kT vP) <| wE (kD (f_value y q hy)) <| wT (kZ vP) <| wT (kZ vP) <| wZ) ?_
 refine jA <| kd [(4, (vi (qY (p.num * (q.den : Int)) (q.num * (p.den : Int)))))] [] mo (wE (kQ fo51_0) <| wR (kT jM) <| wE (kQ dN) <| wR (kT jM) <| wE (kD (s_mul (gW hx.ql) (yS hy.ql) (by decide) (by decide))) <| wE (kQ fo51_0) <| wR (kT jM) <| wE (kQ dN) <| wR (kT jM) <| wE (kD (s_mul (gW hy.ql) (yS hx.ql) (by decide) (by decide))) <| wE (kD (s_compare (nJ (k := 34359738368) (gW hx.ql) (yS hy.ql) (by decide)) (nJ (k := 34359738368) (gW hy.ql) (yS hx.ql) (by decide)) (by decide) (by decide))) <| wM <| wZ) ?_
 refine jI ⟨_, (.tmp (d := (.val (.int .i64 ((qY (p.num * (q.den : Int)) (q.num * (p.den : Int))))))) rfl .nil), ?_⟩
 rw [← cmpQ_cross]; rfl
end Go.Proofs.YtihgdjljnaekmaaGreat
namespace Go.Proofs.YtihgdjljnaekmaaGreat
open Go.Fid
set_option maxRecDepth 4000
set_option linter.unusedVariables false
set_option linter.unusedSimpArgs false
theorem cb122 : callB Tryz.prog 122 = true := by kernel_rfl
theorem cb123 : callB Tryz.prog 123 = true := by kernel_rfl
theorem cb159 : callB Tryz.prog 159 = true := by kernel_rfl
theorem g_reduced (num den : kG) (a b : Int) (dS : zW num a 68719476736) (mM : zW den b 68719476736) (hb : b ≠ 0) : jZ Tryz.prog 159 [(jJ num), (jJ den)] (kX (yP (Rat.divInt a b))) := by
 refine jL Tryz.func159 rfl cb159 rfl ?_
 show qS _ _ _ _ ⟨[(0, (.d (jJ num))), (1, (.d (jJ den)))], []⟩
 refine jA <| kx [(2, (.ref 0 0)), (3, (.ref 1 0)), (4, (.ref 2 0))] [(0, some (bx (jJ num))), (1, some (bx (jJ den))), (2, some (bx (kX (uG.mk (kG.mk false []) (kG.mk false [])))))] (zN (zL 0) <| zN (zL 1) <| zN (uQ 2 cW dA) <| zZ) ?_
 refine jA <| kx [(5, (.ref 3 0))] [(3, some (bx (jJ (jR ((Int.gcd a b : Nat) : Int)))))] (zR (kT jM) <| zR (kT jM) <| zE (kD (rs_gcd dS mM (by decide) (by decide))) <| zN (uQ 3 uN uM) <| zT (kZ jM) <| zZ) ?_
 refine jA <| jA <| kx [(17, (vb (decide ((kF b) < 0))))] [] (zR (kT jM) <| zE (kD (rs_sign mM (by decide))) <| zE uP <| zZ) ?_
 refine jG (b := decide ((kF b) < 0)) rfl (fun h1 => ?_) (fun h1 => ?_)
 ·replace h1 := of_decide_eq_true h1
  have hlt := signI_lt.1 h1
  refine kx [] [(3, some (bx (jJ (jR (-(((Int.gcd a b : Nat) : Int)))))))] (zR (kT jM) <| zE (kD (rs_neg (qP (k := 68719476736) dS mM (by decide)) (by decide))) <| zT (kZ jM) <| zZ) ?_
  refine jA <| kx [(6, (.ref 4 0))] [(4, some (bx (jJ (jR (a.fdiv (-(((Int.gcd a b : Nat) : Int)))))))), (5, none)] (zR (kT jM) <| zR (kT jM) <| zE (kD (nC dS (hH (qP (k := 68719476736) dS mM (by decide))) (by decide) (by decide) (by have := gcd_ne (a := a) hb; omega))) <| zM <| zE qG <| zE qG <| zE qG <| zN (uQ 4 uN uM) <| zN (uQ 5 uN uM) <| zT (kZ jM) <| zT (kZ jM) <| zM <| zZ) ?_
  refine jA <| kx [(9, (.ref 6 0))] [(6, some (bx (jJ (jR (b.fdiv (-(((Int.gcd a b : Nat) : Int)))))))), (7, none)] (zR (kT jM) <| zR (kT jM) <| zE (kD (nC mM (hH (qP (k := 68719476736) dS mM (by decide))) (by decide) (by decide) (by have := gcd_ne (a := a) hb; omega))) <| zM <| zE qG <| zE qG <| zE qG <| zN (uQ 6 uN uM) <| zN (uQ 7 uN uM) <| zT (kZ jM) <| zT (kZ jM) <| zM <| zZ) ?_
  refine jA <| kx [] [(2, some (bx (kX (uG.mk (jR (a.fdiv (-(((Int.gcd a b : Nat) : Int))))) (jR (b.fdiv (-(((Int.gcd a b : Nat) : Int)))))))))] (zR (kT jM) <| zR (kT jM) <| zE (eQ pl51 cW dA) <| zT (kZ vP) <| zZ) ?_
  refine jI ⟨_, (kS (cs := (bx (kX (uG.mk (jR (a.fdiv (-(((Int.gcd a b : Nat) : Int))))) (jR (b.fdiv (-(((Int.gcd a b : Nat) : Int))))))))) (d := (kX (uG.mk (jR (a.fdiv (-(((Int.gcd a b : Nat) : Int))))) (jR (b.fdiv (-(((Int.gcd a b : Nat) : Int)))))))) rfl rfl vP rfl rfl .nil), ?_⟩
  rw [← red_neg2 hlt]; rfl
 ·replace h1 := of_decide_eq_false h1
  have hge : ¬ b < 0 := fun hh => h1 (signI_lt.2 hh)
  refine jF <| jA <| kx [(6, (.ref 8 0))] [(8, some (bx (jJ (jR (a.fdiv (((Int.gcd a b : Nat) : Int))))))), (9, none)] (zR (kT jM) <| zR (kT jM) <| zE (kD (nC dS (qP (k := 68719476736) dS mM (by decide)) (by decide) (by decide) (by have := gcd_ne (a := a) hb; omega))) <| zM <| zE qG <| zE qG <| zE qG <| zN (uQ 8 uN uM) <| zN (uQ 9 uN uM) <| zT (kZ jM) <| zT (kZ jM) <| zM <| zZ) ?_
  refine jA <| kx [(9, (.ref 10 0))] [(10, some (bx (jJ (jR (b.fdiv (((Int.gcd a b : Nat) : Int))))))), (11, none)] (zR (kT jM) <| zR (kT jM) <| zE (kD (nC mM (qP (k := 68719476736) dS mM (by decide)) (by decide) (by decide) (by have := gcd_ne (a := a) hb; omega))) <| zM <| zE qG <| zE qG <| zE qG <| zN (uQ 10 uN uM) <| zN (uQ 11 uN uM) <| zT (kZ jM) <| zT (kZ jM) <| zM <| zZ) ?_
  refine jA <| kx [] [(2, some (bx (kX (uG.mk (jR (a.fdiv (((Int.gcd a b : Nat) : Int)))) (jR (b.fdiv (((Int.gcd a b : Nat) : Int))))))))] (zR (kT jM) <| zR (kT jM) <| zE (eQ pl51 cW dA) <| zT (kZ vP) <| zZ) ?_
  refine jI ⟨_, (kS (cs := (bx (kX (uG.mk (jR (a.fdiv (((Int.gcd a b : Nat) : Int)))) (jR (b.fdiv (((Int.gcd a b : Nat) : Int)))))))) (d := (kX (uG.mk (jR (a.fdiv (((Int.gcd a b : Nat) : Int)))) (jR (b.fdiv (((Int.gcd a b : Nat) : Int))))))) rfl rfl vP rfl rfl .nil), ?_⟩
  rw [red_pos hge hb]; rfl
theorem g_whole1 (n : Int) (hlo : -9223372036854775808 ≤ n) (hhi : n ≤ 9223372036854775807) : jZ Tryz.prog 123 [(.val (.int .i64 (n)))] (jJ (jR n)) := by
 refine jL Tryz.func123 rfl cb123 rfl ?_
 show qS _ _ _ _ ⟨[(0, (vi n))], []⟩
 refine jA <| kx [(2, (.ref 0 0))] [(0, some (bx (jJ (kG.mk false []))))] (zN (uQ 0 uN uM) <| zZ) ?_
 refine jA <| kx [] [(0, some (bx (jJ (jR n))))] (zM <| zE (kD (r_of n (by omega) (by omega))) <| zT (kZ jM) <| zZ) ?_
 refine jI ⟨_, (kS (cs := (bx (jJ (jR n)))) (d := (jJ (jR n))) rfl rfl jM rfl rfl .nil), ?_⟩
 rfl
end Go.Proofs.YtihgdjljnaekmaaGreat
namespace Go.Proofs.YtihgdjljnaekmaaGreat
open Go.Fid
set_option maxRecDepth 4000
set_option linter.unusedVariables false
set_option linter.unusedSimpArgs false
end Go.Proofs.YtihgdjljnaekmaaGreat
set_option linter.unusedVariables false
set_option linter.unusedSimpArgs false
namespace Go.Fid
open Go.RowKit (Below)
section
variable {P : Program} {o : Oper} {S : Nat → SV}
theorem e_mkf {f : FuncId} {ks : List Nat} {aK : List Operand} (ho : o.op = .makeFunc (.func f) #[] aK.toArray) (hx : aK.map (ev S) = ks.map (fun k => .ref k 0)) : qR P o S [] (.clo f ks) :=
  qR.same fun a w D β hop _ => by
    refine ⟨.func (.func f) #[] (aK.map a.eval).toArray, ?_, aK.map a.eval, rfl, ?_, fun i k hk => ?_⟩
    · simp only [execOp, ho, Instr.makeFunc, Array.map_empty, List.map_toArray, Sem.run_bind, Sem.run_pure, Result.andThen_ok]
      rfl
    · simpa using congrArg List.length hx
    · have hi := congrArg (fun l : List SV => l[i]?) hx
      simp only [List.getElem?_map, hk, Option.map_some, Option.map_eq_some_iff] at hi
      obtain ⟨c, hc, e⟩ := hi
      have hm := hop c (by simp [ho, Op.operands, List.mem_of_getElem? hc])
      rw [e] at hm
      obtain ⟨b, h1, h2⟩ := hm
      exact ⟨b, h1, by rw [List.getElem?_map, hc, Option.map_some, h2]⟩
theorem oMf {f : FuncId} {aK : List Operand} (ks : List Nat) (ho : o.op = .makeFunc (.func f) #[] aK.toArray := by exact rfl) (hx : aK.map (ev S) = ks.map (fun k => .ref k 0) := by kernel_rfl) : qR P o S [] (.clo f ks) := e_mkf ho hx
end
section
variable {P : Program} {n : Fr} {ops : Array Oper} {K : SL → BS → Prop} {S : SL} {B : BS} {l : List Oper} {o : Oper} {news : List Nat} {acc0 : List (List Nat × List Nat)}
end
end Go.Fid
set_option linter.unusedVariables false
set_option linter.unusedSimpArgs false
namespace Go.Fid
open Go.RowKit (Below)
inductive CArgs (bl : List (Nat × List kE)) : List Nat → List (List kE) → Prop
  | nil : CArgs bl [] []
  | cons {k : Nat} {cs : List kE} {ks : List Nat} {css : List (List kE)} (hk : (k, cs) ∈ bl) (h : CArgs bl ks css) : CArgs bl (k :: ks) (cs :: css)
theorem CArgs.len {bl : List (Nat × List kE)} {ks : List Nat} {css : List (List kE)} (h : CArgs bl ks css) : ks.length = css.length := by
  induction h with
  | nil => rfl
  | cons hk h ih => simp [ih]
theorem CArgs.get {bl : List (Nat × List kE)} {ks : List Nat} {css : List (List kE)} (h : CArgs bl ks css) : ∀ (i : Nat) k cs, ks[i]? = some k → css[i]? = some cs → (k, cs) ∈ bl := by
  induction h with
  | nil => intro i k cs h; simp at h
  | cons hk h ih =>
    intro i k cs h1 h2
    rcases i with _ | i
    · simp at h1 h2; subst h1; subst h2; exact hk
    · exact ih i k cs (by simpa using h1) (by simpa using h2)
inductive fG (bl : List (Nat × List kE)) (E : TypeId) : List SV → List kE → Prop
  | nil : fG bl E [] []
  | d {x : kE} {zs : List SV} {ds : List kE} (h : fG bl E zs ds) : fG bl E (.d x :: zs) (x :: ds)
  | v {k q n s : Nat} {cs es : List kE} {zs : List SV} {ds : List kE} (hk : (k, cs) ∈ bl) (hes : ∀ e ∈ es, e.cells.length = s) (hl : es.length = n) (hc : (cs.drop q).take (n * s) = flat es) (h : fG bl E zs ds) : fG bl E (.view k q n :: zs) (.sl E s es :: ds)
  | p {k o : Nat} {cs : List kE} {zs : List SV} {ds : List kE} (hk : (k, cs) ∈ bl) (h : fG bl E zs ds) : fG bl E (.ref k o :: zs) (.cptr E cs o :: ds)
  | c {f : FuncId} {ks : List Nat} {css : List (List kE)} {zs : List SV} {ds : List kE} (hk : CArgs bl ks css) (h : fG bl E zs ds) : fG bl E (.clo f ks :: zs) (.clo f (css.map fun cs => .cptr E cs 0) :: ds)
theorem fG.len {bl : List (Nat × List kE)} {E : TypeId} {zs : List SV} {ds : List kE} (h : fG bl E zs ds) : zs.length = ds.length := by
  induction h with
  | nil => rfl
  | d h ih => simp [ih]
  | v hk hes hl hc h ih => simp [ih]
  | p hk h ih => simp [ih]
  | c hk h ih => simp [ih]
theorem fG.rep {bl : List (Nat × List kE)} {E : TypeId} {zs : List SV} {ds : List kE} (h : fG bl E zs ds) {w : World} {D D' : qB} {β : qH} (h1 : ∀ v x, uE w D v x → uE w D' v x)
    (h2 : ∀ (k q n s : Nat) (cs es : List kE) (v : Value), (k, cs) ∈ bl → (∀ e ∈ es, e.cells.length = s) → es.length = n → (cs.drop q).take (n * s) = flat es → qE w D β v (.view k q n) → uE w D' v (.sl E s es))
    (h3 : ∀ (k o : Nat) (cs : List kE) (v : Value), (k, cs) ∈ bl → qE w D β v (.ref k o) → uE w D' v (.cptr E cs o)) :
    ∀ (vs : List Value), vs.length = zs.length → (∀ (i : Nat) v x, vs[i]? = some v → zs[i]? = some x → qE w D β v x) → ∀ (i : Nat) v d, vs[i]? = some v → ds[i]? = some d → uE w D' v d := by
  induction h with
  | nil => intro vs _ _ i v d _ hd; simp at hd
  | d h ih =>
    intro vs hl hr i v d' hv hd
    rcases vs with _ | ⟨v0, vs⟩
    · simp at hl
    · rcases i with _ | i
      · simp at hv hd; subst hv; subst hd; exact h1 _ _ (hr 0 _ _ rfl rfl)
      · exact ih vs (by simpa using hl) (fun i v x h3 h4 => hr (i + 1) v x (by simpa using h3) (by simpa using h4)) i v d' (by simpa using hv) (by simpa using hd)
  | v hk hes hl' hc h ih =>
    intro vs hl hr i v d' hv hd
    rcases vs with _ | ⟨v0, vs⟩
    · simp at hl
    · rcases i with _ | i
      · simp at hv hd; subst hv; subst hd; exact h2 _ _ _ _ _ _ _ hk hes hl' hc (hr 0 _ _ rfl rfl)
      · exact ih vs (by simpa using hl) (fun i v x h3 h4 => hr (i + 1) v x (by simpa using h3) (by simpa using h4)) i v d' (by simpa using hv) (by simpa using hd)
  | p hk h ih =>
    intro vs hl hr i v d' hv hd
    rcases vs with _ | ⟨v0, vs⟩
    · simp at hl
    · rcases i with _ | i
      · simp at hv hd; subst hv; subst hd; exact h3 _ _ _ _ hk (hr 0 _ _ rfl rfl)
      · exact ih vs (by simpa using hl) (fun i v x h3 h4 => hr (i + 1) v x (by simpa using h3) (by simpa using h4)) i v d' (by simpa using hv) (by simpa using hd)
  | c hk h ih =>
    intro vs hl hr i v d' hv hd
    rcases vs with _ | ⟨v0, vs⟩
    · simp at hl
    · rcases i with _ | i
      · simp at hv hd; subst hv; subst hd
        obtain ⟨us, e1, e2, e3⟩ := hr 0 _ _ rfl rfl
        rw [e1]
        refine .clo us (by rw [e2, hk.len, List.length_map]) fun j u d hu hd => ?_
        rw [List.getElem?_map, Option.map_eq_some_iff] at hd
        obtain ⟨cs, hcs, rfl⟩ := hd
        have hlt : j < _ := (List.getElem?_eq_some_iff.1 hcs).1
        rw [← hk.len] at hlt
        obtain ⟨b, g1, g2⟩ := e3 j _ (List.getElem?_eq_getElem hlt)
        rw [hu] at g2
        injection g2 with g2
        exact h3 _ 0 cs u (hk.get j _ cs (List.getElem?_eq_getElem hlt) hcs) ⟨b, g1, g2⟩
      · exact ih vs (by simpa using hl) (fun i v x h3 h4 => hr (i + 1) v x (by simpa using h3) (by simpa using h4)) i v d' (by simpa using hv) (by simpa using hd)
end Go.Fid
