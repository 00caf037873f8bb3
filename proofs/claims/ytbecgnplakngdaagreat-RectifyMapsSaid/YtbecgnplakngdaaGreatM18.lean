/- Part 18 of a proof: rules, plain facts, and functions walked. -/
import Derived.Test.YtbecgnplakngdaaGreatM17
namespace Go.Proofs.YtbecgnplakngdaaGreat
open Go.Fid
set_option maxRecDepth 4000
set_option linter.unusedVariables false
set_option linter.unusedSimpArgs false
theorem cb109 : callB Tryz.prog 109 = true := by kernel_rfl
theorem cb110 : callB Tryz.prog 110 = true := by kernel_rfl
theorem cb136 : callB Tryz.prog 136 = true := by kernel_rfl
theorem r_gcd (x : jF) (y : jF) (hx : x.gs.length ≤ 1099511627776) (hy : y.gs.length ≤ 1099511627776) : kE Tryz.prog 110 [(kB x), (kB y)] (kB (qD ((Int.gcd (kT x) (kT y) : Nat) : Int))) := by
 have hvx := dD x
 have hvy := dD y
 refine jN Tryz.func110 rfl cb110 rfl ?_
 show uT _ _ _ _ ⟨[(0, (.d (kB x))), (1, (.d (kB y)))], []⟩
 refine jA <| kx [(2, (.ref 0 0)), (3, (.ref 1 0)), (4, (.ref 2 0))] [(0, some (bx (kB x))), (1, some (bx (kB y))), (2, some (bx (kB (jF.mk false []))))] (zN (uX 0) <| zN (uX 1) <| zN (qS 2 gR gQ) <| zZ) ?_
 refine jA <| kd [(5, (vl 152 1 jC (ofNat (Int.natAbs (kT x))))), (6, (vl 152 1 jC (ofNat (Int.natAbs (kT y)))))] [] mo (wR (kC kW) <| wE (kA (dE x (by omega))) <| wE (oF1 aE yM) <| wR (kC kW) <| wE (kA (dE y (by omega))) <| wE (oF1 aE yM) <| wM <| wM <| wZ) ?_
 refine jA <| jG <| vE (α := List Nat × List Nat) (fun (a, b) => ⟨[(4, (.ref 2 0)), (5, (vl 152 1 jC a)), (6, (vl 152 1 jC b))], [(2, some (bx (kB (jF.mk false []))))]⟩) (fun (a, b) => gE a ∧ gE b ∧ a.length ≤ 1099511627776 ∧ b.length ≤ 1099511627776 ∧ Nat.gcd (val a) (val b) = Int.gcd (kT x) (kT y)) (fun (a, b) => val b) ((ofNat (Int.natAbs (kT x))), (ofNat (Int.natAbs (kT y)))) wk ⟨uD _, uD _, by omega, by omega, by rw [kZ, kZ]; rfl⟩ ?_
 rintro ⟨a, b⟩ ⟨ha, hb, hla, hlb, hg⟩
 refine jA <| jA <| kx [(29, (vb (decide (0 < ((b.length : Nat) : Int)) && (decide (2 < ((a.length : Nat) : Int)) || decide (2 < ((b.length : Nat) : Int))))))] [] ?_ ?_
 ·refine zM <| zE (nZ qG) <| zE aG <| zE (oV (vb (decide (0 < ((b.length : Nat) : Int)))) (vZ (by kernel_rfl))) <| ?_
  rcases hb1 : (decide (0 < ((b.length : Nat) : Int))) with _ | _
  ·replace hb1 := of_decide_eq_false hb1
   exact zK <| zK <| zK <| zK <| zK <| zK <| zK <| zK <| zE oPf <| zZ
  ·replace hb1 := of_decide_eq_true hb1
   refine zM <| zE (nZ qG) <| zE aG <| zE (oV (vb (decide (2 < ((a.length : Nat) : Int)))) (vZ (by kernel_rfl))) <| ?_
   rcases hb2 : (decide (2 < ((a.length : Nat) : Int))) with _ | _
   ·replace hb2 := of_decide_eq_false hb2
    exact zM <| zE (nZ qG) <| zE aG <| zE oPo <| zE oPa <| zZ
   ·replace hb2 := of_decide_eq_true hb2
    exact zK <| zK <| zK <| zE eE <| zE eE <| zZ
 refine jY rfl (fun h3 => ?_) (fun h3 => ?_)
 ·have hbl : 0 < b.length := by rw [Bool.and_eq_true, decide_eq_true_eq] at h3; omega
  have hb0 := mI hb hbl
  refine jE <| jG <| jA <| kx [(8, (vl 152 1 jC (ofNat (val a % val b))))] [] (zM <| zM <| zE (kA (r_parts a b ha hb (by omega) (by omega) (by omega))) <| zM <| zE uH <| zE uH <| zM <| zM <| zZ) ?_
  refine kx [(5, (vl 152 1 jC b)), (6, (vl 152 1 jC (ofNat (val a % val b))))] [] (zM <| zM <| zM <| zM <| zZ) ?_
  exact ⟨(b, ofNat (val a % val b)), wk, ⟨hb, uD _, hlb, Nat.le_trans (len_rem a ha _) hla, by rw [kZ, ← hg, Nat.gcd_comm, ← Nat.gcd_rec, Nat.gcd_comm]⟩, (by dsimp only; rw [kZ]; exact Nat.mod_lt _ hb0)⟩
 ·have hex := h3
  refine qF <| jA <| jA <| kx [(40, (vb (((b.length : Nat) : Int) == 0)))] [] (zM <| zE (nZ qG) <| zE fA <| zZ) ?_
  refine jY (b := (((b.length : Nat) : Int) == 0)) rfl (fun h4 => ?_) (fun h4 => ?_)
  ·replace h4 := eq_of_beq h4
   have hb1 : b = [] := List.eq_nil_of_length_eq_zero (by omega)
   rw [hb1, val_nil, Nat.gcd_zero_right] at hg
   refine jA <| kx [] [(2, some (bx (kB (zG false (val a)))))] (zM <| zE (kA (hZ false a ha.1 (by omega))) <| zT (qB kW) <| zZ) ?_
   refine jJ ⟨_, (qI (cs := (bx (kB (zG false (val a))))) (d := (kB (zG false (val a)))) rfl rfl kW rfl rfl .nil), ?_⟩
   rw [← hg, mkI_false]; rfl
  ·replace h4 := ne_of_beq_false h4
   have hl2 : a.length ≤ 2 ∧ b.length ≤ 2 := by simp only [Bool.and_eq_false_iff, Bool.or_eq_false_iff, decide_eq_false_iff_not] at hex; omega
   refine jE <| jA <| kx [(9, (gB (val a))), (10, (gB (val b)))] [] (zM <| zE (kA (r_pair a ha.1 (by omega))) <| zM <| zE (kA (r_pair b hb.1 (by omega))) <| zM <| zM <| zZ) ?_
   refine jA <| jG <| vE (α := Nat × Nat) (fun (m, n) => ⟨[(4, (.ref 2 0)), (9, (gB m)), (10, (gB n))], [(2, some (bx (kB (jF.mk false []))))]⟩) (fun (m, n) => m < 1000000000000000000 ∧ n < 1000000000000000000 ∧ Nat.gcd m n = Int.gcd (kT x) (kT y)) (fun (m, n) => n) (val a, val b) wk ⟨val_len2 ha.1 hl2.1, val_len2 hb.1 hl2.2, hg⟩ ?_
   rintro ⟨m, n⟩ ⟨hm, hn, hg2⟩
   refine jA <| jA <| kx [(48, (vb (decide (0 < ((n : Nat) : Int)))))] [] (zM <| zE aG <| zZ) ?_
   refine jY (b := decide (0 < ((n : Nat) : Int))) rfl (fun h5 => ?_) (fun h5 => ?_)
   ·replace h5 := of_decide_eq_true h5
    refine jE <| jG <| kd [(9, (gB n)), (10, (gB (m % n)))] [] mo (wM <| wM <| wM <| wE (oRe (m % n)) <| wM <| wM <| wZ) ?_
    exact ⟨(n, m % n), wk, ⟨hn, Nat.lt_of_le_of_lt (Nat.mod_le _ _) hm, by rw [← hg2, Nat.gcd_comm, ← Nat.gcd_rec, Nat.gcd_comm]⟩, (by dsimp only; exact Nat.mod_lt _ (by omega))⟩
   ·replace h5 := of_decide_eq_false h5
    obtain rfl : n = 0 := by omega
    rw [Nat.gcd_zero_right] at hg2
    have hmv : val [m % 1000000000, m / 1000000000] = m := by simp only [val]; omega
    refine qF <| jA <| kx [] [(2, some (bx (kB (zG false (val [(m % 1000000000), (m / 1000000000)])))))] (zM <| zE (oRe (m % 1000000000)) <| zE (mE gW gK (m % 1000000000)) <| zM <| zE (oQu (m / 1000000000)) <| zE (mE gW gK (m / 1000000000)) <| zE (cH qG xO yU) <| zE (kA (hZ false [(m % 1000000000), (m / 1000000000)] (yV.2 ⟨Nat.mod_lt _ (by decide), yV.2 ⟨by omega, gN⟩⟩) (by simp))) <| zT (qB kW) <| zZ) ?_
    refine jJ ⟨_, (qI (cs := (bx (kB (zG false (val [(m % 1000000000), (m / 1000000000)]))))) (d := (kB (zG false (val [(m % 1000000000), (m / 1000000000)])))) rfl rfl kW rfl rfl .nil), ?_⟩
    rw [← hg2, hmv, mkI_false]; rfl
theorem r_compare (x : jF) (y : jF) (hx : x.gs.length ≤ 274877906944) (hy : y.gs.length ≤ 274877906944) : kE Tryz.prog 109 [(kB x), (kB y)] (.val (.int .i64 ((xC (kT x) (kT y))))) := by
 have hv := gs_sub x y
 refine jN Tryz.func109 rfl cb109 rfl ?_
 show uT _ _ _ _ ⟨[(0, (.d (kB x))), (1, (.d (kB y)))], []⟩
 refine jA <| kx [(2, (.ref 0 0)), (3, (.ref 1 0))] [(0, some (bx (kB x))), (1, some (bx (kB y)))] (zN (uX 0) <| zN (uX 1) <| zM <| zZ) ?_
 refine jA <| kx [(4, (vi (vA (kT (qD (kT x - kT y))))))] [] (zR (kC kW) <| zR (kC kW) <| zE (kA (r_sub x y (by omega) (by omega))) <| zE (kA (r_sign (qD (kT x - kT y)) (by omega))) <| zM <| zZ) ?_
 refine jJ ⟨_, (.tmp (d := (.val (.int .i64 ((vA (kT (qD (kT x - kT y)))))))) rfl .nil), ?_⟩
 rw [mT, signI_sub]; rfl
theorem r_divide (x : jF) (y : jF) (hx : x.gs.length ≤ 274877906944) (hy : y.gs.length ≤ 274877906944) (hy0 : kT y ≠ 0) : kE Tryz.prog 136 [(kB x), (kB y)] (.tup [(kB (qD ((kT x).fdiv (kT y)))), (kB (qD ((kT x).fmod (kT y)))), (.val (.int .i64 (0)))]) := by
 have hvx := dD x
 have hvy := dD y
 have hmx := gs_val x
 have hmy := gs_val y
 have hy1 : 0 < (kT y).natAbs := by omega
 have hyl := dG hy1
 have hql : (ofNat (val (ofNat (Int.natAbs (kT x))) / val (ofNat (Int.natAbs (kT y))))).length ≤ 274877906944 := by have := len_quo (ofNat (Int.natAbs (kT x))) (uD _) (val (ofNat (Int.natAbs (kT y)))); omega
 have hqg : (zG (!((qD (kT x)).neg == (qD (kT y)).neg)) (val (ofNat (val (ofNat (Int.natAbs (kT x))) / val (ofNat (Int.natAbs (kT y))))))).gs.length ≤ 274877906944 := by show (ofNat (val (ofNat (val (ofNat (Int.natAbs (kT x))) / val (ofNat (Int.natAbs (kT y))))))).length ≤ _; rw [kZ]; exact hql
 have hone : (qD 1).gs.length ≤ 1 := (nO (z := 1) (by decide)).l
 have hqs := gs_sub (zG (!((qD (kT x)).neg == (qD (kT y)).neg)) (val (ofNat (val (ofNat (Int.natAbs (kT x))) / val (ofNat (Int.natAbs (kT y))))))) (qD 1)
 refine jN Tryz.func136 rfl cb136 rfl ?_
 show uT _ _ _ _ ⟨[(0, (.d (kB x))), (1, (.d (kB y)))], []⟩
 refine jA <| kx [(2, (.ref 0 0)), (3, (.ref 1 0)), (4, (.ref 2 0)), (5, (.ref 3 0))] [(0, some (bx (kB x))), (1, some (bx (kB y))), (2, some (bx (kB (jF.mk false [])))), (3, some (bx (kB (jF.mk false []))))] (zN (uX 0) <| zN (uX 1) <| zN (qS 2 gR gQ) <| zN (qS 3 gR gQ) <| zM <| zZ) ?_
 refine jA <| kd [] [(0, some (bx (kB (qD (kT x))))), (1, some (bx (kB (qD (kT y)))))] mo (wR (kC kW) <| wE (kA (dE x (by omega))) <| wR (kC kW) <| wE (kA (dE y (by omega))) <| wT (qB kW) <| wT (qB kW) <| wZ) ?_
 refine jA <| jA <| kx [(17, (vb ((((ofNat (Int.natAbs (kT y))).length : Nat) : Int) == 0)))] [] (zE (qE xU) <| zR (vD yM) <| zE (nZ qG (L := (ofNat (Int.natAbs (kT y))))) <| zE fA <| zZ) ?_
 refine jY rfl (fun h1 => ?_) (fun h1 => ?_)
 ·replace h1 := eq_of_beq h1
  exact absurd h1 (by omega)
 ·replace h1 := ne_of_beq_false h1
  refine jE <| jA <| kx [(7, (vl 152 1 jC (ofNat (val (ofNat (Int.natAbs (kT x))) / val (ofNat (Int.natAbs (kT y))))))), (8, (vl 152 1 jC (ofNat (val (ofNat (Int.natAbs (kT x))) % val (ofNat (Int.natAbs (kT y)))))))] [] (zE (qE xU) <| zR (vD yM) <| zE (qE xU) <| zR (vD yM) <| zE (kA (r_parts (ofNat (Int.natAbs (kT x))) (ofNat (Int.natAbs (kT y))) (by first | assumption | exact uD _ | exact uG _) (by first | assumption | exact uD _ | exact uG _) (by omega) (by omega) (by omega))) <| zM <| zE uH <| zE uH <| zM <| zM <| zZ) ?_
  refine jA <| kx [(9, (.ref 4 0))] [(4, some (bx (kB (zG (!(((qD (kT x)).neg) == ((qD (kT y)).neg))) (val (ofNat (val (ofNat (Int.natAbs (kT x))) / val (ofNat (Int.natAbs (kT y))))))))))] (zE (qE xR) <| zR (vD sh4) <| zE (qE xR) <| zR (vD sh4) <| zE (oNb bo4) <| zM <| zE (kA (hZ (!(((qD (kT x)).neg) == ((qD (kT y)).neg))) (ofNat (val (ofNat (Int.natAbs (kT x))) / val (ofNat (Int.natAbs (kT y))))) (qC _) (by omega))) <| zN (qS 4 gR gQ) <| zT (qB kW) <| zZ) ?_
  refine jA <| jA <| kx [(44, (vb (!(((qD (kT x)).neg) == ((qD (kT y)).neg)) && decide (0 < (((ofNat (val (ofNat (Int.natAbs (kT x))) % val (ofNat (Int.natAbs (kT y))))).length : Nat) : Int)))))] [] ?_ ?_
  ·refine zE (qE xR) <| zR (vD sh4) <| zE (qE xR) <| zR (vD sh4) <| zE (oNb bo4) <| zE (oV (vb (!(((qD (kT x)).neg) == ((qD (kT y)).neg)))) (vZ (by kernel_rfl))) <| ?_
   rcases hb2 : (!(((qD (kT x)).neg) == ((qD (kT y)).neg))) with _ | _
   ·exact zK <| zK <| zK <| zE oPf <| zZ
   ·exact zM <| zE (nZ qG (L := (ofNat (val (ofNat (Int.natAbs (kT x))) % val (ofNat (Int.natAbs (kT y))))))) <| zE aG <| zE oPa <| zZ
  refine jY rfl (fun h3 => ?_) (fun h3 => ?_)
  ·have hqm := gs_mul (qD (kT (zG (!((qD (kT x)).neg == (qD (kT y)).neg)) (val (ofNat (val (ofNat (Int.natAbs (kT x))) / val (ofNat (Int.natAbs (kT y))))))) - kT (qD 1))) (qD (kT y))
   have hk := r_div_other (X := kT x) (Y := kT y) hy1 (by rw [Bool.and_eq_true, Bool.not_eq_true', beq_eq_false_iff_ne, decide_eq_true_eq] at h3; exact h3)
   refine kd [] [(4, some (bx (kB (qD (kT (zG (!(((qD (kT x)).neg) == ((qD (kT y)).neg))) (val (ofNat (val (ofNat (Int.natAbs (kT x))) / val (ofNat (Int.natAbs (kT y))))))) - kT (qD 1))))))] mo (wR (kC kW) <| wE (kA (r_of 1 (by omega) (by omega))) <| wE (kA (r_sub (zG (!(((qD (kT x)).neg) == ((qD (kT y)).neg))) (val (ofNat (val (ofNat (Int.natAbs (kT x))) / val (ofNat (Int.natAbs (kT y))))))) (qD 1) (by omega) (by omega))) <| wT (qB kW) <| wZ) ?_
   refine jA <| kd [(6, (kX 0))] [(2, some (bx (kB (qD (kT (zG (!(((qD (kT x)).neg) == ((qD (kT y)).neg))) (val (ofNat (val (ofNat (Int.natAbs (kT x))) / val (ofNat (Int.natAbs (kT y))))))) - kT (qD 1)))))), (3, some (bx (kB (qD (kT (qD (kT x)) - kT (qD (kT (qD (kT (zG (!(((qD (kT x)).neg) == ((qD (kT y)).neg))) (val (ofNat (val (ofNat (Int.natAbs (kT x))) / val (ofNat (Int.natAbs (kT y))))))) - kT (qD 1))) * kT (qD (kT y)))))))))] mo (wR (kC kW) <| wR (kC kW) <| wR (kC kW) <| wR (kC kW) <| wE (kA (r_mul (qD (kT (zG (!(((qD (kT x)).neg) == ((qD (kT y)).neg))) (val (ofNat (val (ofNat (Int.natAbs (kT x))) / val (ofNat (Int.natAbs (kT y))))))) - kT (qD 1))) (qD (kT y)) (by omega) (by omega))) <| wE (kA (r_sub (qD (kT x)) (qD (kT (qD (kT (zG (!(((qD (kT x)).neg) == ((qD (kT y)).neg))) (val (ofNat (val (ofNat (Int.natAbs (kT x))) / val (ofNat (Int.natAbs (kT y))))))) - kT (qD 1))) * kT (qD (kT y)))) (by omega) (by omega))) <| wT (qB kW) <| wT (qB kW) <| wM <| wZ) ?_
   refine jJ ⟨_, (qI (cs := (bx (kB (qD (kT (zG (!(((qD (kT x)).neg) == ((qD (kT y)).neg))) (val (ofNat (val (ofNat (Int.natAbs (kT x))) / val (ofNat (Int.natAbs (kT y))))))) - kT (qD 1)))))) (d := (kB (qD (kT (zG (!(((qD (kT x)).neg) == ((qD (kT y)).neg))) (val (ofNat (val (ofNat (Int.natAbs (kT x))) / val (ofNat (Int.natAbs (kT y))))))) - kT (qD 1))))) rfl rfl kW rfl rfl (qI (cs := (bx (kB (qD (kT (qD (kT x)) - kT (qD (kT (qD (kT (zG (!(((qD (kT x)).neg) == ((qD (kT y)).neg))) (val (ofNat (val (ofNat (Int.natAbs (kT x))) / val (ofNat (Int.natAbs (kT y))))))) - kT (qD 1))) * kT (qD (kT y))))))))) (d := (kB (qD (kT (qD (kT x)) - kT (qD (kT (qD (kT (zG (!(((qD (kT x)).neg) == ((qD (kT y)).neg))) (val (ofNat (val (ofNat (Int.natAbs (kT x))) / val (ofNat (Int.natAbs (kT y))))))) - kT (qD 1))) * kT (qD (kT y)))))))) rfl rfl kW rfl rfl (.tmp (d := (.val (.int .i64 (0)))) rfl .nil))), ?_⟩
   rw [hk, r_rem_eq]; rfl
  ·have hqm := gs_mul (zG (!((qD (kT x)).neg == (qD (kT y)).neg)) (val (ofNat (val (ofNat (Int.natAbs (kT x))) / val (ofNat (Int.natAbs (kT y))))))) (qD (kT y))
   have hk := r_div_same (X := kT x) (Y := kT y) hy1 (by rw [Bool.and_eq_false_iff, Bool.not_eq_false', beq_iff_eq, decide_eq_false_iff_not] at h3; exact h3)
   refine jE <| jA <| kd [(6, (kX 0))] [(2, some (bx (kB (zG (!(((qD (kT x)).neg) == ((qD (kT y)).neg))) (val (ofNat (val (ofNat (Int.natAbs (kT x))) / val (ofNat (Int.natAbs (kT y)))))))))), (3, some (bx (kB (qD (kT (qD (kT x)) - kT (qD (kT (zG (!(((qD (kT x)).neg) == ((qD (kT y)).neg))) (val (ofNat (val (ofNat (Int.natAbs (kT x))) / val (ofNat (Int.natAbs (kT y))))))) * kT (qD (kT y)))))))))] mo (wR (kC kW) <| wR (kC kW) <| wR (kC kW) <| wR (kC kW) <| wE (kA (r_mul (zG (!(((qD (kT x)).neg) == ((qD (kT y)).neg))) (val (ofNat (val (ofNat (Int.natAbs (kT x))) / val (ofNat (Int.natAbs (kT y))))))) (qD (kT y)) (by omega) (by omega))) <| wE (kA (r_sub (qD (kT x)) (qD (kT (zG (!(((qD (kT x)).neg) == ((qD (kT y)).neg))) (val (ofNat (val (ofNat (Int.natAbs (kT x))) / val (ofNat (Int.natAbs (kT y))))))) * kT (qD (kT y)))) (by omega) (by omega))) <| wT (qB kW) <| wT (qB kW) <| wM <| wZ) ?_
   refine jJ ⟨_, (qI (cs := (bx (kB (zG (!(((qD (kT x)).neg) == ((qD (kT y)).neg))) (val (ofNat (val (ofNat (Int.natAbs (kT x))) / val (ofNat (Int.natAbs (kT y)))))))))) (d := (kB (zG (!(((qD (kT x)).neg) == ((qD (kT y)).neg))) (val (ofNat (val (ofNat (Int.natAbs (kT x))) / val (ofNat (Int.natAbs (kT y))))))))) rfl rfl kW rfl rfl (qI (cs := (bx (kB (qD (kT (qD (kT x)) - kT (qD (kT (zG (!(((qD (kT x)).neg) == ((qD (kT y)).neg))) (val (ofNat (val (ofNat (Int.natAbs (kT x))) / val (ofNat (Int.natAbs (kT y))))))) * kT (qD (kT y))))))))) (d := (kB (qD (kT (qD (kT x)) - kT (qD (kT (zG (!(((qD (kT x)).neg) == ((qD (kT y)).neg))) (val (ofNat (val (ofNat (Int.natAbs (kT x))) / val (ofNat (Int.natAbs (kT y))))))) * kT (qD (kT y)))))))) rfl rfl kW rfl rfl (.tmp (d := (.val (.int .i64 (0)))) rfl .nil))), ?_⟩
   rw [hk, r_rem_eq]; rfl
end Go.Proofs.YtbecgnplakngdaaGreat
namespace Go.Proofs.YtbecgnplakngdaaGreat
open Go.Fid
set_option maxRecDepth 4000
set_option linter.unusedVariables false
set_option linter.unusedSimpArgs false
theorem s_neg {x : jF} {a : Int} {m : Nat} (hx : nB x a m) (hm : m ≤ 274877906944) : kE Tryz.prog 177 [(kB x)] (kB (qD (-a))) := by
 obtain ⟨rfl, hx'⟩ := hx
 exact t_neg x (by omega)
theorem s_sign {x : jF} {a : Int} {m : Nat} (hx : nB x a m) (hm : m ≤ 274877906944) : kE Tryz.prog 138 [(kB x)] (.val (.int .i64 (vA a))) := by
 obtain ⟨rfl, hx'⟩ := hx
 exact t_sign x (by omega)
theorem s_add {x y : jF} {a b : Int} {m n : Nat} (hx : nB x a m) (hy : nB y b n) (hm : m ≤ 274877906944) (hn : n ≤ 274877906944) : kE Tryz.prog 188 [(kB x), (kB y)] (kB (qD (a + b))) := by
 obtain ⟨rfl, hx'⟩ := hx; obtain ⟨rfl, hy'⟩ := hy
 exact t_add x y (by omega) (by omega)
theorem s_mul {x y : jF} {a b : Int} {m n : Nat} (hx : nB x a m) (hy : nB y b n) (hm : m ≤ 274877906944) (hn : n ≤ 274877906944) : kE Tryz.prog 140 [(kB x), (kB y)] (kB (qD (a * b))) := by
 obtain ⟨rfl, hx'⟩ := hx; obtain ⟨rfl, hy'⟩ := hy
 exact t_mul x y (by omega) (by omega)
theorem s_compare {x y : jF} {a b : Int} {m n : Nat} (hx : nB x a m) (hy : nB y b n) (hm : m ≤ 274877906944) (hn : n ≤ 274877906944) : kE Tryz.prog 144 [(kB x), (kB y)] (.val (.int .i64 (xC a b))) := by
 obtain ⟨rfl, hx'⟩ := hx; obtain ⟨rfl, hy'⟩ := hy
 exact t_compareI x y (by omega) (by omega)
theorem s_gcd {x y : jF} {a b : Int} {m n : Nat} (hx : nB x a m) (hy : nB y b n) (hm : m ≤ 274877906944) (hn : n ≤ 274877906944) : kE Tryz.prog 145 [(kB x), (kB y)] (kB (qD ((Int.gcd a b : Nat) : Int))) := by
 obtain ⟨rfl, hx'⟩ := hx; obtain ⟨rfl, hy'⟩ := hy
 exact t_gcdI x y (by omega) (by omega)
theorem s_divide {x y : jF} {a b : Int} {m n : Nat} (hx : nB x a m) (hy : nB y b n) (hm : m ≤ 274877906944) (hn : n ≤ 274877906944) (hb : b ≠ 0) : kE Tryz.prog 151 [(kB x), (kB y)] (.tup [(kB (qD (a.fdiv b))), (kB (qD (a.fmod b))), (.val (.int .i64 0))]) := by
 obtain ⟨rfl, hx'⟩ := hx; obtain ⟨rfl, hy'⟩ := hy
 exact t_divideI x y (by omega) (by omega) hb
theorem rs_neg {x : jF} {a : Int} {m : Nat} (hx : nB x a m) (hm : m ≤ 274877906944) : kE Tryz.prog 134 [(kB x)] (kB (qD (-a))) := by
 obtain ⟨rfl, hx'⟩ := hx
 exact r_neg x (by omega)
theorem rs_sign {x : jF} {a : Int} {m : Nat} (hx : nB x a m) (hm : m ≤ 274877906944) : kE Tryz.prog 84 [(kB x)] (.val (.int .i64 (vA a))) := by
 obtain ⟨rfl, hx'⟩ := hx
 exact r_sign x (by omega)
theorem rs_add {x y : jF} {a b : Int} {m n : Nat} (hx : nB x a m) (hy : nB y b n) (hm : m ≤ 274877906944) (hn : n ≤ 274877906944) : kE Tryz.prog 135 [(kB x), (kB y)] (kB (qD (a + b))) := by
 obtain ⟨rfl, hx'⟩ := hx; obtain ⟨rfl, hy'⟩ := hy
 exact r_add x y (by omega) (by omega)
theorem rs_mul {x y : jF} {a b : Int} {m n : Nat} (hx : nB x a m) (hy : nB y b n) (hm : m ≤ 274877906944) (hn : n ≤ 274877906944) : kE Tryz.prog 103 [(kB x), (kB y)] (kB (qD (a * b))) := by
 obtain ⟨rfl, hx'⟩ := hx; obtain ⟨rfl, hy'⟩ := hy
 exact r_mul x y (by omega) (by omega)
theorem rs_compare {x y : jF} {a b : Int} {m n : Nat} (hx : nB x a m) (hy : nB y b n) (hm : m ≤ 274877906944) (hn : n ≤ 274877906944) : kE Tryz.prog 109 [(kB x), (kB y)] (.val (.int .i64 (xC a b))) := by
 obtain ⟨rfl, hx'⟩ := hx; obtain ⟨rfl, hy'⟩ := hy
 exact r_compare x y (by omega) (by omega)
theorem rs_gcd {x y : jF} {a b : Int} {m n : Nat} (hx : nB x a m) (hy : nB y b n) (hm : m ≤ 274877906944) (hn : n ≤ 274877906944) : kE Tryz.prog 110 [(kB x), (kB y)] (kB (qD ((Int.gcd a b : Nat) : Int))) := by
 obtain ⟨rfl, hx'⟩ := hx; obtain ⟨rfl, hy'⟩ := hy
 exact r_gcd x y (by omega) (by omega)
theorem rs_divide {x y : jF} {a b : Int} {m n : Nat} (hx : nB x a m) (hy : nB y b n) (hm : m ≤ 274877906944) (hn : n ≤ 274877906944) (hb : b ≠ 0) : kE Tryz.prog 136 [(kB x), (kB y)] (.tup [(kB (qD (a.fdiv b))), (kB (qD (a.fmod b))), (.val (.int .i64 0))]) := by
 obtain ⟨rfl, hx'⟩ := hx; obtain ⟨rfl, hy'⟩ := hy
 exact r_divide x y (by omega) (by omega) hb
end Go.Proofs.YtbecgnplakngdaaGreat
namespace Go.Proofs.YtbecgnplakngdaaGreat
open Go.Fid
set_option maxRecDepth 4000
set_option linter.unusedVariables false
set_option linter.unusedSimpArgs false
theorem cb97 : callB Tryz.prog 97 = true := by kernel_rfl
theorem cb102 : callB Tryz.prog 102 = true := by kernel_rfl
theorem cb104 : callB Tryz.prog 104 = true := by kernel_rfl
theorem cb105 : callB Tryz.prog 105 = true := by kernel_rfl
theorem cb121 : callB Tryz.prog 121 = true := by kernel_rfl
theorem cb130 : callB Tryz.prog 130 = true := by kernel_rfl
theorem cb137 : callB Tryz.prog 137 = true := by kernel_rfl
theorem cb139 : callB Tryz.prog 139 = true := by kernel_rfl
theorem cb146 : callB Tryz.prog 146 = true := by kernel_rfl
theorem cb170 : callB Tryz.prog 170 = true := by kernel_rfl
theorem cb176 : callB Tryz.prog 176 = true := by kernel_rfl
theorem zL : xE Tryz.prog 42 0 = some 0 := by kernel_rfl
theorem zW : xE Tryz.prog 42 1 = some 2 := by kernel_rfl
theorem ft42_0 : bC Tryz.prog 42 0 = some (0, 40) := by kernel_rfl
theorem pl42 : mA Tryz.prog 42 = some [(0, 2), (2, 2)] := by kernel_rfl
theorem jT : uK Tryz.prog 42 = some (true, 4) := by kernel_rfl
theorem qR : xI Tryz.prog 42 = some [.bool false, .slice none 0 0, .bool false, .slice none 0 0] := by kernel_rfl
theorem qY : mG [.bool false, .slice none 0 0, .bool false, .slice none 0 0] [.val (.bool false), .sl 152 1 [], .val (.bool false), .sl 152 1 []] := by simp [mG, Value.oneCell']
theorem f_reduced (num den : jF) (a b : Int) (eC : nB num a 68719476736) (mL : nB den b 68719476736) (hb : b ≠ 0) : kE Tryz.prog 139 [(kB num), (kB den)] (jR (jB (Rat.divInt a b))) := by
 refine jN Tryz.func139 rfl cb139 rfl ?_
 show uT _ _ _ _ ⟨[(0, (.d (kB num))), (1, (.d (kB den)))], []⟩
 refine jA <| kx [(2, (.ref 0 0)), (3, (.ref 1 0)), (4, (.ref 2 0))] [(0, some (bx (kB num))), (1, some (bx (kB den))), (2, some (bx (jR (jQ.mk (jF.mk false []) (jF.mk false [])))))] (zN (uX 0) <| zN (uX 1) <| zN (qS 2 qR qY) <| zZ) ?_
 refine jA <| jA <| kx [(8, (vb (decide ((vA b) < 0))))] [] (zR (kC kW) <| zE (kA (s_sign mL (by decide))) <| zE uW <| zZ) ?_
 refine jY (b := decide ((vA b) < 0)) rfl (fun h1 => ?_) (fun h1 => ?_)
 ·replace h1 := of_decide_eq_true h1
  have hlt := signI_lt.1 h1
  have hb2 : -b ≠ 0 := by omega
  refine kd [] [(0, some (bx (kB (qD (-a))))), (1, some (bx (kB (qD (-b)))))] mo (wR (kC kW) <| wE (kA (s_neg eC (by decide))) <| wR (kC kW) <| wE (kA (s_neg mL (by decide))) <| wT (qB kW) <| wT (qB kW) <| wZ) ?_
  refine jA <| kx [(5, (.ref 3 0))] [(3, some (bx (kB (qD ((Int.gcd (-a) (-b) : Nat) : Int)))))] (zR (kC kW) <| zR (kC kW) <| zE (kA (s_gcd (mB eC) (mB mL) (by decide) (by decide))) <| zN (qS 3 gR gQ) <| zT (qB kW) <| zZ) ?_
  refine jA <| kx [] [(0, some (bx (kB (qD ((-a).fdiv (((Int.gcd (-a) (-b) : Nat) : Int)))))))] (zR (kC kW) <| zR (kC kW) <| zE (kA (s_divide (mB eC) (gM (k := 68719476736) (mB eC) (mB mL) (by decide)) (by decide) (by decide) (gcd_ne (by omega)))) <| zM <| zE uH <| zE uH <| zE uH <| zT (qB kW) <| zZ) ?_
  refine jA <| kx [] [(1, some (bx (kB (qD ((-b).fdiv (((Int.gcd (-a) (-b) : Nat) : Int)))))))] (zR (kC kW) <| zR (kC kW) <| zE (kA (s_divide (mB mL) (gM (k := 68719476736) (mB eC) (mB mL) (by decide)) (by decide) (by decide) (gcd_ne (by omega)))) <| zM <| zE uH <| zE uH <| zE uH <| zT (qB kW) <| zZ) ?_
  refine jA <| kx [] [(2, some (bx (jR (jQ.mk (qD ((-a).fdiv (((Int.gcd (-a) (-b) : Nat) : Int)))) (qD ((-b).fdiv (((Int.gcd (-a) (-b) : Nat) : Int))))))))] (zR (kC kW) <| zR (kC kW) <| zE (fK pl42 qR qY) <| zT (qB jT) <| zZ) ?_
  refine jJ ⟨_, (qI (cs := (bx (jR (jQ.mk (qD ((-a).fdiv (((Int.gcd (-a) (-b) : Nat) : Int)))) (qD ((-b).fdiv (((Int.gcd (-a) (-b) : Nat) : Int)))))))) (d := (jR (jQ.mk (qD ((-a).fdiv (((Int.gcd (-a) (-b) : Nat) : Int)))) (qD ((-b).fdiv (((Int.gcd (-a) (-b) : Nat) : Int))))))) rfl rfl jT rfl rfl .nil), ?_⟩
  rw [red_neg hlt]; rfl
 ·replace h1 := of_decide_eq_false h1
  have hge : ¬ b < 0 := fun hh => h1 (signI_lt.2 hh)
  refine jE <| jA <| kx [(5, (.ref 4 0))] [(4, some (bx (kB (qD ((Int.gcd a b : Nat) : Int)))))] (zR (kC kW) <| zR (kC kW) <| zE (kA (s_gcd eC mL (by decide) (by decide))) <| zN (qS 4 gR gQ) <| zT (qB kW) <| zZ) ?_
  refine jA <| kx [] [(0, some (bx (kB (qD (a.fdiv (((Int.gcd a b : Nat) : Int)))))))] (zR (kC kW) <| zR (kC kW) <| zE (kA (s_divide eC (gM (k := 68719476736) eC mL (by decide)) (by decide) (by decide) (gcd_ne (by omega)))) <| zM <| zE uH <| zE uH <| zE uH <| zT (qB kW) <| zZ) ?_
  refine jA <| kx [] [(1, some (bx (kB (qD (b.fdiv (((Int.gcd a b : Nat) : Int)))))))] (zR (kC kW) <| zR (kC kW) <| zE (kA (s_divide mL (gM (k := 68719476736) eC mL (by decide)) (by decide) (by decide) (gcd_ne (by omega)))) <| zM <| zE uH <| zE uH <| zE uH <| zT (qB kW) <| zZ) ?_
  refine jA <| kx [] [(2, some (bx (jR (jQ.mk (qD (a.fdiv (((Int.gcd a b : Nat) : Int)))) (qD (b.fdiv (((Int.gcd a b : Nat) : Int))))))))] (zR (kC kW) <| zR (kC kW) <| zE (fK pl42 qR qY) <| zT (qB jT) <| zZ) ?_
  refine jJ ⟨_, (qI (cs := (bx (jR (jQ.mk (qD (a.fdiv (((Int.gcd a b : Nat) : Int)))) (qD (b.fdiv (((Int.gcd a b : Nat) : Int)))))))) (d := (jR (jQ.mk (qD (a.fdiv (((Int.gcd a b : Nat) : Int)))) (qD (b.fdiv (((Int.gcd a b : Nat) : Int))))))) rfl rfl jT rfl rfl .nil), ?_⟩
  rw [red_pos hge hb]; rfl
theorem gX (n : Int) (hlo : -9223372036854775808 ≤ n) (hhi : n ≤ 9223372036854775807) : kE Tryz.prog 102 [(.val (.int .i64 (n)))] (jR (jB ((n : Int) : Rat))) := by
 refine jN Tryz.func102 rfl cb102 rfl ?_
 show uT _ _ _ _ ⟨[(0, (vi n))], []⟩
 refine jA <| kx [(2, (.ref 0 0))] [(0, some (bx (jR (jQ.mk (jF.mk false []) (jF.mk false [])))))] (zN (qS 0 qR qY) <| zZ) ?_
 refine jA <| kx [] [(0, some (bx (jR (jQ.mk (qD n) (qD 1)))))] (zM <| zE (kA (t_of n (by omega) (by omega))) <| zE (kA (t_of 1 (by decide) (by decide))) <| zE (fK pl42 qR qY) <| zT (qB jT) <| zZ) ?_
 refine jJ ⟨_, (qI (cs := (bx (jR (jQ.mk (qD n) (qD 1))))) (d := (jR (jQ.mk (qD n) (qD 1)))) rfl rfl jT rfl rfl .nil), ?_⟩
 rfl
theorem f_valid (x : jQ) (p : Rat) (hx : nU x p 17179869184) : kE Tryz.prog 104 [(jR x)] (.val (.bool ((uC x)))) := by
 refine jN Tryz.func104 rfl cb104 rfl ?_
 show uT _ _ _ _ ⟨[(0, (.d (jR x)))], []⟩
 refine jA <| kx [(1, (.ref 0 0))] [(0, some (bx (jR x)))] (zN (uX 0) <| zM <| zZ) ?_
 refine jA <| jA <| kx [(18, (vb ((!(vN x.num) || !(vN x.den)) || decide ((vA (kT x.den)) ≤ 0))))] [] ?_ ?_
 ·refine zE (qE zL) <| zR (kC kW) <| zE (kA (t_valid x.num (Nat.le_trans (yW hx.n1).l (by decide)))) <| zE dV <| zE (oV (vb (!(vN x.num))) (vZ (by kernel_rfl))) <| ?_
  rcases hb1 : (!(vN x.num)) with _ | _
  ·refine zE (qE zW) <| zR (kC kW) <| zE (kA (t_valid x.den (Nat.le_trans (yW hx.n2).l (by decide)))) <| zE dV <| zE oPo <| zE (oV (vb (false || !(vN x.den))) (vZ (by kernel_rfl))) <| ?_
   rcases hb2 : (false || !(vN x.den)) with _ | _
   ·exact zE (qE zW) <| zR (kC kW) <| zE (kA (s_sign (yW hx.n2) (by decide))) <| zE oLe <| zE oPo <| zZ
   ·exact zK <| zK <| zK <| zK <| zE eE <| zZ
  ·exact zK <| zK <| zK <| zK <| zE eE <| zM <| zK <| zK <| zK <| zK <| zE eE <| zZ
 refine jY rfl (fun h3 => ?_) (fun h3 => ?_)
 ·refine jA <| kx [(2, (vb false))] [] (zM <| zZ) ?_
  refine jJ ⟨_, (.tmp (d := (.val (.bool (false)))) rfl .nil), ?_⟩
  rw [validR_no h3]; rfl
 ·refine jE <| jA <| kx [(2, (vb ((xC (((Int.gcd (kT x.num) (kT x.den) : Nat) : Int)) 1) == 0)))] [] (zE (qE zL) <| zR (kC kW) <| zE (qE zW) <| zR (kC kW) <| zE (kA (s_gcd (yW hx.n1) (yW hx.n2) (by decide) (by decide))) <| zE (kA (t_of 1 (by decide) (by decide))) <| zE (kA (s_compare (gM (k := 17179869184) (yW hx.n1) (yW hx.n2) (by decide)) (nO (z := 1) (by decide)) (by decide) (by decide))) <| zE fA <| zM <| zZ) ?_
  refine jJ ⟨_, (.tmp (d := (.val (.bool (((xC (((Int.gcd (kT x.num) (kT x.den) : Nat) : Int)) 1) == 0))))) rfl .nil), ?_⟩
  rw [validR_yes h3]; rfl
theorem f_copied (x : jQ) (p : Rat) (hx : nU x p 17179869184) : kE Tryz.prog 176 [(jR x)] (jR (jQ.mk (qD (-(-kT x.num))) (qD (-(-kT x.den))))) := by
 refine jN Tryz.func176 rfl cb176 rfl ?_
 show uT _ _ _ _ ⟨[(0, (.d (jR x)))], []⟩
 refine jA <| kx [(1, (.ref 0 0)), (2, (.ref 1 0))] [(0, some (bx (jR x))), (1, some (bx (jR (jQ.mk (jF.mk false []) (jF.mk false [])))))] (zN (uX 0) <| zN (qS 1 qR qY) <| zZ) ?_
 refine jA <| kd [] [(1, some (bx (jR (jQ.mk (qD (-(-(kT x.num)))) (qD (-(-(kT x.den))))))))] mo (wE (qE zL) <| wR (kC kW) <| wE (kA (s_neg (yW hx.n1) (by decide))) <| wE (kA (s_neg (mB (yW hx.n1)) (by decide))) <| wE (qE zW) <| wR (kC kW) <| wE (kA (s_neg (yW hx.n2) (by decide))) <| wE (kA (s_neg (mB (yW hx.n2)) (by decide))) <| wE (fK pl42 qR qY) <| wT (qB jT) <| wZ) ?_
 refine jJ ⟨_, (qI (cs := (bx (jR (jQ.mk (qD (-(-(kT x.num)))) (qD (-(-(kT x.den)))))))) (d := (jR (jQ.mk (qD (-(-(kT x.num)))) (qD (-(-(kT x.den))))))) rfl rfl jT rfl rfl .nil), ?_⟩
 rfl
theorem fQ (x : jQ) (p : Rat) (hx : nU x p 17179869184) : kE Tryz.prog 137 [(jR x)] (jR (jB p)) := by
 refine jN Tryz.func137 rfl cb137 rfl ?_
 show uT _ _ _ _ ⟨[(0, (.d (jR x)))], []⟩
 refine jA <| kx [(1, (.ref 0 0)), (2, (.ref 1 0))] [(0, some (bx (jR x))), (1, some (bx (jR (jQ.mk (jF.mk false []) (jF.mk false [])))))] (zN (uX 0) <| zN (qS 1 qR qY) <| zZ) ?_
 refine jA <| jA <| kx [(4, (vb (uC x)))] [] (zR (kC jT) <| zE (kA (f_valid x p hx)) <| zZ) ?_
 refine jY (b := (uC x)) rfl (fun h1 => ?_) (fun h1 => ?_)
 ·refine jA <| kx [] [(1, some (bx (jR (jQ.mk (qD (-(-kT x.num))) (qD (-(-kT x.den)))))))] (zR (kC jT) <| zE (kA (f_copied x p hx)) <| zT (qB jT) <| zZ) ?_
  refine jJ ⟨_, (qI (cs := (bx (jR (jQ.mk (qD (-(-kT x.num))) (qD (-(-kT x.den))))))) (d := (jR (jQ.mk (qD (-(-kT x.num))) (qD (-(-kT x.den)))))) rfl rfl jT rfl rfl .nil), ?_⟩
  rw [← hx.v, ← copied_eq h1]; rfl
 ·refine jE <| jA <| kx [] [(1, some (bx (jR (jB ((0 : Int) : Rat)))))] (zE (kA (gX 0 (by decide) (by decide))) <| zT (qB jT) <| zZ) ?_
  refine jJ ⟨_, (qI (cs := (bx (jR (jB ((0 : Int) : Rat))))) (d := (jR (jB ((0 : Int) : Rat)))) rfl rfl jT rfl rfl .nil), ?_⟩
  rw [← hx.v, toQ_bad h1]; rfl
theorem f_sign (x : jQ) (p : Rat) (hx : nU x p 17179869184) : kE Tryz.prog 105 [(jR x)] (.val (.int .i64 ((vJ p)))) := by
 refine jN Tryz.func105 rfl cb105 rfl ?_
 show uT _ _ _ _ ⟨[(0, (.d (jR x)))], []⟩
 refine jA <| kx [(1, (.ref 0 0))] [(0, some (bx (jR x)))] (zN (uX 0) <| zM <| zZ) ?_
 refine jA <| kx [(2, (vi (vA p.num)))] [] (zR (kC jT) <| zE (kA (fQ x p hx)) <| zE (oFv ft42_0 kW) <| zE (kA (s_sign (uM hx.ql) (by decide))) <| zM <| zZ) ?_
 refine jJ ⟨_, (.tmp (d := (.val (.int .i64 ((vA p.num))))) rfl .nil), ?_⟩
 rfl
theorem f_neg (x : jQ) (p : Rat) (hx : nU x p 17179869184) : kE Tryz.prog 170 [(jR x)] (jR (jB (-p))) := by
 refine jN Tryz.func170 rfl cb170 rfl ?_
 show uT _ _ _ _ ⟨[(0, (.d (jR x)))], []⟩
 refine jA <| kx [(1, (.ref 0 0)), (2, (.ref 1 0))] [(0, some (bx (jR x))), (1, some (bx (jR (jQ.mk (jF.mk false []) (jF.mk false [])))))] (zN (uX 0) <| zN (qS 1 qR qY) <| zZ) ?_
 refine jA <| kx [] [(0, some (bx (jR (jB p))))] (zR (kC jT) <| zE (kA (fQ x p hx)) <| zT (qB jT) <| zZ) ?_
 refine jA <| kd [] [(1, some (bx (jR (jQ.mk (qD (-p.num)) ((jB p).den)))))] mo (wE (qE zL) <| wR (kC kW) <| wE (kA (s_neg (uM hx.ql) (by decide))) <| wE (qE zW) <| wR (kC kW) <| wE (fK pl42 qR qY) <| wT (qB jT) <| wZ) ?_
 refine jJ ⟨_, (qI (cs := (bx (jR (jQ.mk (qD (-p.num)) ((jB p).den))))) (d := (jR (jQ.mk (qD (-p.num)) ((jB p).den)))) rfl rfl jT rfl rfl .nil), ?_⟩
 rfl
theorem f_add (x : jQ) (y : jQ) (p : Rat) (q : Rat) (hx : nU x p 17179869184) (hy : nU y q 17179869184) : kE Tryz.prog 146 [(jR x), (jR y)] (jR (jB (p + q))) := by
 refine jN Tryz.func146 rfl cb146 rfl ?_
 show uT _ _ _ _ ⟨[(0, (.d (jR x))), (1, (.d (jR y)))], []⟩
 refine jA <| kx [(2, (.ref 0 0)), (3, (.ref 1 0)), (4, (.ref 2 0))] [(0, some (bx (jR x))), (1, some (bx (jR y))), (2, some (bx (jR (jQ.mk (jF.mk false []) (jF.mk false [])))))] (zN (uX 0) <| zN (uX 1) <| zN (qS 2 qR qY) <| zZ) ?_
 refine jA <| kd [] [(0, some (bx (jR (jB p)))), (1, some (bx (jR (jB q))))] mo (wR (kC jT) <| wE (kA (fQ x p hx)) <| wR (kC jT) <| wE (kA (fQ y q hy)) <| wT (qB jT) <| wT (qB jT) <| wZ) ?_
 refine jA <| kd [] [(2, some (bx (jR (jB (Rat.divInt ((p.num * (q.den : Int)) + (q.num * (p.den : Int))) ((p.den : Int) * (q.den : Int)))))))] mo (wE (qE zL) <| wR (kC kW) <| wE (qE zW) <| wR (kC kW) <| wE (kA (s_mul (uM hx.ql) (vG hy.ql) (by decide) (by decide))) <| wE (qE zL) <| wR (kC kW) <| wE (qE zW) <| wR (kC kW) <| wE (kA (s_mul (uM hy.ql) (vG hx.ql) (by decide) (by decide))) <| wE (kA (s_add (yX (k := 34359738368) (uM hx.ql) (vG hy.ql) (by decide)) (yX (k := 34359738368) (uM hy.ql) (vG hx.ql) (by decide)) (by decide) (by decide))) <| wE (qE zW) <| wR (kC kW) <| wE (qE zW) <| wR (kC kW) <| wE (kA (s_mul (vG hx.ql) (vG hy.ql) (by decide) (by decide))) <| wE (kA (f_reduced (qD ((p.num * (q.den : Int)) + (q.num * (p.den : Int)))) (qD ((p.den : Int) * (q.den : Int))) ((p.num * (q.den : Int)) + (q.num * (p.den : Int))) ((p.den : Int) * (q.den : Int)) (gP (iok_add (k := 34359738369) (yX (k := 34359738368) (uM hx.ql) (vG hy.ql) (by decide)) (yX (k := 34359738368) (uM hy.ql) (vG hx.ql) (by decide)) (by decide)) (by decide)) (gP (yX (k := 34359738368) (vG hx.ql) (vG hy.ql) (by decide)) (by decide)) (mul_ne (eX _) (eX _)))) <| wT (qB jT) <| wZ) ?_
 refine jJ ⟨_, (qI (cs := (bx (jR (jB (Rat.divInt ((p.num * (q.den : Int)) + (q.num * (p.den : Int))) ((p.den : Int) * (q.den : Int))))))) (d := (jR (jB (Rat.divInt ((p.num * (q.den : Int)) + (q.num * (p.den : Int))) ((p.den : Int) * (q.den : Int)))))) rfl rfl jT rfl rfl .nil), ?_⟩
 rw [add_divInt]; rfl
theorem f_sub (x : jQ) (y : jQ) (p : Rat) (q : Rat) (hx : nU x p 17179869184) (hy : nU y q 17179869184) : kE Tryz.prog 130 [(jR x), (jR y)] (jR (jB (p - q))) := by
 refine jN Tryz.func130 rfl cb130 rfl ?_
 show uT _ _ _ _ ⟨[(0, (.d (jR x))), (1, (.d (jR y)))], []⟩
 refine jA <| kx [(2, (.ref 0 0)), (3, (.ref 1 0)), (4, (.ref 2 0))] [(0, some (bx (jR x))), (1, some (bx (jR y))), (2, some (bx (jR (jQ.mk (jF.mk false []) (jF.mk false [])))))] (zN (uX 0) <| zN (uX 1) <| zN (qS 2 qR qY) <| zZ) ?_
 refine jA <| kd [] [(2, some (bx (jR (jB (p + (-q))))))] mo (wR (kC jT) <| wR (kC jT) <| wE (kA (f_neg y q hy)) <| wE (kA (f_add x (jB (-q)) p (-q) hx (kD (ql_neg hy.ql)))) <| wT (qB jT) <| wZ) ?_
 refine jJ ⟨_, (qI (cs := (bx (jR (jB (p + (-q)))))) (d := (jR (jB (p + (-q))))) rfl rfl jT rfl rfl .nil), ?_⟩
 rw [Rat.sub_eq_add_neg]; rfl
theorem aQ (x : jQ) (y : jQ) (p : Rat) (q : Rat) (hx : nU x p 17179869184) (hy : nU y q 17179869184) : kE Tryz.prog 121 [(jR x), (jR y)] (jR (jB (p * q))) := by
 refine jN Tryz.func121 rfl cb121 rfl ?_
 show uT _ _ _ _ ⟨[(0, (.d (jR x))), (1, (.d (jR y)))], []⟩
 refine jA <| kx [(2, (.ref 0 0)), (3, (.ref 1 0)), (4, (.ref 2 0))] [(0, some (bx (jR x))), (1, some (bx (jR y))), (2, some (bx (jR (jQ.mk (jF.mk false []) (jF.mk false [])))))] (zN (uX 0) <| zN (uX 1) <| zN (qS 2 qR qY) <| zZ) ?_
 refine jA <| kd [] [(0, some (bx (jR (jB p)))), (1, some (bx (jR (jB q))))] mo (wR (kC jT) <| wE (kA (fQ x p hx)) <| wR (kC jT) <| wE (kA (fQ y q hy)) <| wT (qB jT) <| wT (qB jT) <| wZ) ?_
 refine jA <| kd [] [(2, some (bx (jR (jB (Rat.divInt (p.num * q.num) ((p.den : Int) * (q.den : Int)))))))] mo (wE (qE zL) <| wR (kC kW) <| wE (qE zL) <| wR (kC kW) <| wE (kA (s_mul (uM hx.ql) (uM hy.ql) (by decide) (by decide))) <| wE (qE zW) <| wR (kC kW) <| wE (qE zW) <| wR (kC kW) <| wE (kA (s_mul (vG hx.ql) (vG hy.ql) (by decide) (by decide))) <| wE (kA (f_reduced (qD (p.num * q.num)) (qD ((p.den : Int) * (q.den : Int))) (p.num * q.num) ((p.den : Int) * (q.den : Int)) (gP (yX (k := 34359738368) (uM hx.ql) (uM hy.ql) (by decide)) (by decide)) (gP (yX (k := 34359738368) (vG hx.ql) (vG hy.ql) (by decide)) (by decide)) (mul_ne (eX _) (eX _)))) <| wT (qB jT) <| wZ) ?_
 refine jJ ⟨_, (qI (cs := (bx (jR (jB (Rat.divInt (p.num * q.num) ((p.den : Int) * (q.den : Int))))))) (d := (jR (jB (Rat.divInt (p.num * q.num) ((p.den : Int) * (q.den : Int)))))) rfl rfl jT rfl rfl .nil), ?_⟩
 rw [mul_divInt]; rfl
theorem fD (x : jQ) (y : jQ) (p : Rat) (q : Rat) (hx : nU x p 17179869184) (hy : nU y q 17179869184) : kE Tryz.prog 97 [(jR x), (jR y)] (.tup [(jR (divR p q)), (.val (.int .i64 ((divC q))))]) := by
 refine jN Tryz.func97 rfl cb97 rfl ?_
 show uT _ _ _ _ ⟨[(0, (.d (jR x))), (1, (.d (jR y)))], []⟩
 refine jA <| kx [(2, (.ref 0 0)), (3, (.ref 1 0)), (4, (.ref 2 0))] [(0, some (bx (jR x))), (1, some (bx (jR y))), (2, some (bx (jR (jQ.mk (jF.mk false []) (jF.mk false [])))))] (zN (uX 0) <| zN (uX 1) <| zN (qS 2 qR qY) <| zM <| zZ) ?_
 refine jA <| kd [] [(0, some (bx (jR (jB p)))), (1, some (bx (jR (jB q))))] mo (wR (kC jT) <| wE (kA (fQ x p hx)) <| wR (kC jT) <| wE (kA (fQ y q hy)) <| wT (qB jT) <| wT (qB jT) <| wZ) ?_
 refine jA <| jA <| kx [(13, (vb ((vA q.num) == 0)))] [] (zE (qE zL) <| zR (kC kW) <| zE (kA (s_sign (uM hy.ql) (by decide))) <| zE fA <| zZ) ?_
 refine jY (b := ((vA q.num) == 0)) rfl (fun h1 => ?_) (fun h1 => ?_)
 ·replace h1 := eq_of_beq h1
  have hq0 := mH.1 h1
  refine jA <| kx [(5, (kX 14))] [(2, some (bx (jR (jQ.mk (jF.mk false []) (jF.mk false [])))))] (zE (fK pl42 qR qY) <| zT (qB jT) <| zM <| zZ) ?_
  refine jJ ⟨_, (qI (cs := (bx (jR (jQ.mk (jF.mk false []) (jF.mk false []))))) (d := (jR (jQ.mk (jF.mk false []) (jF.mk false [])))) rfl rfl jT rfl rfl (.tmp (d := (.val (.int .i64 (14)))) rfl .nil)), ?_⟩
  rw [divR_zero hq0, divC_zero hq0]; rfl
 ·replace h1 := ne_of_beq_false h1
  have hq0 : q ≠ 0 := fun hh => h1 (mH.2 hh)
  refine jE <| jA <| kd [(5, (kX 0))] [(2, some (bx (jR (jB (Rat.divInt (p.num * (q.den : Int)) ((p.den : Int) * q.num))))))] mo (wE (qE zL) <| wR (kC kW) <| wE (qE zW) <| wR (kC kW) <| wE (kA (s_mul (uM hx.ql) (vG hy.ql) (by decide) (by decide))) <| wE (qE zW) <| wR (kC kW) <| wE (qE zL) <| wR (kC kW) <| wE (kA (s_mul (vG hx.ql) (uM hy.ql) (by decide) (by decide))) <| wE (kA (f_reduced (qD (p.num * (q.den : Int))) (qD ((p.den : Int) * q.num)) (p.num * (q.den : Int)) ((p.den : Int) * q.num) (gP (yX (k := 34359738368) (uM hx.ql) (vG hy.ql) (by decide)) (by decide)) (gP (yX (k := 34359738368) (vG hx.ql) (uM hy.ql) (by decide)) (by decide)) (mul_ne (eX _) (num_ne hq0)))) <| wT (qB jT) <| wM <| wZ) ?_
  refine jJ ⟨_, (qI (cs := (bx (jR (jB (Rat.divInt (p.num * (q.den : Int)) ((p.den : Int) * q.num)))))) (d := (jR (jB (Rat.divInt (p.num * (q.den : Int)) ((p.den : Int) * q.num))))) rfl rfl jT rfl rfl (.tmp (d := (.val (.int .i64 (0)))) rfl .nil)), ?_⟩
  rw [nD hq0, nC hq0, div_divInt]; rfl
end Go.Proofs.YtbecgnplakngdaaGreat
