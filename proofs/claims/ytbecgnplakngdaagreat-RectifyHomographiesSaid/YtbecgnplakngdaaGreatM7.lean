/- Part 7 of a proof: rules, plain facts, and functions walked. -/
import Derived.Test.YtbecgnplakngdaaGreatM6
namespace Go.Proofs.YtbecgnplakngdaaGreat
open Go.Fid
set_option maxRecDepth 4000
set_option linter.unusedVariables false
set_option linter.unusedSimpArgs false
theorem cb25 : callB Tryz.prog 25 = true := by kernel_rfl
theorem cb27 : callB Tryz.prog 27 = true := by kernel_rfl
theorem cb94 : callB Tryz.prog 94 = true := by kernel_rfl
theorem cb133 : callB Tryz.prog 133 = true := by kernel_rfl
theorem cb173 : callB Tryz.prog 173 = true := by kernel_rfl
theorem cb174 : callB Tryz.prog 174 = true := by kernel_rfl
theorem cb175 : callB Tryz.prog 175 = true := by kernel_rfl
theorem cb190 : callB Tryz.prog 190 = true := by kernel_rfl
theorem cb191 : callB Tryz.prog 191 = true := by kernel_rfl
theorem cb192 : callB Tryz.prog 192 = true := by kernel_rfl
theorem aY : iX Tryz.prog 40 1 = some (1, 38) := by kernel_rfl
theorem aK (l : List Nat) (i : Nat) (hd : Dig l) : kF Tryz.prog 192 [(.sl 152 1 (List.map jB l)), (.val (.int .i64 (((i : Nat) : Int))))] (.val (.int .u64 ((((l.getD i 0) : Nat) : Int)))) := by
 have hg := hd.getD i
 refine jL Tryz.func192 rfl cb192 rfl ?_
 show uK _ _ _ _ ⟨[(0, (vl 152 1 jB l)), (1, (kE i))], []⟩
 refine jA <| kx [] [] (zM <| zZ) ?_
 refine jA <| jA <| kx [(8, (vb (decide (((i : Nat) : Int) < ((l.length : Nat) : Int)))))] [] (zM <| zM <| zE (nC kV) <| zE qS <| zZ) ?_
 refine jQ rfl (fun h1 => ?_) (fun h1 => ?_)
 ·replace h1 := of_decide_eq_true h1
  refine jA <| kx [(4, (gQ (l.getD i 0)))] [] (zM <| zM <| zE (eK kV i (0 : Nat)) <| zE (yL uR) <| zE (mW gG gC (l.getD i 0)) <| zM <| zZ) ?_
  refine jG ⟨_, (.tmp (d := (.val (.int .u64 ((((l.getD i 0) : Nat) : Int))))) rfl .nil), ?_⟩
  rfl
 ·replace h1 := of_decide_eq_false h1
  refine jD <| jA <| kx [(4, (gQ 0))] [] (zM <| zZ) ?_
  refine jG ⟨_, (.tmp (d := (.val (.int .u64 (0)))) rfl .nil), ?_⟩
  rw [show l.getD i 0 = 0 from getD_out (by omega)]; rfl
theorem nL (neg : Bool) (l : List Nat) (hd : Dig l) (hb : l.length ≤ 17592186044416) : kF Tryz.prog 94 [(.val (.bool (neg))), (.sl 152 1 (List.map jB l))] (jH (zI neg (val l))) := by
 refine jL Tryz.func94 rfl cb94 rfl ?_
 show uK _ _ _ _ ⟨[(0, (vb neg)), (1, (vl 152 1 jB l))], []⟩
 refine jA <| kx [(4, (.ref 0 0))] [(0, some (bx (jH (jF.mk false []))))] (zN (qI 0 uD uE) <| zZ) ?_
 refine jA <| kx [(5, (kE l.length))] [] (zM <| zE (nC kV) <| zM <| zZ) ?_
 refine jA <| jE <| uB (α := Nat) (fun k => ⟨[(0, (vb neg)), (1, (vl 152 1 jB l)), (4, (.ref 0 0)), (5, (kE k))], [(0, some (bx (jH (jF.mk false []))))]⟩) (fun k => k ≤ l.length ∧ val (l.take k) = val l) (fun k => k) l.length wk ⟨Nat.le_refl _, by rw [List.take_length]⟩ ?_
 rintro k ⟨hk, hv⟩
 refine jA <| jA <| kx [(17, (vb (decide (0 < ((k : Nat) : Int)) && ((((l.getD (k - 1) 0) : Nat) : Int) == 0))))] [] ?_ ?_
 ·refine zM <| zE bO <| zE (oV (vb (decide (0 < ((k : Nat) : Int)))) (xD (by kernel_rfl))) <| ?_
  rcases hb1 : (decide (0 < ((k : Nat) : Int))) with _ | _
  ·replace hb1 := of_decide_eq_false hb1
   exact zK <| zK <| zK <| zK <| zK <| zK <| zE fC <| zZ
  ·replace hb1 := of_decide_eq_true hb1
   exact zM <| zM <| zE (oSb (k - 1)) <| zE (eK kV (k - 1) (0 : Nat)) <| zE (yL uR) <| zE aL <| zE oPa <| zZ
 refine jQ rfl (fun h2 => ?_) (fun h2 => ?_)
 ·have hm := r_made_step hk hv h2
  have hm0 := hm.1
  refine jD <| jE <| kx [(5, (kE (k - 1)))] [] (zM <| zE (oSb (k - 1)) <| zM <| zZ) ?_
  exact ⟨(k - 1), wk, ⟨by omega, hm.2⟩, (by first | omega | (dsimp only; omega))⟩
 ·refine kQ <| jA <| kx [] [(0, some (bx (jH (jF.mk (neg && decide (0 < ((k : Nat) : Int))) (List.take k l)))))] ?_ ?_
  ·refine zM <| zE (oV (vb neg) (xD (by kernel_rfl))) <| ?_
   rcases hb3 : neg with _ | _
   ·exact zK <| zK <| zE fC <| zE (oBe kV) <| zM <| zM <| zE (e_slc (l := 0) (h := k) (kl := .i64) (kh := .i64) (es' := List.map jB (List.take k l)) (by exact rfl) kV (by exact rfl) (by exact rfl) (by exact rfl) (Nat.zero_le _) (by simp only [List.length_map]; omega) (by rw [List.drop_zero, List.map_take])) <| zE (e_appe (by exact rfl) kV xR (by kernel_rfl) nP (by exact rfl) (by exact rfl) (by simp only [List.length_map, List.length_take, List.length_drop, List.length_append, List.length_cons, List.length_nil, maxLen]; omega) (by simp only [List.length_map, List.length_take, List.length_drop, List.length_append, List.length_cons, List.length_nil]; omega)) <| zE (oBd pl40 uD uE) <| zT (kR jI) <| zZ
   ·exact zM <| zE bO <| zE oPa <| zE (oBe kV) <| zM <| zM <| zE (e_slc (l := 0) (h := k) (kl := .i64) (kh := .i64) (es' := List.map jB (List.take k l)) (by exact rfl) kV (by exact rfl) (by exact rfl) (by exact rfl) (Nat.zero_le _) (by simp only [List.length_map]; omega) (by rw [List.drop_zero, List.map_take])) <| zE (e_appe (by exact rfl) kV xR (by kernel_rfl) nP (by exact rfl) (by exact rfl) (by simp only [List.length_map, List.length_take, List.length_drop, List.length_append, List.length_cons, List.length_nil, maxLen]; omega) (by simp only [List.length_map, List.length_take, List.length_drop, List.length_append, List.length_cons, List.length_nil]; omega)) <| zE (oBd pl40 uD uE) <| zT (kR jI) <| zZ
  refine jG ⟨_, (qB (cs := (bx (jH (jF.mk (neg && decide (0 < ((k : Nat) : Int))) (List.take k l))))) (d := (jH (jF.mk (neg && decide (0 < ((k : Nat) : Int))) (List.take k l)))) rfl rfl jI rfl rfl .nil), ?_⟩
  rw [r_made_end hd hk hv h2]; rfl
theorem iH (x : jF) (hb : x.gs.length ≤ 17592186044416) : kF Tryz.prog 25 [(jH x)] (.val (.bool ((uF x)))) := by
 refine jL Tryz.func25 rfl cb25 rfl ?_
 show uK _ _ _ _ ⟨[(0, (.d (jH x)))], []⟩
 refine jA <| kx [(1, (.ref 0 0))] [(0, some (bx (jH x)))] (zN (uX 0) <| zM <| zZ) ?_
 refine jA <| kx [(3, (kE x.gs.length))] [] (zE (kU uS) <| zR (uM xI) <| zE (nC kV) <| zM <| zZ) ?_
 refine jA <| jA <| kx [(4, (kE 0))] [] (zM <| zZ) ?_
 refine jE <| uB (α := Nat) (fun i => ⟨[(1, (.ref 0 0)), (3, (kE x.gs.length)), (4, (kE i))], [(0, some (bx (jH x)))]⟩) (fun i => i ≤ x.gs.length ∧ Dig (x.gs.take i)) (fun i => x.gs.length - i) 0 wk ⟨Nat.zero_le _, by rw [List.take_zero]; exact hO⟩ ?_
 rintro i ⟨hi, hd⟩
 refine jA <| jA <| kx [(10, (vb (decide (((i : Nat) : Int) < ((x.gs.length : Nat) : Int)))))] [] (zM <| zM <| zE qS <| zZ) ?_
 refine jQ rfl (fun h1 => ?_) (fun h1 => ?_)
 ·replace h1 := of_decide_eq_true h1
  refine jD <| jA <| jE <| jA <| kx [(18, (vb (decide (1000000000 ≤ (((x.gs.getD i 0) : Nat) : Int)))))] [] (zE (kU uS) <| zR (uM xI) <| zM <| zE (eK kV i (0 : Nat)) <| zE (yL uR) <| zE oGe <| zZ) ?_
  refine jQ rfl (fun h2 => ?_) (fun h2 => ?_)
  ·replace h2 := of_decide_eq_true h2
   refine jA <| kx [(2, (vb false))] [] (zM <| zZ) ?_
   refine jG ⟨_, (.tmp (d := (.val (.bool (false)))) rfl .nil), ?_⟩
   rw [validI_big (i := i) (by omega) (by omega)]; rfl
  ·replace h2 := of_decide_eq_false h2
   refine jD <| kx [(4, (kE (i + 1)))] [] (zM <| zE (qQ (i + 1)) <| zM <| zZ) ?_
   exact ⟨(i + 1), wk, ⟨by omega, dig_take_succ (by omega) hd (by omega)⟩, (by first | omega | (dsimp only; omega))⟩
 ·replace h1 := of_decide_eq_false h1
  have hie : i = x.gs.length := by omega
  rw [hie, List.take_length] at hd
  refine kQ <| jA <| jA <| kx [(20, (vb (((x.gs.length : Nat) : Int) == 0)))] [] (zM <| zE aL <| zZ) ?_
  refine jQ (b := (((x.gs.length : Nat) : Int) == 0)) rfl (fun h3 => ?_) (fun h3 => ?_)
  ·replace h3 := eq_of_beq h3
   refine jA <| kx [(2, (vb (!x.neg)))] [] (zE (kU uT) <| zR (uM eL) <| zE eX <| zM <| zZ) ?_
   refine jG ⟨_, (.tmp (d := (.val (.bool (!x.neg)))) rfl .nil), ?_⟩
   rw [validI_nil (by omega)]; rfl
  ·replace h3 := ne_of_beq_false h3
   refine jD <| jA <| kx [(2, (vb ((((x.gs.getD (x.gs.length - 1) 0) : Nat) : Int) != 0)))] [] (zE (kU uS) <| zR (uM xI) <| zM <| zE (oSb (x.gs.length - 1)) <| zE (eK kV (x.gs.length - 1) (0 : Nat)) <| zE (yL uR) <| zE mR <| zM <| zZ) ?_
   refine jG ⟨_, (.tmp (d := (.val (.bool (((((x.gs.getD (x.gs.length - 1) 0) : Nat) : Int) != 0))))) rfl .nil), ?_⟩
   rw [validI_dig hd (by omega)]; rfl
theorem eD (x : jF) (hb : x.gs.length ≤ 17592186044416) : kF Tryz.prog 133 [(jH x)] (jH (jK (kK x))) := by
 refine jL Tryz.func133 rfl cb133 rfl ?_
 show uK _ _ _ _ ⟨[(0, (.d (jH x)))], []⟩
 refine jA <| kx [(1, (.ref 0 0)), (2, (.ref 1 0))] [(0, some (bx (jH x))), (1, some (bx (jH (jF.mk false []))))] (zN (uX 0) <| zN (qI 1 uD uE) <| zZ) ?_
 refine jA <| jA <| kx [(5, (vb (!(uF x))))] [] (zR (kA jI) <| zE (kC (iH x (by omega))) <| zE eX <| zZ) ?_
 refine jQ (b := !(uF x)) rfl (fun h1 => ?_) (fun h1 => ?_)
 ·refine jA <| kx [] [(1, some (bx (jH (jF.mk false []))))] (zE (oBd pl40 uD uE) <| zT (kR jI) <| zZ) ?_
  refine jG ⟨_, (qB (cs := (bx (jH (jF.mk false [])))) (d := (jH (jF.mk false []))) rfl rfl jI rfl rfl .nil), ?_⟩
  rw [toZ_bad (by rw [Bool.not_eq_true'] at h1; exact h1), ofZ_zero]; rfl
 ·refine jD <| jA <| kd [] [(1, some (bx (jH (jF.mk x.neg x.gs))))] mo (wE (kU uT) <| wR (uM eL) <| wE (oBe kV) <| wE (kU uS) <| wR (uM xI) <| wE (e_appe (by exact rfl) kV xR (by kernel_rfl) nP (by exact rfl) (by exact rfl) (by simp only [List.length_map, List.length_take, List.length_drop, List.length_append, List.length_cons, List.length_nil, maxLen]; omega) (by simp only [List.length_map, List.length_take, List.length_drop, List.length_append, List.length_cons, List.length_nil]; omega)) <| wE (oBd pl40 uD uE) <| wT (kR jI) <| wZ) ?_
  refine jG ⟨_, (qB (cs := (bx (jH (jF.mk x.neg x.gs)))) (d := (jH (jF.mk x.neg x.gs))) rfl rfl jI rfl rfl .nil), ?_⟩
  rw [iR (by simpa using h1)]; rfl
theorem r_of (n : Int) (hlo : -9223372036854775808 ≤ n) (hhi : n ≤ 9223372036854775807) : kF Tryz.prog 27 [(.val (.int .i64 (n)))] (jH (jK n)) := by
 refine jL Tryz.func27 rfl cb27 rfl ?_
 show uK _ _ _ _ ⟨[(0, (vi n))], []⟩
 refine jA <| kx [(2, (.ref 0 0))] [(0, some (bx (jH (jF.mk false []))))] (zN (qI 0 uD uE) <| zZ) ?_
 refine jA <| kx [(3, (gQ ((n % 18446744073709551616).toNat)))] [] (zM <| zE (mW un3 gC ((n % 18446744073709551616).toNat) (hr := by exact (conv_u64 _))) <| zM <| zZ) ?_
 refine jA <| jA <| kx [(8, (vb (decide (n < 0))))] [] (zM <| zE qS <| zZ) ?_
 refine jQ (b := decide (n < 0)) rfl (fun h1 => ?_) (fun h1 => ?_)
 ·replace h1 := of_decide_eq_true h1
  refine kx [(3, (gQ n.natAbs))] [] (zM <| zE (zAd (n + 1)) <| zE (oNg (-(n + 1))) <| zE (mW un3 gC ((-n - 1).toNat) (hr := by exact (wu64 (by omega) (by omega) (by omega)))) <| zE (qQ n.natAbs) <| zM <| zZ) ?_
  refine jA <| kx [(4, (.own 1 152 1 0))] [(1, some (bm jB []))] (zN (oBo 1 kV xR gI) <| zM <| zZ) ?_
  refine jA <| jE <| uB (α := List Nat × Nat) (fun (o, m) => ⟨[(0, (vi n)), (2, (.ref 0 0)), (3, (gQ m)), (4, (.own 1 152 1 o.length))], [(0, some (bx (jH (jF.mk false [])))), (1, some (bm jB o))]⟩) (fun (o, m) => m ≤ 9223372036854775808 ∧ o ++ ofNat m = ofNat n.natAbs) (fun (o, m) => m) ([], n.natAbs) wk ⟨by omega, by rw [List.nil_append]⟩ ?_
  rintro ⟨o, m⟩ ⟨hm, hg⟩
  have hl := split_len hg (by omega)
  refine jA <| jA <| kx [(16, (vb (decide (0 < ((m : Nat) : Int)))))] [] (zM <| zE bO <| zZ) ?_
  refine jQ (b := decide (0 < ((m : Nat) : Int))) rfl (fun h2 => ?_) (fun h2 => ?_)
  ·replace h2 := of_decide_eq_true h2
   refine jD <| jE <| jA <| kf [(4, (.own 1 152 1 ((o ++ [(m % 1000000000)]).length)))] [(1, some (bm jB (o ++ [(m % 1000000000)])))] (zM <| zM <| zE (aI (m % 1000000000)) <| zE (mW nD hH (m % 1000000000)) <| zE (cX kV xR gI) <| zA jB o [(m % 1000000000)] rfl kV xR nP <| zM <| zF) ?_
   refine kx [(3, (gQ (m / 1000000000)))] [] (zM <| zE (oQu (m / 1000000000)) <| zM <| zZ) ?_
   exact ⟨(o ++ [m % 1000000000], m / 1000000000), wk, ⟨by omega, split_step hg h2⟩, (by first | omega | (dsimp only; omega))⟩
  ·replace h2 := of_decide_eq_false h2
   have hdo : Dig o := split_dig hg h2
   have hvo := split_val hg h2
   refine kQ <| jA <| kX (xY (t := 4) (k := 1) (es := List.map jB o) rfl rfl (xV _ _ (fun _ => rfl)) (xU _ _ rfl) (yE _ _ (fun _ => rfl) rfl)) ?_
   refine kx [] [(0, some (bx (jH (zI (decide (n < 0)) (val o)))))] (zM <| zE qS <| zM <| zE (kC (nL (decide (n < 0)) o hdo (by omega))) <| zT (kR jI) <| zZ) ?_
   refine jG ⟨_, (qB (cs := (bx (jH (zI (decide (n < 0)) (val o))))) (d := (jH (zI (decide (n < 0)) (val o)))) rfl rfl jI rfl rfl .nil), ?_⟩
   rw [hvo]; rfl
 ·replace h1 := of_decide_eq_false h1
  rw [show (n % 18446744073709551616).toNat = n.natAbs from by omega]
  refine jD <| jA <| kx [(3, (gQ n.natAbs)), (4, (.own 2 152 1 0))] [(2, some (bm jB []))] (zN (oBo 2 kV xR gI) <| zM <| zZ) ?_
  refine jA <| jE <| uB (α := List Nat × Nat) (fun (o, m) => ⟨[(0, (vi n)), (2, (.ref 0 0)), (3, (gQ m)), (4, (.own 2 152 1 o.length))], [(0, some (bx (jH (jF.mk false [])))), (2, some (bm jB o))]⟩) (fun (o, m) => m ≤ 9223372036854775808 ∧ o ++ ofNat m = ofNat n.natAbs) (fun (o, m) => m) ([], n.natAbs) wk ⟨by omega, by rw [List.nil_append]⟩ ?_
  rintro ⟨o, m⟩ ⟨hm, hg⟩
  have hl := split_len hg (by omega)
  refine jA <| jA <| kx [(16, (vb (decide (0 < ((m : Nat) : Int)))))] [] (zM <| zE bO <| zZ) ?_
  refine jQ (b := decide (0 < ((m : Nat) : Int))) rfl (fun h3 => ?_) (fun h3 => ?_)
  ·replace h3 := of_decide_eq_true h3
   refine jD <| jE <| jA <| kf [(4, (.own 2 152 1 ((o ++ [(m % 1000000000)]).length)))] [(2, some (bm jB (o ++ [(m % 1000000000)])))] (zM <| zM <| zE (aI (m % 1000000000)) <| zE (mW nD hH (m % 1000000000)) <| zE (cX kV xR gI) <| zA jB o [(m % 1000000000)] rfl kV xR nP <| zM <| zF) ?_
   refine kx [(3, (gQ (m / 1000000000)))] [] (zM <| zE (oQu (m / 1000000000)) <| zM <| zZ) ?_
   exact ⟨(o ++ [m % 1000000000], m / 1000000000), wk, ⟨by omega, split_step hg h3⟩, (by first | omega | (dsimp only; omega))⟩
  ·replace h3 := of_decide_eq_false h3
   have hdo : Dig o := split_dig hg h3
   have hvo := split_val hg h3
   refine kQ <| jA <| kX (xY (t := 4) (k := 2) (es := List.map jB o) rfl rfl (xV _ _ (fun _ => rfl)) (xU _ _ rfl) (yE _ _ (fun _ => rfl) rfl)) ?_
   refine kx [] [(0, some (bx (jH (zI (decide (n < 0)) (val o)))))] (zM <| zE qS <| zM <| zE (kC (nL (decide (n < 0)) o hdo (by omega))) <| zT (kR jI) <| zZ) ?_
   refine jG ⟨_, (qB (cs := (bx (jH (zI (decide (n < 0)) (val o))))) (d := (jH (zI (decide (n < 0)) (val o)))) rfl rfl jI rfl rfl .nil), ?_⟩
   rw [hvo]; rfl
theorem r_size (a b : List Nat) (ha : gW a) (hb : gW b) (hla : a.length ≤ 17592186044416) (hlb : b.length ≤ 17592186044416) : kF Tryz.prog 174 [(.sl 152 1 (List.map jB a)), (.sl 152 1 (List.map jB b))] (.val (.int .i64 ((xF ((val a : Nat) : Int) ((val b : Nat) : Int))))) := by
 refine jL Tryz.func174 rfl cb174 rfl ?_
 show uK _ _ _ _ ⟨[(0, (vl 152 1 jB a)), (1, (vl 152 1 jB b))], []⟩
 refine jA <| kx [] [] (zM <| zZ) ?_
 refine jA <| jA <| kx [(10, (vb (((a.length : Nat) : Int) != ((b.length : Nat) : Int))))] [] (zM <| zE (nC kV) <| zM <| zE (nC kV) <| zE mR <| zZ) ?_
 refine jQ rfl (fun h1 => ?_) (fun h1 => ?_)
 ·replace h1 := bne_iff_ne.1 h1
  refine jA <| jA <| kx [(15, (vb (decide (((a.length : Nat) : Int) < ((b.length : Nat) : Int)))))] [] (zM <| zE (nC kV) <| zM <| zE (nC kV) <| zE qS <| zZ) ?_
  refine jQ rfl (fun h2 => ?_) (fun h2 => ?_)
  ·replace h2 := of_decide_eq_true h2
   refine jA <| kx [(4, (vi (-1)))] [] (zM <| zZ) ?_
   refine jG ⟨_, (.tmp (d := (.val (.int .i64 (-1)))) rfl .nil), ?_⟩
   rw [← cmpI_len ha hb h1]; unfold xF; rw [if_pos (by omega)]; rfl
  ·replace h2 := of_decide_eq_false h2
   refine jD <| jA <| kx [(4, (kE 1))] [] (zM <| zZ) ?_
   refine jG ⟨_, (.tmp (d := (.val (.int .i64 (1)))) rfl .nil), ?_⟩
   rw [← cmpI_len ha hb h1, aM (by omega)]; rfl
 ·replace h1 := bne_eq_false_iff_eq.1 h1
  have hl : a.length = b.length := by omega
  refine jD <| jA <| jA <| kx [(5, (vi (((a.length : Nat) : Int) - 1)))] [] (zM <| zE (nC kV) <| zE (aH (((a.length : Nat) : Int) - 1)) <| zM <| zZ) ?_
  refine jE <| uB (α := Nat) (fun k => ⟨[(0, (vl 152 1 jB a)), (1, (vl 152 1 jB b)), (5, (vi (((k : Nat) : Int) - 1)))], []⟩) (fun k => k ≤ a.length ∧ val (a.drop k) = val (b.drop k)) (fun k => k) a.length wk ⟨Nat.le_refl _, by rw [List.drop_length, hl, List.drop_length]⟩ ?_
  rintro k ⟨hk, he⟩
  refine jA <| jA <| kx [(20, (vb (decide (0 ≤ (((k : Nat) : Int) - 1)))))] [] (zM <| zE oGe <| zZ) ?_
  refine jQ (b := decide (0 ≤ (((k : Nat) : Int) - 1))) rfl (fun h3 => ?_) (fun h3 => ?_)
  ·replace h3 := of_decide_eq_true h3
   obtain ⟨i, rfl⟩ : ∃ i, k = i + 1 := ⟨k - 1, by omega⟩
   rw [show (((i + 1 : Nat) : Int) - 1) = ((i : Nat) : Int) from by omega]
   have ht := cmpI_top ha.1 hb.1 hl (j := a.length - 1 - i) (by omega) (by rw [show a.length - (a.length - 1 - i) = i + 1 by omega]; exact he)
   rw [show a.length - 1 - (a.length - 1 - i) = i by omega] at ht
   refine jD <| jA <| jE <| jA <| jA <| kd [(5, (kE i)), (31, (vb (decide ((((a.getD i 0) : Nat) : Int) < (((b.getD i 0) : Nat) : Int)))))] [] mo (wM <| wM <| wE (eK kV i (0 : Nat)) <| wE (yL uR) <| wM <| wM <| wE (eK kV i (0 : Nat)) <| wE (yL uR) <| wE qS <| wZ) ?_
   refine jQ rfl (fun h4 => ?_) (fun h4 => ?_)
   ·replace h4 := of_decide_eq_true h4
    refine jA <| kx [(4, (vi (-1)))] [] (zM <| zZ) ?_
    refine jG ⟨_, (.tmp (d := (.val (.int .i64 (-1)))) rfl .nil), ?_⟩
    rw [← ht (by omega)]; unfold xF; rw [if_pos (by omega)]; rfl
   ·replace h4 := of_decide_eq_false h4
    refine jD <| jA <| kd [(40, (vb (decide ((((b.getD i 0) : Nat) : Int) < (((a.getD i 0) : Nat) : Int)))))] [] mo (wM <| wM <| wE (eK kV i (0 : Nat)) <| wE (yL uR) <| wM <| wM <| wE (eK kV i (0 : Nat)) <| wE (yL uR) <| wE bO <| wZ) ?_
    refine jQ rfl (fun h5 => ?_) (fun h5 => ?_)
    ·replace h5 := of_decide_eq_true h5
     refine jA <| kx [(4, (kE 1))] [] (zM <| zZ) ?_
     refine jG ⟨_, (.tmp (d := (.val (.int .i64 (1)))) rfl .nil), ?_⟩
     rw [← ht (by omega), aM (by omega)]; rfl
    ·replace h5 := of_decide_eq_false h5
     refine jD <| kx [(5, (vi (((i : Nat) : Int) - 1)))] [] (zM <| zE (aH (((i : Nat) : Int) - 1)) <| zM <| zZ) ?_
     exact ⟨i, wk, ⟨by omega, by rw [zQ a i, zQ b i, he]; omega⟩, (by first | omega | (dsimp only; omega))⟩
  ·replace h3 := of_decide_eq_false h3
   obtain rfl : k = 0 := by omega
   rw [List.drop_zero, List.drop_zero] at he
   refine kQ <| jA <| kx [(4, (kE 0))] [] (zM <| zZ) ?_
   refine jG ⟨_, (.tmp (d := (.val (.int .i64 (0)))) rfl .nil), ?_⟩
   rw [cmpI_same he]; rfl
theorem r_plus (a b : List Nat) (hda : Dig a) (hdb : Dig b) (hla : a.length ≤ 8796093022208) (hlb : b.length ≤ 8796093022208) : kF Tryz.prog 173 [(.sl 152 1 (List.map jB a)), (.sl 152 1 (List.map jB b))] (.sl 152 1 (List.map jB (ofNat (val a + val b)))) := by
 refine jL Tryz.func173 rfl cb173 rfl ?_
 show uK _ _ _ _ ⟨[(0, (vl 152 1 jB a)), (1, (vl 152 1 jB b))], []⟩
 refine jA <| kx [] [] (zE (oNl 152 1) <| zZ) ?_
 refine jA <| kx [(5, (.own 0 152 1 0))] [(0, some (bm jB []))] (zN (oBo 0 kV xR gI) <| zM <| zZ) ?_
 refine jA <| kx [(6, (gQ 0))] [] (zM <| zZ) ?_
 refine jA <| jA <| kx [(7, (kE 0))] [] (zM <| zZ) ?_
 refine jE <| uB (α := Nat × List Nat × Nat) (fun (i, o, c) => ⟨[(0, (vl 152 1 jB a)), (1, (vl 152 1 jB b)), (5, (.own 0 152 1 o.length)), (6, (gQ c)), (7, (kE i))], [(0, some (bm jB o))]⟩) (fun (i, o, c) => o.length = i ∧ Dig o ∧ i ≤ max a.length b.length ∧ c ≤ 1 ∧ val o + pw i * c = val (a.take i) + val (b.take i)) (fun (i, o, c) => max a.length b.length - i) (0, [], 0) wk ⟨rfl, hO, Nat.zero_le _, Nat.zero_le _, by simp [val]⟩ ?_
 rintro ⟨i, o, c⟩ ⟨hl, hd, hi, hc, hv⟩
 have hai := hda.getD i
 have hbi := hdb.getD i
 refine jA <| jA <| kx [(19, (vb (decide (((i : Nat) : Int) < ((a.length : Nat) : Int)) || decide (((i : Nat) : Int) < ((b.length : Nat) : Int)))))] [] ?_ ?_
 ·refine zM <| zM <| zE (nC kV) <| zE qS <| zE (oV (vb (decide (((i : Nat) : Int) < ((a.length : Nat) : Int)))) (xD (by kernel_rfl))) <| ?_
  rcases hb1 : (decide (((i : Nat) : Int) < ((a.length : Nat) : Int))) with _ | _
  ·replace hb1 := of_decide_eq_false hb1
   exact zM <| zM <| zE (nC kV) <| zE qS <| zE oPo <| zZ
  ·replace hb1 := of_decide_eq_true hb1
   exact zK <| zK <| zK <| zK <| zE bD <| zZ
 refine jQ rfl (fun h2 => ?_) (fun h2 => ?_)
 ·rw [Bool.or_eq_true, decide_eq_true_eq, decide_eq_true_eq] at h2
  refine jD <| jA <| jE <| jA <| kx [(8, (gQ (((a.getD i 0) + (b.getD i 0)) + c)))] [] (zM <| zM <| zE (kC (aK a i (by first | assumption | exact qA _ | exact (uC _).1 | exact (uA _).1))) <| zM <| zM <| zE (kC (aK b i (by first | assumption | exact qA _ | exact (uC _).1 | exact (uA _).1))) <| zE (qQ ((a.getD i 0) + (b.getD i 0))) <| zM <| zE (qQ (((a.getD i 0) + (b.getD i 0)) + c)) <| zM <| zZ) ?_
  refine jA <| kf [(5, (.own 0 152 1 ((o ++ [((((a.getD i 0) + (b.getD i 0)) + c) % 1000000000)]).length)))] [(0, some (bm jB (o ++ [((((a.getD i 0) + (b.getD i 0)) + c) % 1000000000)])))] (zM <| zM <| zE (aI ((((a.getD i 0) + (b.getD i 0)) + c) % 1000000000)) <| zE (mW nD hH ((((a.getD i 0) + (b.getD i 0)) + c) % 1000000000)) <| zE (cX kV xR gI) <| zA jB o [((((a.getD i 0) + (b.getD i 0)) + c) % 1000000000)] rfl kV xR nP <| zM <| zF) ?_
  refine kx [(6, (gQ ((((a.getD i 0) + (b.getD i 0)) + c) / 1000000000)))] [] (zM <| zE (oQu ((((a.getD i 0) + (b.getD i 0)) + c) / 1000000000)) <| zM <| zZ) ?_
  refine kx [(7, (kE (i + 1)))] [] (zM <| zE (qQ (i + 1)) <| zM <| zZ) ?_
  exact ⟨(i + 1, o ++ [(a.getD i 0 + b.getD i 0 + c) % 1000000000], (a.getD i 0 + b.getD i 0 + c) / 1000000000), wk, ⟨by simp [hl], dig_push hd (Nat.mod_lt _ (by decide)), by omega, by omega, rplus_step hl hv rfl⟩, (by first | omega | (dsimp only; omega))⟩
 ·rw [Bool.or_eq_false_iff, decide_eq_false_iff_not, decide_eq_false_iff_not] at h2
  rw [take_all (by omega), take_all (by omega)] at hv
  have hp := val_push (c := c) hl
  refine kQ <| jA <| kf [(4, (vl 152 1 jB (ofNat (val (o ++ [c]))))), (5, .junk)] [(0, none)] (zM <| zM <| zE (mW nD hH c) <| zE (cX kV xR gI) <| zAQ jB o [c] rfl kV xR nP <| zE (kC (nL false (o ++ [c]) (dig_push hd (by omega)) (by simp only [List.length_append, List.length_cons, List.length_nil]; omega))) <| zE (oF1 aY xI) <| zM <| zF) ?_
  refine jG ⟨_, (.tmp (d := (.sl 152 1 (List.map jB (ofNat (val (o ++ [c])))))) rfl .nil), ?_⟩
  rw [hp, hv]; rfl
theorem r_minus (a b : List Nat) (hda : Dig a) (hdb : Dig b) (hba : val b ≤ val a) (hla : a.length ≤ 8796093022208) : kF Tryz.prog 175 [(.sl 152 1 (List.map jB a)), (.sl 152 1 (List.map jB b))] (.sl 152 1 (List.map jB (ofNat (val a - val b)))) := by
 refine jL Tryz.func175 rfl cb175 rfl ?_
 show uK _ _ _ _ ⟨[(0, (vl 152 1 jB a)), (1, (vl 152 1 jB b))], []⟩
 refine jA <| kx [] [] (zE (oNl 152 1) <| zZ) ?_
 refine jA <| kx [(5, (.own 0 152 1 0))] [(0, some (bm jB []))] (zN (oBo 0 kV xR gI) <| zM <| zZ) ?_
 refine jA <| kx [(6, (gQ 0))] [] (zM <| zZ) ?_
 refine jA <| jA <| kx [(7, (kE 0))] [] (zM <| zZ) ?_
 refine jE <| uB (α := Nat × List Nat × Nat) (fun (i, o, c) => ⟨[(0, (vl 152 1 jB a)), (1, (vl 152 1 jB b)), (5, (.own 0 152 1 o.length)), (6, (gQ c)), (7, (kE i))], [(0, some (bm jB o))]⟩) (fun (i, o, c) => o.length = i ∧ Dig o ∧ i ≤ a.length ∧ c ≤ 1 ∧ val o + val (b.take i) = val (a.take i) + pw i * c) (fun (i, o, c) => a.length - i) (0, [], 0) wk ⟨rfl, hO, Nat.zero_le _, Nat.zero_le _, by simp [val]⟩ ?_
 rintro ⟨i, o, c⟩ ⟨hl, hd, hi, hc, hv⟩
 have hai := hda.getD i
 have hbi := hdb.getD i
 refine jA <| jA <| kx [(13, (vb (decide (((i : Nat) : Int) < ((a.length : Nat) : Int)))))] [] (zM <| zM <| zE (nC kV) <| zE qS <| zZ) ?_
 refine jQ rfl (fun h1 => ?_) (fun h1 => ?_)
 ·replace h1 := of_decide_eq_true h1
  refine jD <| jA <| jE <| jA <| kx [(8, (gQ (((1000000000 + (a.getD i 0)) - (b.getD i 0)) - c)))] [] (zM <| zM <| zE (kC (aK a i (by first | assumption | exact qA _ | exact (uC _).1 | exact (uA _).1))) <| zE (qQ (1000000000 + (a.getD i 0))) <| zM <| zM <| zE (kC (aK b i (by first | assumption | exact qA _ | exact (uC _).1 | exact (uA _).1))) <| zE (oSb ((1000000000 + (a.getD i 0)) - (b.getD i 0))) <| zM <| zE (oSb (((1000000000 + (a.getD i 0)) - (b.getD i 0)) - c)) <| zM <| zZ) ?_
  refine jA <| kf [(5, (.own 0 152 1 ((o ++ [((((1000000000 + (a.getD i 0)) - (b.getD i 0)) - c) % 1000000000)]).length)))] [(0, some (bm jB (o ++ [((((1000000000 + (a.getD i 0)) - (b.getD i 0)) - c) % 1000000000)])))] (zM <| zM <| zE (aI ((((1000000000 + (a.getD i 0)) - (b.getD i 0)) - c) % 1000000000)) <| zE (mW nD hH ((((1000000000 + (a.getD i 0)) - (b.getD i 0)) - c) % 1000000000)) <| zE (cX kV xR gI) <| zA jB o [((((1000000000 + (a.getD i 0)) - (b.getD i 0)) - c) % 1000000000)] rfl kV xR nP <| zM <| zF) ?_
  refine kx [(6, (gQ (1 - ((((1000000000 + (a.getD i 0)) - (b.getD i 0)) - c) / 1000000000))))] [] (zM <| zE (oQu ((((1000000000 + (a.getD i 0)) - (b.getD i 0)) - c) / 1000000000)) <| zE (oSb (1 - ((((1000000000 + (a.getD i 0)) - (b.getD i 0)) - c) / 1000000000))) <| zM <| zZ) ?_
  refine kx [(7, (kE (i + 1)))] [] (zM <| zE (qQ (i + 1)) <| zM <| zZ) ?_
  exact ⟨(i + 1, o ++ [(1000000000 + a.getD i 0 - b.getD i 0 - c) % 1000000000], 1 - (1000000000 + a.getD i 0 - b.getD i 0 - c) / 1000000000), wk, ⟨by simp [hl], dig_push hd (Nat.mod_lt _ (by decide)), by omega, by omega, rminus_step hl hv (by omega) (by omega)⟩, (by first | omega | (dsimp only; omega))⟩
 ·replace h1 := of_decide_eq_false h1
  have hie : i = a.length := by omega
  refine kQ <| jA <| kX (xY (t := 5) (k := 0) (es := List.map jB o) rfl rfl (xV _ _ (fun _ => rfl)) (xU _ _ rfl) (yE _ _ (fun _ => rfl) rfl)) ?_
  refine kx [(4, (vl 152 1 jB (ofNat (val o))))] [] (zM <| zE (kC (nL false o hd (by omega))) <| zE (oF1 aY xI) <| zM <| zZ) ?_
  refine jG ⟨_, (.tmp (d := (.sl 152 1 (List.map jB (ofNat (val o))))) rfl .nil), ?_⟩
  rw [rminus_end hda hdb hd hie hl hba hv]; rfl
theorem r_scaled (a : List Nat) (d : Nat) (hda : Dig a) (hd1 : d ≤ 1000000000) (hla : a.length ≤ 8796093022208) : kF Tryz.prog 190 [(.sl 152 1 (List.map jB a)), (.val (.int .u64 (((d : Nat) : Int))))] (.sl 152 1 (List.map jB (ofNat (val a * d)))) := by
 refine jL Tryz.func190 rfl cb190 rfl ?_
 show uK _ _ _ _ ⟨[(0, (vl 152 1 jB a)), (1, (gQ d))], []⟩
 refine jA <| kx [] [] (zE (oNl 152 1) <| zZ) ?_
 refine jA <| kx [(5, (.own 0 152 1 0))] [(0, some (bm jB []))] (zN (oBo 0 kV xR gI) <| zM <| zZ) ?_
 refine jA <| kx [(6, (gQ 0))] [] (zM <| zZ) ?_
 refine jA <| jA <| kx [(7, (kE 0))] [] (zM <| zZ) ?_
 refine jE <| uB (α := Nat × List Nat × Nat) (fun (i, o, c) => ⟨[(0, (vl 152 1 jB a)), (1, (gQ d)), (5, (.own 0 152 1 o.length)), (6, (gQ c)), (7, (kE i))], [(0, some (bm jB o))]⟩) (fun (i, o, c) => o.length = i ∧ Dig o ∧ i ≤ a.length ∧ c ≤ 999999999 ∧ val o + pw i * c = val (a.take i) * d) (fun (i, o, c) => a.length - i) (0, [], 0) wk ⟨rfl, hO, Nat.zero_le _, Nat.zero_le _, by simp [val]⟩ ?_
 rintro ⟨i, o, c⟩ ⟨hl, hd, hi, hc, hv⟩
 have hai := hda.getD i
 have hpq : a.getD i 0 * d ≤ 999999999 * 1000000000 := Nat.mul_le_mul (by omega) hd1
 refine jA <| jA <| kx [(13, (vb (decide (((i : Nat) : Int) < ((a.length : Nat) : Int)))))] [] (zM <| zM <| zE (nC kV) <| zE qS <| zZ) ?_
 refine jQ rfl (fun h1 => ?_) (fun h1 => ?_)
 ·replace h1 := of_decide_eq_true h1
  refine jD <| jA <| jE <| jA <| kx [(8, (gQ (((a.getD i 0) * d) + c)))] [] (zM <| zM <| zE (eK kV i (0 : Nat)) <| zE (yL uR) <| zE (mW gG gC (a.getD i 0)) <| zM <| zE (oMl ((a.getD i 0) * d)) <| zM <| zE (qQ (((a.getD i 0) * d) + c)) <| zM <| zZ) ?_
  refine jA <| kf [(5, (.own 0 152 1 ((o ++ [((((a.getD i 0) * d) + c) % 1000000000)]).length)))] [(0, some (bm jB (o ++ [((((a.getD i 0) * d) + c) % 1000000000)])))] (zM <| zM <| zE (aI ((((a.getD i 0) * d) + c) % 1000000000)) <| zE (mW nD hH ((((a.getD i 0) * d) + c) % 1000000000)) <| zE (cX kV xR gI) <| zA jB o [((((a.getD i 0) * d) + c) % 1000000000)] rfl kV xR nP <| zM <| zF) ?_
  refine kx [(6, (gQ ((((a.getD i 0) * d) + c) / 1000000000)))] [] (zM <| zE (oQu ((((a.getD i 0) * d) + c) / 1000000000)) <| zM <| zZ) ?_
  refine kx [(7, (kE (i + 1)))] [] (zM <| zE (qQ (i + 1)) <| zM <| zZ) ?_
  exact ⟨(i + 1, o ++ [(a.getD i 0 * d + c) % 1000000000], (a.getD i 0 * d + c) / 1000000000), wk, ⟨by simp [hl], dig_push hd (Nat.mod_lt _ (by decide)), by omega, by omega, rscaled_step hl hv rfl⟩, (by first | omega | (dsimp only; omega))⟩
 ·replace h1 := of_decide_eq_false h1
  have hie : i = a.length := by omega
  rw [take_all (by omega)] at hv
  have hp := val_push (c := c) hl
  refine kQ <| jA <| kf [(4, (vl 152 1 jB (ofNat (val (o ++ [c]))))), (5, .junk)] [(0, none)] (zM <| zM <| zE (mW nD hH c) <| zE (cX kV xR gI) <| zAQ jB o [c] rfl kV xR nP <| zE (kC (nL false (o ++ [c]) (dig_push hd (by omega)) (by simp only [List.length_append, List.length_cons, List.length_nil]; omega))) <| zE (oF1 aY xI) <| zM <| zF) ?_
  refine jG ⟨_, (.tmp (d := (.sl 152 1 (List.map jB (ofNat (val (o ++ [c])))))) rfl .nil), ?_⟩
  rw [hp, hv]; rfl
theorem r_shifted (a : List Nat) (d : Nat) (hda : Dig a) (hd1 : d < 1000000000) (hla : a.length ≤ 8796093022208) : kF Tryz.prog 191 [(.sl 152 1 (List.map jB a)), (.val (.int .u32 (((d : Nat) : Int))))] (.sl 152 1 (List.map jB (ofNat (d + 1000000000 * val a)))) := by
 refine jL Tryz.func191 rfl cb191 rfl ?_
 show uK _ _ _ _ ⟨[(0, (vl 152 1 jB a)), (1, (aG d))], []⟩
 refine jA <| kx [] [] (zE (oNl 152 1) <| zZ) ?_
 refine jA <| kf [(4, (vl 152 1 jB (ofNat (val ([d] ++ a)))))] [(0, none)] (zM <| zN (oBo 0 kV xR gI) <| zM <| zAQ jB [d] a rfl kV xR nP <| zE (kC (nL false ([d] ++ a) (iK.2 ⟨gH.2 ⟨hd1, hO⟩, hda⟩) (by simp only [List.length_append, List.length_cons, List.length_nil]; omega))) <| zE (oF1 aY xI) <| zM <| zF) ?_
 refine jG ⟨_, (.tmp (d := (.sl 152 1 (List.map jB (ofNat (val ([d] ++ a)))))) rfl .nil), ?_⟩
 rfl
end Go.Proofs.YtbecgnplakngdaaGreat
namespace Go.Proofs.YtbecgnplakngdaaGreat
open Go.Fid
set_option maxRecDepth 4000
set_option linter.unusedVariables false
set_option linter.unusedSimpArgs false
theorem cb84 : callB Tryz.prog 84 = true := by kernel_rfl
theorem cb103 : callB Tryz.prog 103 = true := by kernel_rfl
theorem cb134 : callB Tryz.prog 134 = true := by kernel_rfl
theorem cb135 : callB Tryz.prog 135 = true := by kernel_rfl
theorem cb147 : callB Tryz.prog 147 = true := by kernel_rfl
theorem cb148 : callB Tryz.prog 148 = true := by kernel_rfl
theorem cb149 : callB Tryz.prog 149 = true := by kernel_rfl
theorem cb189 : callB Tryz.prog 189 = true := by kernel_rfl
theorem r_neg (x : jF) (hx : x.gs.length ≤ 1099511627776) : kF Tryz.prog 134 [(jH x)] (jH (jK (-kK x))) := by
 have hvx := eE x
 refine jL Tryz.func134 rfl cb134 rfl ?_
 show uK _ _ _ _ ⟨[(0, (.d (jH x)))], []⟩
 refine jA <| kx [(1, (.ref 0 0)), (2, (.ref 1 0))] [(0, some (bx (jH x))), (1, some (bx (jH (jF.mk false []))))] (zN (uX 0) <| zN (qI 1 uD uE) <| zZ) ?_
 refine jA <| kx [] [(0, some (bx (jH (jK (kK x)))))] (zR (kA jI) <| zE (kC (eD x (by omega))) <| zT (kR jI) <| zZ) ?_
 refine jA <| kx [] [(1, some (bx (jH (zI (!((jK (kK x)).neg)) (val (ofNat (Int.natAbs (kK x))))))))] (zE (kU uT) <| zR (uM eL) <| zE eX <| zE (kU uS) <| zR (uM xI) <| zE (kC (nL (!((jK (kK x)).neg)) (ofNat (Int.natAbs (kK x))) (by first | assumption | exact qA _ | exact (uC _).1 | exact (uA _).1) (by omega))) <| zT (kR jI) <| zZ) ?_
 refine jG ⟨_, (qB (cs := (bx (jH (zI (!((jK (kK x)).neg)) (val (ofNat (Int.natAbs (kK x)))))))) (d := (jH (zI (!((jK (kK x)).neg)) (val (ofNat (Int.natAbs (kK x))))))) rfl rfl jI rfl rfl .nil), ?_⟩
 rw [← rneg_eq]; rfl
theorem r_sign (x : jF) (hx : x.gs.length ≤ 1099511627776) : kF Tryz.prog 84 [(jH x)] (.val (.int .i64 ((qX (kK x))))) := by
 have hvx := eE x
 refine jL Tryz.func84 rfl cb84 rfl ?_
 show uK _ _ _ _ ⟨[(0, (.d (jH x)))], []⟩
 refine jA <| kx [(1, (.ref 0 0))] [(0, some (bx (jH x)))] (zN (uX 0) <| zM <| zZ) ?_
 refine jA <| kx [] [(0, some (bx (jH (jK (kK x)))))] (zR (kA jI) <| zE (kC (eD x (by omega))) <| zT (kR jI) <| zZ) ?_
 refine jA <| jA <| kx [(8, (vb ((((ofNat (Int.natAbs (kK x))).length : Nat) : Int) == 0)))] [] (zE (kU uS) <| zR (uM xI) <| zE (nC kV (L := (ofNat (Int.natAbs (kK x))))) <| zE aL <| zZ) ?_
 refine jQ rfl (fun h1 => ?_) (fun h1 => ?_)
 ·replace h1 := eq_of_beq h1
  refine jA <| kx [(2, (kE 0))] [] (zM <| zZ) ?_
  refine jG ⟨_, (.tmp (d := (.val (.int .i64 (0)))) rfl .nil), ?_⟩
  rw [rsign_zero h1]; rfl
 ·replace h1 := ne_of_beq_false h1
  refine jD <| jA <| jA <| kx [(10, (vb ((jK (kK x)).neg)))] [] (zE (kU uT) <| zR (uM eL) <| zZ) ?_
  refine jQ (b := (jK (kK x)).neg) rfl (fun h2 => ?_) (fun h2 => ?_)
  ·refine jA <| kx [(2, (vi (-1)))] [] (zM <| zZ) ?_
   refine jG ⟨_, (.tmp (d := (.val (.int .i64 (-1)))) rfl .nil), ?_⟩
   rw [rsign_neg h1 h2]; rfl
  ·refine jD <| jA <| kx [(2, (kE 1))] [] (zM <| zZ) ?_
   refine jG ⟨_, (.tmp (d := (.val (.int .i64 (1)))) rfl .nil), ?_⟩
   rw [rsign_pos h1 h2]; rfl
theorem r_add (x : jF) (y : jF) (hx : x.gs.length ≤ 1099511627776) (hy : y.gs.length ≤ 1099511627776) : kF Tryz.prog 135 [(jH x), (jH y)] (jH (jK (kK x + kK y))) := by
 have hvx := eE x
 have hvy := eE y
 refine jL Tryz.func135 rfl cb135 rfl ?_
 show uK _ _ _ _ ⟨[(0, (.d (jH x))), (1, (.d (jH y)))], []⟩
 refine jA <| kx [(2, (.ref 0 0)), (3, (.ref 1 0)), (4, (.ref 2 0))] [(0, some (bx (jH x))), (1, some (bx (jH y))), (2, some (bx (jH (jF.mk false []))))] (zN (uX 0) <| zN (uX 1) <| zN (qI 2 uD uE) <| zZ) ?_
 refine jA <| kd [] [(0, some (bx (jH (jK (kK x))))), (1, some (bx (jH (jK (kK y)))))] mo (wR (kA jI) <| wE (kC (eD x (by omega))) <| wR (kA jI) <| wE (kC (eD y (by omega))) <| wT (kR jI) <| wT (kR jI) <| wZ) ?_
 refine jA <| jA <| kx [(13, (vb (((jK (kK x)).neg) == ((jK (kK y)).neg))))] [] (zE (kU uT) <| zR (uM eL) <| zE (kU uT) <| zR (uM eL) <| zE (oEb bo4) <| zZ) ?_
 refine jQ rfl (fun h1 => ?_) (fun h1 => ?_)
 ·replace h1 := eq_of_beq h1
  refine jA <| kd [] [(2, some (bx (jH (zI ((jK (kK x)).neg) (val (ofNat (val (ofNat (Int.natAbs (kK x))) + val (ofNat (Int.natAbs (kK y))))))))))] mo (wE (kU uT) <| wR (uM eL) <| wE (kU uS) <| wR (uM xI) <| wE (kU uS) <| wR (uM xI) <| wE (kC (r_plus (ofNat (Int.natAbs (kK x))) (ofNat (Int.natAbs (kK y))) (by first | assumption | exact qA _ | exact (uC _).1 | exact (uA _).1) (by first | assumption | exact qA _ | exact (uC _).1 | exact (uA _).1) (by omega) (by omega))) <| wE (kC (nL ((jK (kK x)).neg) (ofNat (val (ofNat (Int.natAbs (kK x))) + val (ofNat (Int.natAbs (kK y))))) (by first | assumption | exact qA _ | exact (uC _).1 | exact (uA _).1) (by first | omega | exact Nat.le_trans (add_len (qA _) (qA _)) (by omega) | exact Nat.le_trans (sub_len (qA _)) (by omega)))) <| wT (kR jI) <| wZ) ?_
  refine jG ⟨_, (qB (cs := (bx (jH (zI ((jK (kK x)).neg) (val (ofNat (val (ofNat (Int.natAbs (kK x))) + val (ofNat (Int.natAbs (kK y)))))))))) (d := (jH (zI ((jK (kK x)).neg) (val (ofNat (val (ofNat (Int.natAbs (kK x))) + val (ofNat (Int.natAbs (kK y))))))))) rfl rfl jI rfl rfl .nil), ?_⟩
  rw [← rsum_same h1]; rfl
 ·replace h1 := ne_of_beq_false h1
  refine jD <| jA <| jA <| kx [(27, (vb (decide (0 ≤ (xF ((val (ofNat (Int.natAbs (kK x))) : Nat) : Int) ((val (ofNat (Int.natAbs (kK y))) : Nat) : Int))))))] [] (zE (kU uS) <| zR (uM xI) <| zE (kU uS) <| zR (uM xI) <| zE (kC (r_size (ofNat (Int.natAbs (kK x))) (ofNat (Int.natAbs (kK y))) (by first | assumption | exact uC _ | exact uA _) (by first | assumption | exact uC _ | exact uA _) (by omega) (by omega))) <| zE oGe <| zZ) ?_
  refine jQ rfl (fun h2 => ?_) (fun h2 => ?_)
  ·replace h2 := of_decide_eq_true h2
   refine jA <| kd [] [(2, some (bx (jH (zI ((jK (kK x)).neg) (val (ofNat (val (ofNat (Int.natAbs (kK x))) - val (ofNat (Int.natAbs (kK y))))))))))] mo (wE (kU uT) <| wR (uM eL) <| wE (kU uS) <| wR (uM xI) <| wE (kU uS) <| wR (uM xI) <| wE (kC (r_minus (ofNat (Int.natAbs (kK x))) (ofNat (Int.natAbs (kK y))) (by first | assumption | exact qA _ | exact (uC _).1 | exact (uA _).1) (by first | assumption | exact qA _ | exact (uC _).1 | exact (uA _).1) (by have := iP h2; omega) (by omega))) <| wE (kC (nL ((jK (kK x)).neg) (ofNat (val (ofNat (Int.natAbs (kK x))) - val (ofNat (Int.natAbs (kK y))))) (by first | assumption | exact qA _ | exact (uC _).1 | exact (uA _).1) (by first | omega | exact Nat.le_trans (add_len (qA _) (qA _)) (by omega) | exact Nat.le_trans (sub_len (qA _)) (by omega)))) <| wT (kR jI) <| wZ) ?_
   refine jG ⟨_, (qB (cs := (bx (jH (zI ((jK (kK x)).neg) (val (ofNat (val (ofNat (Int.natAbs (kK x))) - val (ofNat (Int.natAbs (kK y)))))))))) (d := (jH (zI ((jK (kK x)).neg) (val (ofNat (val (ofNat (Int.natAbs (kK x))) - val (ofNat (Int.natAbs (kK y))))))))) rfl rfl jI rfl rfl .nil), ?_⟩
   rw [← rsum_first h1 (by have := iP h2; omega)]; rfl
  ·replace h2 := of_decide_eq_false h2
   refine jD <| jA <| kd [] [(2, some (bx (jH (zI ((jK (kK y)).neg) (val (ofNat (val (ofNat (Int.natAbs (kK y))) - val (ofNat (Int.natAbs (kK x))))))))))] mo (wE (kU uT) <| wR (uM eL) <| wE (kU uS) <| wR (uM xI) <| wE (kU uS) <| wR (uM xI) <| wE (kC (r_minus (ofNat (Int.natAbs (kK y))) (ofNat (Int.natAbs (kK x))) (by first | assumption | exact qA _ | exact (uC _).1 | exact (uA _).1) (by first | assumption | exact qA _ | exact (uC _).1 | exact (uA _).1) (by have := cmpI_lt h2; omega) (by omega))) <| wE (kC (nL ((jK (kK y)).neg) (ofNat (val (ofNat (Int.natAbs (kK y))) - val (ofNat (Int.natAbs (kK x))))) (by first | assumption | exact qA _ | exact (uC _).1 | exact (uA _).1) (by first | omega | exact Nat.le_trans (add_len (qA _) (qA _)) (by omega) | exact Nat.le_trans (sub_len (qA _)) (by omega)))) <| wT (kR jI) <| wZ) ?_
   refine jG ⟨_, (qB (cs := (bx (jH (zI ((jK (kK y)).neg) (val (ofNat (val (ofNat (Int.natAbs (kK y))) - val (ofNat (Int.natAbs (kK x)))))))))) (d := (jH (zI ((jK (kK y)).neg) (val (ofNat (val (ofNat (Int.natAbs (kK y))) - val (ofNat (Int.natAbs (kK x))))))))) rfl rfl jI rfl rfl .nil), ?_⟩
   rw [← rsum_second h1 (by have := cmpI_lt h2; omega)]; rfl
theorem r_sub (x : jF) (y : jF) (hx : x.gs.length ≤ 1099511627776) (hy : y.gs.length ≤ 1099511627776) : kF Tryz.prog 147 [(jH x), (jH y)] (jH (jK (kK x - kK y))) := by
 have hv := gs_neg y
 refine jL Tryz.func147 rfl cb147 rfl ?_
 show uK _ _ _ _ ⟨[(0, (.d (jH x))), (1, (.d (jH y)))], []⟩
 refine jA <| kx [(2, (.ref 0 0)), (3, (.ref 1 0)), (4, (.ref 2 0))] [(0, some (bx (jH x))), (1, some (bx (jH y))), (2, some (bx (jH (jF.mk false []))))] (zN (uX 0) <| zN (uX 1) <| zN (qI 2 uD uE) <| zZ) ?_
 refine jA <| kd [] [(2, some (bx (jH (jK (kK x + kK (jK (-kK y)))))))] mo (wR (kA jI) <| wR (kA jI) <| wE (kC (r_neg y (by omega))) <| wE (kC (r_add x (jK (-kK y)) (by omega) (by omega))) <| wT (kR jI) <| wZ) ?_
 refine jG ⟨_, (qB (cs := (bx (jH (jK (kK x + kK (jK (-kK y))))))) (d := (jH (jK (kK x + kK (jK (-kK y)))))) rfl rfl jI rfl rfl .nil), ?_⟩
 rw [mG, ← Int.sub_eq_add_neg]; rfl
theorem r_mul (x : jF) (y : jF) (hx : x.gs.length ≤ 1099511627776) (hy : y.gs.length ≤ 1099511627776) : kF Tryz.prog 103 [(jH x), (jH y)] (jH (jK (kK x * kK y))) := by
 have hvx := eE x
 have hvy := eE y
 have hda := qA (Int.natAbs (kK x))
 have hdb := qA (Int.natAbs (kK y))
 refine jL Tryz.func103 rfl cb103 rfl ?_
 show uK _ _ _ _ ⟨[(0, (.d (jH x))), (1, (.d (jH y)))], []⟩
 refine jA <| kx [(2, (.ref 0 0)), (3, (.ref 1 0)), (4, (.ref 2 0))] [(0, some (bx (jH x))), (1, some (bx (jH y))), (2, some (bx (jH (jF.mk false []))))] (zN (uX 0) <| zN (uX 1) <| zN (qI 2 uD uE) <| zZ) ?_
 refine jA <| kd [] [(0, some (bx (jH (jK (kK x))))), (1, some (bx (jH (jK (kK y)))))] mo (wR (kA jI) <| wE (kC (eD x (by omega))) <| wR (kA jI) <| wE (kC (eD y (by omega))) <| wT (kR jI) <| wT (kR jI) <| wZ) ?_
 refine jA <| kx [(5, (.own 3 152 1 ((ofNat (Int.natAbs (kK x))).length + (ofNat (Int.natAbs (kK y))).length)))] [(3, some (bm jB (List.replicate ((ofNat (Int.natAbs (kK x))).length + (ofNat (Int.natAbs (kK y))).length) 0)))] (zE (kU uS) <| zR (uM xI) <| zE (nC kV (L := (ofNat (Int.natAbs (kK x))))) <| zE (kU uS) <| zR (uM xI) <| zE (nC kV (L := (ofNat (Int.natAbs (kK y))))) <| zE (qQ ((ofNat (Int.natAbs (kK x))).length + (ofNat (Int.natAbs (kK y))).length)) <| zN (oMk 3 jB (0 : Nat) ((ofNat (Int.natAbs (kK x))).length + (ofNat (Int.natAbs (kK y))).length) ((ofNat (Int.natAbs (kK x))).length + (ofNat (Int.natAbs (kK y))).length) kV xR gI nP) <| zM <| zZ) ?_
 refine jA <| jA <| kx [(6, (kE 0))] [] (zM <| zZ) ?_
 refine jE <| uB (α := Nat × List Nat) (fun (i, out) => ⟨[(2, (.ref 0 0)), (3, (.ref 1 0)), (4, (.ref 2 0)), (5, (.own 3 152 1 ((ofNat (Int.natAbs (kK x))).length + (ofNat (Int.natAbs (kK y))).length))), (6, (kE i))], [(0, some (bx (jH (jK (kK x))))), (1, some (bx (jH (jK (kK y))))), (2, some (bx (jH (jF.mk false [])))), (3, some (bm jB out))]⟩) (fun (i, out) => out.length = (ofNat (Int.natAbs (kK x))).length + (ofNat (Int.natAbs (kK y))).length ∧ Dig out ∧ i ≤ (ofNat (Int.natAbs (kK x))).length ∧ (∀ k, i + (ofNat (Int.natAbs (kK y))).length ≤ k → out.getD k 0 = 0) ∧ val out = val ((ofNat (Int.natAbs (kK x))).take i) * val (ofNat (Int.natAbs (kK y)))) (fun (i, out) => (ofNat (Int.natAbs (kK x))).length - i) (0, List.replicate ((ofNat (Int.natAbs (kK x))).length + (ofNat (Int.natAbs (kK y))).length) 0) wk ⟨by simp, yJ _, Nat.zero_le _, fun k _ => aC _ k, by simp [val, dY]⟩ ?_
 rintro ⟨i, out⟩ ⟨vD, hdo, hi, hz, hv⟩
 have hai := hda.getD i
 refine jA <| jA <| kx [(26, (vb (decide (((i : Nat) : Int) < (((ofNat (Int.natAbs (kK x))).length : Nat) : Int)))))] [] (zM <| zE (kU uS) <| zR (uM xI) <| zE (nC kV (L := (ofNat (Int.natAbs (kK x))))) <| zE qS <| zZ) ?_
 refine jQ rfl (fun h1 => ?_) (fun h1 => ?_)
 ·replace h1 := of_decide_eq_true h1
  refine jD <| jA <| jE <| jA <| kx [(7, (gQ 0))] [] (zM <| zZ) ?_
  refine jA <| jA <| kx [(8, (kE 0))] [] (zM <| zZ) ?_
  refine jE <| uB (α := Nat × List Nat × Nat) (fun (j, o2, c) => ⟨[(2, (.ref 0 0)), (3, (.ref 1 0)), (4, (.ref 2 0)), (5, (.own 3 152 1 ((ofNat (Int.natAbs (kK x))).length + (ofNat (Int.natAbs (kK y))).length))), (6, (kE i)), (7, (gQ c)), (8, (kE j))], [(0, some (bx (jH (jK (kK x))))), (1, some (bx (jH (jK (kK y))))), (2, some (bx (jH (jF.mk false [])))), (3, some (bm jB o2))]⟩) (fun (j, o2, c) => o2.length = (ofNat (Int.natAbs (kK x))).length + (ofNat (Int.natAbs (kK y))).length ∧ Dig o2 ∧ j ≤ (ofNat (Int.natAbs (kK y))).length ∧ c < 1000000000 ∧ (∀ k, i + (ofNat (Int.natAbs (kK y))).length ≤ k → o2.getD k 0 = 0) ∧ val o2 + pw (i + j) * c = val ((ofNat (Int.natAbs (kK x))).take i) * val (ofNat (Int.natAbs (kK y))) + pw i * ((ofNat (Int.natAbs (kK x))).getD i 0 * val ((ofNat (Int.natAbs (kK y))).take j))) (fun (j, o2, c) => (ofNat (Int.natAbs (kK y))).length - j) (0, out, 0) wk ⟨vD, hdo, Nat.zero_le _, by decide, hz, by simp [val, hv]⟩ ?_
  rintro ⟨j, o2, c⟩ ⟨hlen2, hdo2, hj, hc, hz2, hv2⟩
  have hbj := hdb.getD j
  have hoj := hdo2.getD (i + j)
  have hpq : (ofNat (Int.natAbs (kK x))).getD i 0 * (ofNat (Int.natAbs (kK y))).getD j 0 ≤ 999999999 * 999999999 := Nat.mul_le_mul (by omega) (by omega)
  refine jA <| jA <| kx [(33, (vb (decide (((j : Nat) : Int) < (((ofNat (Int.natAbs (kK y))).length : Nat) : Int)))))] [] (zM <| zE (kU uS) <| zR (uM xI) <| zE (nC kV (L := (ofNat (Int.natAbs (kK y))))) <| zE qS <| zZ) ?_
  refine jQ rfl (fun h2 => ?_) (fun h2 => ?_)
  ·replace h2 := of_decide_eq_true h2
   refine jD <| jA <| jE <| jA <| kd [(9, (gQ (((o2.getD (i + j) 0) + (((ofNat (Int.natAbs (kK x))).getD i 0) * ((ofNat (Int.natAbs (kK y))).getD j 0))) + c)))] [] mo (wM <| wM <| wM <| wE (qQ (i + j)) <| wE (oXo kV (i + j)) <| wR (oLp uR (i + j) (0 : Nat)) <| wE (mW gG gC (o2.getD (i + j) 0)) <| wE (kU uS) <| wR (uM xI) <| wM <| wE (eK kV i (0 : Nat) (L := (ofNat (Int.natAbs (kK x))))) <| wE (yL uR) <| wE (mW gG gC ((ofNat (Int.natAbs (kK x))).getD i 0)) <| wE (kU uS) <| wR (uM xI) <| wM <| wE (eK kV j (0 : Nat) (L := (ofNat (Int.natAbs (kK y))))) <| wE (yL uR) <| wE (mW gG gC ((ofNat (Int.natAbs (kK y))).getD j 0)) <| wE (oMl (((ofNat (Int.natAbs (kK x))).getD i 0) * ((ofNat (Int.natAbs (kK y))).getD j 0))) <| wE (qQ ((o2.getD (i + j) 0) + (((ofNat (Int.natAbs (kK x))).getD i 0) * ((ofNat (Int.natAbs (kK y))).getD j 0)))) <| wM <| wE (qQ (((o2.getD (i + j) 0) + (((ofNat (Int.natAbs (kK x))).getD i 0) * ((ofNat (Int.natAbs (kK y))).getD j 0))) + c)) <| wM <| wZ) ?_
   refine jA <| kx [] [(3, some (bm jB (o2.set (i + j) ((((o2.getD (i + j) 0) + (((ofNat (Int.natAbs (kK x))).getD i 0) * ((ofNat (Int.natAbs (kK y))).getD j 0))) + c) % 1000000000))))] (zM <| zM <| zM <| zE (qQ (i + j)) <| zM <| zE (aI ((((o2.getD (i + j) 0) + (((ofNat (Int.natAbs (kK x))).getD i 0) * ((ofNat (Int.natAbs (kK y))).getD j 0))) + c) % 1000000000)) <| zE (mW nD hH ((((o2.getD (i + j) 0) + (((ofNat (Int.natAbs (kK x))).getD i 0) * ((ofNat (Int.natAbs (kK y))).getD j 0))) + c) % 1000000000)) <| zE (oXo kV (i + j)) <| zT (oSp uR (i + j) ((((o2.getD (i + j) 0) + (((ofNat (Int.natAbs (kK x))).getD i 0) * ((ofNat (Int.natAbs (kK y))).getD j 0))) + c) % 1000000000)) <| zZ) ?_
   refine kx [(7, (gQ ((((o2.getD (i + j) 0) + (((ofNat (Int.natAbs (kK x))).getD i 0) * ((ofNat (Int.natAbs (kK y))).getD j 0))) + c) / 1000000000)))] [] (zM <| zE (oQu ((((o2.getD (i + j) 0) + (((ofNat (Int.natAbs (kK x))).getD i 0) * ((ofNat (Int.natAbs (kK y))).getD j 0))) + c) / 1000000000)) <| zM <| zZ) ?_
   refine kx [(8, (kE (j + 1)))] [] (zM <| zE (qQ (j + 1)) <| zM <| zZ) ?_
   exact ⟨(j + 1, o2.set (i + j) ((o2.getD (i + j) 0 + (ofNat (Int.natAbs (kK x))).getD i 0 * (ofNat (Int.natAbs (kK y))).getD j 0 + c) % 1000000000), (o2.getD (i + j) 0 + (ofNat (Int.natAbs (kK x))).getD i 0 * (ofNat (Int.natAbs (kK y))).getD j 0 + c) / 1000000000), wk, (by obtain ⟨q1, q2⟩ := times_step (by omega) hdo2 hv2 rfl (val_take_succ _ j); exact ⟨by simpa using hlen2, q1, by omega, by omega, zero_set (by omega) hz2, q2⟩), (by first | omega | (dsimp only; omega))⟩
  ·replace h2 := of_decide_eq_false h2
   have hje : j = (ofNat (Int.natAbs (kK y))).length := by omega
   rw [hje] at hv2
   refine kQ <| kx [] [(3, some (bm jB (o2.set (i + (ofNat (Int.natAbs (kK y))).length) c)))] (zM <| zM <| zE (kU uS) <| zR (uM xI) <| zE (nC kV (L := (ofNat (Int.natAbs (kK y))))) <| zE (qQ (i + (ofNat (Int.natAbs (kK y))).length)) <| zM <| zE (mW nD hH c) <| zE (oXo kV (i + (ofNat (Int.natAbs (kK y))).length)) <| zT (oSp uR (i + (ofNat (Int.natAbs (kK y))).length) c) <| zZ) ?_
   refine kx [(6, (kE (i + 1)))] [] (zM <| zE (qQ (i + 1)) <| zM <| zZ) ?_
   exact ⟨(i + 1, o2.set (i + (ofNat (Int.natAbs (kK y))).length) c), wk, (by obtain ⟨q1, q2, q3, q4⟩ := times_row hdo2 (by omega) hlen2 hz2 hc hv2; exact ⟨q1, q2, by omega, q3, q4⟩), (by first | omega | (dsimp only; omega))⟩
 ·replace h1 := of_decide_eq_false h1
  have hie : i = (ofNat (Int.natAbs (kK x))).length := by omega
  rw [hie, List.take_length] at hv
  refine kQ <| jA <| kX (xY (t := 5) (k := 3) (es := List.map jB out) rfl rfl (xV _ _ (fun _ => rfl)) (xU _ _ vD) (yE _ _ (fun _ => rfl) vD)) ?_
  refine kx [] [(2, some (bx (jH (zI (!(((jK (kK x)).neg) == ((jK (kK y)).neg))) (val out)))))] (zE (kU uT) <| zR (uM eL) <| zE (kU uT) <| zR (uM eL) <| zE (oNb bo4) <| zM <| zE (kC (nL (!(((jK (kK x)).neg) == ((jK (kK y)).neg))) out hdo (by omega))) <| zT (kR jI) <| zZ) ?_
  refine jG ⟨_, (qB (cs := (bx (jH (zI (!(((jK (kK x)).neg) == ((jK (kK y)).neg))) (val out))))) (d := (jH (zI (!(((jK (kK x)).neg) == ((jK (kK y)).neg))) (val out)))) rfl rfl jI rfl rfl .nil), ?_⟩
  rw [hv, rmul_eq]; rfl
theorem r_short (a : List Nat) (d : Nat) (hda : Dig a) (hd0 : 0 < d) (hd1 : d ≤ 1000000000) (hla : a.length ≤ 17592186044416) : kF Tryz.prog 189 [(.sl 152 1 (List.map jB a)), (.val (.int .u64 (((d : Nat) : Int))))] (.tup [(.sl 152 1 (List.map jB (ofNat (val a / d)))), (.val (.int .u64 ((((val a % d) : Nat) : Int))))]) := by
 refine jL Tryz.func189 rfl cb189 rfl ?_
 show uK _ _ _ _ ⟨[(0, (vl 152 1 jB a)), (1, (gQ d))], []⟩
 refine jA <| kx [] [] (zE (oNl 152 1) <| zM <| zZ) ?_
 refine jA <| kx [(6, (.own 0 152 1 a.length))] [(0, some (bm jB (List.replicate a.length 0)))] (zM <| zE (nC kV) <| zN (oMk 0 jB (0 : Nat) a.length a.length kV xR gI nP) <| zM <| zZ) ?_
 refine jA <| kx [(7, (gQ 0))] [] (zM <| zZ) ?_
 refine jA <| jA <| kx [(8, (vi (((a.length : Nat) : Int) - 1)))] [] (zM <| zE (nC kV) <| zE (aH (((a.length : Nat) : Int) - 1)) <| zM <| zZ) ?_
 refine jE <| uB (α := Nat × List Nat × Nat) (fun (k, q, zG) => ⟨[(0, (vl 152 1 jB a)), (1, (gQ d)), (6, (.own 0 152 1 a.length)), (7, (gQ zG)), (8, (vi (((k : Nat) : Int) - 1)))], [(0, some (bm jB q))]⟩) (fun (k, q, zG) => k ≤ a.length ∧ q.length = a.length ∧ Dig q ∧ zG < d ∧ val (a.drop k) = val (q.drop k) * d + zG) (fun (k, q, zG) => k) (a.length, List.replicate a.length 0, 0) wk ⟨Nat.le_refl _, by simp, yJ _, hd0, by simp [val]⟩ ?_
 rintro ⟨k, q, zG⟩ ⟨hk, vD, hdq, hr, hv⟩
 refine jA <| jA <| kx [(17, (vb (decide (0 ≤ (((k : Nat) : Int) - 1)))))] [] (zM <| zE oGe <| zZ) ?_
 refine jQ (b := decide (0 ≤ (((k : Nat) : Int) - 1))) rfl (fun h1 => ?_) (fun h1 => ?_)
 ·replace h1 := of_decide_eq_true h1
  obtain ⟨i, rfl⟩ : ∃ i, k = i + 1 := ⟨k - 1, by omega⟩
  rw [show (((i + 1 : Nat) : Int) - 1) = ((i : Nat) : Int) from by omega]
  have hg := hda.getD i
  obtain ⟨hb1, hb2⟩ := short_bound hr hd1 hg
  refine jD <| jA <| jE <| jA <| kx [(8, (kE i)), (9, (gQ ((zG * 1000000000) + (a.getD i 0))))] [] (zM <| zE (oMl (zG * 1000000000)) <| zM <| zM <| zE (eK kV i (0 : Nat)) <| zE (yL uR) <| zE (mW gG gC (a.getD i 0)) <| zE (qQ ((zG * 1000000000) + (a.getD i 0))) <| zM <| zZ) ?_
  refine jA <| kx [] [(0, some (bm jB (q.set i (((zG * 1000000000) + (a.getD i 0)) / d))))] (zM <| zM <| zM <| zM <| zE (oQu (((zG * 1000000000) + (a.getD i 0)) / d)) <| zE (mW nD hH (((zG * 1000000000) + (a.getD i 0)) / d)) <| zE (oXo kV i) <| zT (oSp uR i (((zG * 1000000000) + (a.getD i 0)) / d)) <| zZ) ?_
  refine kx [(7, (gQ (((zG * 1000000000) + (a.getD i 0)) % d)))] [] (zM <| zM <| zE (aI (((zG * 1000000000) + (a.getD i 0)) % d)) <| zM <| zZ) ?_
  refine kx [(8, (vi (((i : Nat) : Int) - 1)))] [] (zM <| zE (aH (((i : Nat) : Int) - 1)) <| zM <| zZ) ?_
  exact ⟨(i, q.set i ((zG * 1000000000 + a.getD i 0) / d), (zG * 1000000000 + a.getD i 0) % d), wk, ⟨by omega, by simpa using vD, hdq.set _ hb2, Nat.mod_lt _ hd0, rshort_step (by omega) hv rfl⟩, (by first | omega | (dsimp only; omega))⟩
 ·replace h1 := of_decide_eq_false h1
  obtain rfl : k = 0 := by omega
  obtain ⟨e1, e2⟩ := short_end (a := a) (q := q) (by rw [Nat.sub_self]; exact hv) hr
  refine kQ <| jA <| kX (xY (t := 6) (k := 0) (es := List.map jB q) rfl rfl (xV _ _ (fun _ => rfl)) (xU _ _ vD) (yE _ _ (fun _ => rfl) vD)) ?_
  refine kx [(4, (vl 152 1 jB (ofNat (val q)))), (5, (gQ zG))] [] (zM <| zE (kC (nL false q (by first | assumption | exact qA _ | exact (uC _).1 | exact (uA _).1) (by omega))) <| zE (oF1 aY xI) <| zM <| zM <| zM <| zZ) ?_
  refine jG ⟨_, (.tmp (d := (.sl 152 1 (List.map jB (ofNat (val q))))) rfl (.tmp (d := (.val (.int .u64 (((zG : Nat) : Int))))) rfl .nil)), ?_⟩
  rw [← e1, ← e2]; rfl
theorem r_pair (l : List Nat) (hd : Dig l) (h2 : l.length ≤ 2) : kF Tryz.prog 149 [(.sl 152 1 (List.map jB l))] (.val (.int .u64 ((((val l) : Nat) : Int)))) := by
 have h0 := hd.getD 0
 have h1 := hd.getD 1
 refine jL Tryz.func149 rfl cb149 rfl ?_
 show uK _ _ _ _ ⟨[(0, (vl 152 1 jB l))], []⟩
 refine jA <| kx [] [] (zM <| zZ) ?_
 refine jA <| kx [(2, (gQ (((l.getD 1 0) * 1000000000) + (l.getD 0 0))))] [] (zM <| zE (kC (aK l 1 (by first | assumption | exact qA _ | exact (uC _).1 | exact (uA _).1))) <| zE (oMl ((l.getD 1 0) * 1000000000)) <| zM <| zE (kC (aK l 0 (by first | assumption | exact qA _ | exact (uC _).1 | exact (uA _).1))) <| zE (qQ (((l.getD 1 0) * 1000000000) + (l.getD 0 0))) <| zM <| zZ) ?_
 refine jG ⟨_, (.tmp (d := (.val (.int .u64 ((((((l.getD 1 0) * 1000000000) + (l.getD 0 0)) : Nat) : Int))))) rfl .nil), ?_⟩
 rw [val_pair h2]; rfl
theorem r_parts (a b : List Nat) (hda : gW a) (hdb : gW b) (hb0 : 0 < b.length) (hla : a.length ≤ 1099511627776) (hlb : b.length ≤ 1099511627776) : kF Tryz.prog 148 [(.sl 152 1 (List.map jB a)), (.sl 152 1 (List.map jB b))] (.tup [(.sl 152 1 (List.map jB (ofNat (val a / val b)))), (.sl 152 1 (List.map jB (ofNat (val a % val b))))]) := by
 have hsc := bU hdb hb0
 have htp := iG hdb hb0
 have hbp := cC hdb hb0
 refine jL Tryz.func148 rfl cb148 rfl ?_
 show uK _ _ _ _ ⟨[(0, (vl 152 1 jB a)), (1, (vl 152 1 jB b))], []⟩
 refine jA <| kx [] [] (zE (oNl 152 1) <| zE (oNl 152 1) <| zZ) ?_
 refine jA <| kx [(6, (kE b.length))] [] (zM <| zE (nC kV) <| zM <| zZ) ?_
 refine jA <| jA <| kx [(19, (vb (((b.length : Nat) : Int) == 1)))] [] (zM <| zE aL <| zZ) ?_
 refine jQ (b := (((b.length : Nat) : Int) == 1)) rfl (fun h1 => ?_) (fun h1 => ?_)
 ·replace h1 := eq_of_beq h1
  have hg0 := hdb.1.getD 0
  have hv1 := val_len1 (b := b) (by omega)
  have hb00 : 0 < b.getD 0 0 := by omega
  have hrl : val a % b.getD 0 0 < 1000000000 := Nat.lt_trans (Nat.mod_lt _ hb00) (by omega)
  refine jA <| kx [(7, (vl 152 1 jB (ofNat (val a / (b.getD 0 0))))), (8, (gQ (val a % (b.getD 0 0))))] [] (zM <| zM <| zE (eK kV 0 (0 : Nat)) <| zE (yL uR) <| zE (mW gG gC (b.getD 0 0)) <| zE (kC (r_short a (b.getD 0 0) hda.1 (by omega) (by omega) (by omega))) <| zM <| zE uH <| zE uH <| zM <| zM <| zZ) ?_
  refine jA <| kx [(4, (vl 152 1 jB (ofNat (val a / (b.getD 0 0))))), (5, (vl 152 1 jB (ofNat (val [(val a % (b.getD 0 0))]))))] [] (zM <| zM <| zE (mW nD hH (val a % (b.getD 0 0))) <| zE (cX kV xR gI) <| zE (kC (nL false [(val a % (b.getD 0 0))] (gH.2 ⟨by omega, hO⟩) (by simp))) <| zE (oF1 aY xI) <| zM <| zM <| zZ) ?_
  refine jG ⟨_, (.tmp (d := (.sl 152 1 (List.map jB (ofNat (val a / (b.getD 0 0)))))) rfl (.tmp (d := (.sl 152 1 (List.map jB (ofNat (val [(val a % (b.getD 0 0))]))))) rfl .nil)), ?_⟩
  rw [hv1, cU]; rfl
 ·replace h1 := ne_of_beq_false h1
  refine jD <| jA <| jA <| kx [(38, (vb (decide ((xF ((val a : Nat) : Int) ((val b : Nat) : Int)) < 0))))] [] (zM <| zM <| zE (kC (r_size a b (by first | assumption | exact uC _ | exact uA _) (by first | assumption | exact uC _ | exact uA _) (by omega) (by omega))) <| zE qS <| zZ) ?_
  refine jQ rfl (fun h2 => ?_) (fun h2 => ?_)
  ·replace h2 := of_decide_eq_true h2
   refine jA <| kx [(4, (vl 152 1 jB [])), (5, (vl 152 1 jB a))] [] (zE (cX kV xR gI) <| zM <| zM <| zM <| zZ) ?_
   refine jG ⟨_, (.tmp (d := (.sl 152 1 (List.map jB []))) rfl (.tmp (d := (.sl 152 1 (List.map jB a))) rfl .nil)), ?_⟩
   have hlt := cmpI_neg h2
   rw [Nat.div_eq_of_lt hlt, Nat.mod_eq_of_lt hlt, vU, ← can_eq hda]; rfl
  ·replace h2 := of_decide_eq_false h2
   obtain ⟨u, hue⟩ : ∃ u, u = ofNat (val a * cZ b) := ⟨_, rfl⟩
   obtain ⟨v, hve⟩ : ∃ v, v = ofNat (val b * cZ b) := ⟨_, rfl⟩
   have hu : Dig u := by rw [hue]; exact qA _
   have hcv : gW v := by rw [hve]; exact uC _
   have hvd := hcv.1
   have hvl : v.length = b.length := by rw [hve]; exact scl_len hdb hb0
   have hvv : val v = val b * cZ b := by rw [hve]; exact kW _
   have huv : val u = val a * cZ b := by rw [hue]; exact kW _
   have hab := len_of_le hda hdb (cmpI_nn h2)
   have hul : a.length ≤ u.length ∧ u.length ≤ a.length + 1 := by rw [hue]; exact scl_lenA hda hdb hb0
   have hvp := cC hcv (by omega)
   have hpv : pw (b.length - 1) ≤ val v := by have h1 := val_top hvd (by omega); have h3 := iG hcv (by omega); rw [hvl] at h1 h3; have h2 := Nat.mul_le_mul_right (pw (b.length - 1)) h3.1; omega
   refine jD <| jA <| kx [(9, (gQ (cZ b)))] [] (zM <| zM <| zE (oSb (b.length - 1)) <| zE (eK kV (b.length - 1) (0 : Nat)) <| zE (yL uR) <| zE (mW gG gC (b.getD (b.length - 1) 0)) <| zE (qQ ((b.getD (b.length - 1) 0) + 1)) <| zE (oQu (cZ b) (hr := by exact (quo_u64 1000000000 (b.getD (b.length - 1) 0 + 1) (by decide)))) <| zM <| zZ) ?_
   refine jA <| kx [(0, (vl 152 1 jB u)), (1, (vl 152 1 jB v))] [] (zM <| zM <| zE (kC (hue ▸ r_scaled a (cZ b) hda.1 (by omega) (by omega))) <| zM <| zM <| zE (kC (hve ▸ r_scaled b (cZ b) hdb.1 (by omega) (by omega))) <| zM <| zM <| zZ) ?_
   refine jA <| kx [(10, (vl 152 1 jB (ofNat (val (List.drop ((u.length - b.length) + 1) u)))))] [] (zM <| zM <| zE (nC kV) <| zM <| zE (oSb (u.length - b.length)) <| zE (qQ ((u.length - b.length) + 1)) <| zE (e_slc (l := ((u.length - b.length) + 1)) (h := (List.map jB u).length) (kl := .i64) (kh := .i64) (es' := List.map jB (List.drop ((u.length - b.length) + 1) u)) (by exact rfl) kV (by exact rfl) (by exact rfl) (by exact rfl) (by simp only [List.length_map]; omega) (Nat.le_refl _) (by rw [List.take_length, List.map_drop])) <| zE (kC (nL false (List.drop ((u.length - b.length) + 1) u) (hu.drop _) (by rw [List.length_drop]; omega))) <| zE (oF1 aY xI) <| zM <| zZ) ?_
   refine jA <| kx [(11, (.own 0 152 1 ((u.length - b.length) + 1)))] [(0, some (bm jB (List.replicate ((u.length - b.length) + 1) 0)))] (zM <| zE (nC kV) <| zM <| zE (oSb (u.length - b.length)) <| zE (qQ ((u.length - b.length) + 1)) <| zN (oMk 0 jB (0 : Nat) ((u.length - b.length) + 1) ((u.length - b.length) + 1) kV xR gI nP) <| zM <| zZ) ?_
   refine jA <| jA <| kx [(12, (vi ((((u.length - b.length) + 1 : Nat) : Int) - 1)))] [] (zM <| zE (nC kV) <| zM <| zE (aH ((((u.length - b.length) + 1 : Nat) : Int) - 1)) <| zM <| zZ) ?_
   refine jE <| uB (α := Nat × List Nat × List Nat) (fun (k, r, q) => ⟨[(0, (vl 152 1 jB u)), (1, (vl 152 1 jB v)), (6, (kE b.length)), (9, (gQ (cZ b))), (10, (vl 152 1 jB r)), (11, (.own 0 152 1 ((u.length - b.length) + 1))), (12, (vi (((k : Nat) : Int) - 1)))], [(0, some (bm jB q))]⟩) (fun (k, r, q) => gW r ∧ k ≤ ((u.length - b.length) + 1) ∧ q.length = ((u.length - b.length) + 1) ∧ Dig q ∧ val r < val v ∧ val (u.drop k) = val v * val (q.drop k) + val r) (fun (k, r, q) => k) (((u.length - b.length) + 1), ofNat (val (List.drop ((u.length - b.length) + 1) u)), List.replicate ((u.length - b.length) + 1) 0) wk ⟨uC _, Nat.le_refl _, by simp, yJ _, by rw [kW]; have h7 := xT (hu.drop ((u.length - b.length) + 1)); rw [List.length_drop, show u.length - ((u.length - b.length) + 1) = b.length - 1 by omega] at h7; omega, by rw [kW]; simp [val]⟩ ?_
   rintro ⟨k, r, q⟩ ⟨hrc, hk, hql, hqd, hr, hv⟩
   refine jA <| jA <| kx [(75, (vb (decide (0 ≤ (((k : Nat) : Int) - 1)))))] [] (zM <| zE oGe <| zZ) ?_
   refine jQ (b := decide (0 ≤ (((k : Nat) : Int) - 1))) rfl (fun h3 => ?_) (fun h3 => ?_)
   ·replace h3 := of_decide_eq_true h3
    obtain ⟨i, rfl⟩ : ∃ i, k = i + 1 := ⟨k - 1, by omega⟩
    rw [show (((i + 1 : Nat) : Int) - 1) = ((i : Nat) : Int) from by omega]
    have hgu := hu.getD i
    have hW : (u.getD i 0 + 1000000000 * val r) < 1000000000 * val v := by omega
    have hrs := rshift_val u hv
    obtain ⟨hg1, hg2⟩ := rguess hvd hvl hb0 hW
    have hgv := hvd.getD (b.length - 1)
    have hgw1 := (qA (u.getD i 0 + 1000000000 * val r)).getD b.length
    have hgw2 := (qA (u.getD i 0 + 1000000000 * val r)).getD (b.length - 1)
    have hrl : r.length ≤ b.length := by have h9 := zP (Nat.le_of_lt hr); rwa [← can_eq hrc, ← can_eq hcv, hvl] at h9
    have hwl : (ofNat (u.getD i 0 + 1000000000 * val r)).length ≤ b.length + 1 := vI (by rw [vV]; have := xT hvd; rw [hvl] at this; omega)
    refine jD <| jA <| jE <| jA <| kx [(10, (vl 152 1 jB (ofNat ((u.getD i 0) + 1000000000 * val r)))), (12, (kE i))] [] (zM <| zM <| zM <| zE (eK kV i (0 : Nat)) <| zE (yL uR) <| zE (kC (r_shifted r (u.getD i 0) hrc.1 (by omega) (by omega))) <| zM <| zZ) ?_
    refine jA <| kd [(13, (gQ (((((ofNat ((u.getD i 0) + 1000000000 * val r)).getD b.length 0) * 1000000000) + ((ofNat ((u.getD i 0) + 1000000000 * val r)).getD (b.length - 1) 0)) / ((v.getD (b.length - 1) 0) + 1))))] [] mo (wM <| wM <| wE (kC (aK (ofNat ((u.getD i 0) + 1000000000 * val r)) b.length (qA _))) <| wE (oMl (((ofNat ((u.getD i 0) + 1000000000 * val r)).getD b.length 0) * 1000000000)) <| wM <| wM <| wE (oSb (b.length - 1)) <| wE (kC (aK (ofNat ((u.getD i 0) + 1000000000 * val r)) (b.length - 1) (by first | assumption | exact qA _ | exact (uC _).1 | exact (uA _).1))) <| wE (qQ ((((ofNat ((u.getD i 0) + 1000000000 * val r)).getD b.length 0) * 1000000000) + ((ofNat ((u.getD i 0) + 1000000000 * val r)).getD (b.length - 1) 0))) <| wM <| wM <| wE (oSb (b.length - 1)) <| wE (eK kV (b.length - 1) (0 : Nat)) <| wE (yL uR) <| wE (mW gG gC (v.getD (b.length - 1) 0)) <| wE (qQ ((v.getD (b.length - 1) 0) + 1)) <| wE (oQu (((((ofNat ((u.getD i 0) + 1000000000 * val r)).getD b.length 0) * 1000000000) + ((ofNat ((u.getD i 0) + 1000000000 * val r)).getD (b.length - 1) 0)) / ((v.getD (b.length - 1) 0) + 1))) <| wM <| wZ) ?_
    refine jA <| kx [(10, (vl 152 1 jB (ofNat (val (ofNat ((u.getD i 0) + 1000000000 * val r)) - val (ofNat (val v * (((((ofNat ((u.getD i 0) + 1000000000 * val r)).getD b.length 0) * 1000000000) + ((ofNat ((u.getD i 0) + 1000000000 * val r)).getD (b.length - 1) 0)) / ((v.getD (b.length - 1) 0) + 1))))))))] [] (zM <| zM <| zM <| zE (kC (r_scaled v (((((ofNat ((u.getD i 0) + 1000000000 * val r)).getD b.length 0) * 1000000000) + ((ofNat ((u.getD i 0) + 1000000000 * val r)).getD (b.length - 1) 0)) / ((v.getD (b.length - 1) 0) + 1)) hvd (by omega) (by omega))) <| zE (kC (r_minus (ofNat ((u.getD i 0) + 1000000000 * val r)) (ofNat (val v * (((((ofNat ((u.getD i 0) + 1000000000 * val r)).getD b.length 0) * 1000000000) + ((ofNat ((u.getD i 0) + 1000000000 * val r)).getD (b.length - 1) 0)) / ((v.getD (b.length - 1) 0) + 1)))) (qA _) (qA _) (by rw [kW, kW, Nat.mul_comm]; exact hg1) (by omega))) <| zM <| zZ) ?_
    refine jA <| jE <| uB (α := Nat × List Nat) (fun (G, r2) => ⟨[(0, (vl 152 1 jB u)), (1, (vl 152 1 jB v)), (6, (kE b.length)), (9, (gQ (cZ b))), (10, (vl 152 1 jB r2)), (11, (.own 0 152 1 ((u.length - b.length) + 1))), (12, (kE i)), (13, (gQ G))], [(0, some (bm jB q))]⟩) (fun (G, r2) => gW r2 ∧ val v * G + val r2 = (u.getD i 0 + 1000000000 * val r)) (fun (G, r2) => val r2) ((((ofNat (u.getD i 0 + 1000000000 * val r)).getD b.length 0 * 1000000000 + (ofNat (u.getD i 0 + 1000000000 * val r)).getD (b.length - 1) 0) / (v.getD (b.length - 1) 0 + 1)), ofNat (val (ofNat (u.getD i 0 + 1000000000 * val r)) - val (ofNat (val v * (((ofNat (u.getD i 0 + 1000000000 * val r)).getD b.length 0 * 1000000000 + (ofNat (u.getD i 0 + 1000000000 * val r)).getD (b.length - 1) 0) / (v.getD (b.length - 1) 0 + 1)))))) wk ⟨uC _, by rw [kW, kW, kW]; rw [Nat.mul_comm] at hg1; omega⟩ ?_
    rintro ⟨G, r2⟩ ⟨hr2, hr2v⟩
    have hr2l : r2.length ≤ b.length + 1 := by have h9 := zP (show val r2 ≤ (u.getD i 0 + 1000000000 * val r) by omega); rw [← can_eq hr2] at h9; omega
    refine jA <| jA <| kx [(109, (vb (decide (0 ≤ (xF ((val r2 : Nat) : Int) ((val v : Nat) : Int))))))] [] (zM <| zM <| zE (kC (r_size r2 v hr2 hcv (by omega) (by omega))) <| zE oGe <| zZ) ?_
    refine jQ rfl (fun h4 => ?_) (fun h4 => ?_)
    ·replace h4 := of_decide_eq_true h4
     have hge := iP h4
     have hG := rquo_lt hr2v hW
     have hr2l : r2.length ≤ b.length + 1 := by have h9 := zP (show val r2 ≤ (u.getD i 0 + 1000000000 * val r) by omega); rw [← can_eq hr2] at h9; omega
     refine jD <| jE <| jA <| kx [(10, (vl 152 1 jB (ofNat (val r2 - val v))))] [] (zM <| zM <| zE (kC (r_minus r2 v hr2.1 hvd (by omega) (by omega))) <| zM <| zZ) ?_
     refine kx [(13, (gQ (G + 1)))] [] (zM <| zE (qQ (G + 1)) <| zM <| zZ) ?_
     exact ⟨(G + 1, ofNat (val r2 - val v)), wk, (by have hge := iP h4; exact ⟨uC _, by rw [kW, Nat.mul_add, Nat.mul_one]; omega⟩), (by have hge := iP h4; dsimp only; rw [kW]; omega)⟩
    ·replace h4 := of_decide_eq_false h4
     have hG := rquo_lt hr2v hW
     have hlt : val r2 < val v := by have h9 := cmpI_lt h4; omega
     refine kQ <| kx [] [(0, some (bm jB (q.set i G)))] (zM <| zM <| zM <| zE (mW nD hH G) <| zE (oXo kV i) <| zT (oSp uR i G) <| zZ) ?_
     refine kx [(12, (vi (((i : Nat) : Int) - 1)))] [] (zM <| zE (aH (((i : Nat) : Int) - 1)) <| zM <| zZ) ?_
     exact ⟨(i, r2, q.set i G), wk, ⟨hr2, by omega, by simpa using hql, hqd.set _ hG, hlt, rround (by omega) (by rw [hr2v]; exact hrs)⟩, (by first | omega | (dsimp only; omega))⟩
   ·replace h3 := of_decide_eq_false h3
    obtain rfl : k = 0 := by omega
    obtain ⟨e1, e2⟩ := scl_div (a := a) (b := b) (q := q) (u := r) hdb hb0 (by rw [List.drop_zero, List.drop_zero] at hv; rw [mY, Nat.one_mul, List.drop_zero, ← huv, ← hvv, hv]; omega) (by rw [List.drop_zero, ← hvv]; exact hr)
    have hrl : r.length ≤ b.length := by have h9 := zP (Nat.le_of_lt hr); rwa [← can_eq hrc, ← can_eq hcv, hvl] at h9
    refine kQ <| jA <| kx [(14, (vl 152 1 jB (ofNat (val r / (cZ b)))))] [] (zM <| zM <| zE (kC (r_short r (cZ b) hrc.1 (by omega) (by omega) (by omega))) <| zM <| zE uH <| zE uH <| zM <| zM <| zZ) ?_
    refine jA <| kX (xY (t := 11) (k := 0) (es := List.map jB q) rfl rfl (xV _ _ (fun _ => rfl)) (xU _ _ hql) (yE _ _ (fun _ => rfl) hql)) ?_
    refine kx [(4, (vl 152 1 jB (ofNat (val q)))), (5, (vl 152 1 jB (ofNat (val r / (cZ b)))))] [] (zM <| zE (kC (nL false q hqd (by omega))) <| zE (oF1 aY xI) <| zM <| zM <| zM <| zZ) ?_
    refine jG ⟨_, (.tmp (d := (.sl 152 1 (List.map jB (ofNat (val q))))) rfl (.tmp (d := (.sl 152 1 (List.map jB (ofNat (val r / (cZ b)))))) rfl .nil)), ?_⟩
    rw [← e1, ← e2]; rfl
end Go.Proofs.YtbecgnplakngdaaGreat
namespace Go.Proofs.YtbecgnplakngdaaGreat
open Go.Fid
set_option maxRecDepth 4000
set_option linter.unusedVariables false
set_option linter.unusedSimpArgs false
theorem cb109 : callB Tryz.prog 109 = true := by kernel_rfl
theorem cb110 : callB Tryz.prog 110 = true := by kernel_rfl
theorem cb136 : callB Tryz.prog 136 = true := by kernel_rfl
theorem r_gcd (x : jF) (y : jF) (hx : x.gs.length ≤ 1099511627776) (hy : y.gs.length ≤ 1099511627776) : kF Tryz.prog 110 [(jH x), (jH y)] (jH (jK ((Int.gcd (kK x) (kK y) : Nat) : Int))) := by
 have hvx := eE x
 have hvy := eE y
 refine jL Tryz.func110 rfl cb110 rfl ?_
 show uK _ _ _ _ ⟨[(0, (.d (jH x))), (1, (.d (jH y)))], []⟩
 refine jA <| kx [(2, (.ref 0 0)), (3, (.ref 1 0)), (4, (.ref 2 0))] [(0, some (bx (jH x))), (1, some (bx (jH y))), (2, some (bx (jH (jF.mk false []))))] (zN (uX 0) <| zN (uX 1) <| zN (qI 2 uD uE) <| zZ) ?_
 refine jA <| kd [(5, (vl 152 1 jB (ofNat (Int.natAbs (kK x))))), (6, (vl 152 1 jB (ofNat (Int.natAbs (kK y)))))] [] mo (wR (kA jI) <| wE (kC (eD x (by omega))) <| wE (oF1 aY xI) <| wR (kA jI) <| wE (kC (eD y (by omega))) <| wE (oF1 aY xI) <| wM <| wM <| wZ) ?_
 refine jA <| jE <| uB (α := List Nat × List Nat) (fun (a, b) => ⟨[(4, (.ref 2 0)), (5, (vl 152 1 jB a)), (6, (vl 152 1 jB b))], [(2, some (bx (jH (jF.mk false []))))]⟩) (fun (a, b) => gW a ∧ gW b ∧ a.length ≤ 1099511627776 ∧ b.length ≤ 1099511627776 ∧ Nat.gcd (val a) (val b) = Int.gcd (kK x) (kK y)) (fun (a, b) => val b) ((ofNat (Int.natAbs (kK x))), (ofNat (Int.natAbs (kK y)))) wk ⟨uC _, uC _, by omega, by omega, by rw [kW, kW]; rfl⟩ ?_
 rintro ⟨a, b⟩ ⟨ha, hb, hla, hlb, hg⟩
 refine jA <| jA <| kx [(29, (vb (decide (0 < ((b.length : Nat) : Int)) && (decide (2 < ((a.length : Nat) : Int)) || decide (2 < ((b.length : Nat) : Int))))))] [] ?_ ?_
 ·refine zM <| zE (nC kV) <| zE bO <| zE (oV (vb (decide (0 < ((b.length : Nat) : Int)))) (xD (by kernel_rfl))) <| ?_
  rcases hb1 : (decide (0 < ((b.length : Nat) : Int))) with _ | _
  ·replace hb1 := of_decide_eq_false hb1
   exact zK <| zK <| zK <| zK <| zK <| zK <| zK <| zK <| zE fC <| zZ
  ·replace hb1 := of_decide_eq_true hb1
   refine zM <| zE (nC kV) <| zE bO <| zE (oV (vb (decide (2 < ((a.length : Nat) : Int)))) (xD (by kernel_rfl))) <| ?_
   rcases hb2 : (decide (2 < ((a.length : Nat) : Int))) with _ | _
   ·replace hb2 := of_decide_eq_false hb2
    exact zM <| zE (nC kV) <| zE bO <| zE oPo <| zE oPa <| zZ
   ·replace hb2 := of_decide_eq_true hb2
    exact zK <| zK <| zK <| zE bD <| zE bD <| zZ
 refine jQ rfl (fun h3 => ?_) (fun h3 => ?_)
 ·have hbl : 0 < b.length := by rw [Bool.and_eq_true, decide_eq_true_eq] at h3; omega
  have hb0 := cC hb hbl
  refine jD <| jE <| jA <| kx [(8, (vl 152 1 jB (ofNat (val a % val b))))] [] (zM <| zM <| zE (kC (r_parts a b ha hb (by omega) (by omega) (by omega))) <| zM <| zE uH <| zE uH <| zM <| zM <| zZ) ?_
  refine kx [(5, (vl 152 1 jB b)), (6, (vl 152 1 jB (ofNat (val a % val b))))] [] (zM <| zM <| zM <| zM <| zZ) ?_
  exact ⟨(b, ofNat (val a % val b)), wk, ⟨hb, uC _, hlb, Nat.le_trans (len_rem a ha _) hla, by rw [kW, ← hg, Nat.gcd_comm, ← Nat.gcd_rec, Nat.gcd_comm]⟩, (by dsimp only; rw [kW]; exact Nat.mod_lt _ hb0)⟩
 ·have hex := h3
  refine kQ <| jA <| jA <| kx [(40, (vb (((b.length : Nat) : Int) == 0)))] [] (zM <| zE (nC kV) <| zE aL <| zZ) ?_
  refine jQ (b := (((b.length : Nat) : Int) == 0)) rfl (fun h4 => ?_) (fun h4 => ?_)
  ·replace h4 := eq_of_beq h4
   have hb1 : b = [] := List.eq_nil_of_length_eq_zero (by omega)
   rw [hb1, val_nil, Nat.gcd_zero_right] at hg
   refine jA <| kx [] [(2, some (bx (jH (zI false (val a)))))] (zM <| zE (kC (nL false a ha.1 (by omega))) <| zT (kR jI) <| zZ) ?_
   refine jG ⟨_, (qB (cs := (bx (jH (zI false (val a))))) (d := (jH (zI false (val a)))) rfl rfl jI rfl rfl .nil), ?_⟩
   rw [← hg, mkI_false]; rfl
  ·replace h4 := ne_of_beq_false h4
   have hl2 : a.length ≤ 2 ∧ b.length ≤ 2 := by simp only [Bool.and_eq_false_iff, Bool.or_eq_false_iff, decide_eq_false_iff_not] at hex; omega
   refine jD <| jA <| kx [(9, (gQ (val a))), (10, (gQ (val b)))] [] (zM <| zE (kC (r_pair a ha.1 (by omega))) <| zM <| zE (kC (r_pair b hb.1 (by omega))) <| zM <| zM <| zZ) ?_
   refine jA <| jE <| uB (α := Nat × Nat) (fun (m, n) => ⟨[(4, (.ref 2 0)), (9, (gQ m)), (10, (gQ n))], [(2, some (bx (jH (jF.mk false []))))]⟩) (fun (m, n) => m < 1000000000000000000 ∧ n < 1000000000000000000 ∧ Nat.gcd m n = Int.gcd (kK x) (kK y)) (fun (m, n) => n) (val a, val b) wk ⟨val_len2 ha.1 hl2.1, val_len2 hb.1 hl2.2, hg⟩ ?_
   rintro ⟨m, n⟩ ⟨hm, hn, hg2⟩
   refine jA <| jA <| kx [(48, (vb (decide (0 < ((n : Nat) : Int)))))] [] (zM <| zE bO <| zZ) ?_
   refine jQ (b := decide (0 < ((n : Nat) : Int))) rfl (fun h5 => ?_) (fun h5 => ?_)
   ·replace h5 := of_decide_eq_true h5
    refine jD <| jE <| kd [(9, (gQ n)), (10, (gQ (m % n)))] [] mo (wM <| wM <| wM <| wE (aI (m % n)) <| wM <| wM <| wZ) ?_
    exact ⟨(n, m % n), wk, ⟨hn, Nat.lt_of_le_of_lt (Nat.mod_le _ _) hm, by rw [← hg2, Nat.gcd_comm, ← Nat.gcd_rec, Nat.gcd_comm]⟩, (by dsimp only; exact Nat.mod_lt _ (by omega))⟩
   ·replace h5 := of_decide_eq_false h5
    obtain rfl : n = 0 := by omega
    rw [Nat.gcd_zero_right] at hg2
    have hmv : val [m % 1000000000, m / 1000000000] = m := by simp only [val]; omega
    refine kQ <| jA <| kx [] [(2, some (bx (jH (zI false (val [(m % 1000000000), (m / 1000000000)])))))] (zM <| zE (aI (m % 1000000000)) <| zE (mW nD hH (m % 1000000000)) <| zM <| zE (oQu (m / 1000000000)) <| zE (mW nD hH (m / 1000000000)) <| zE (cX kV xR gI) <| zE (kC (nL false [(m % 1000000000), (m / 1000000000)] (gH.2 ⟨Nat.mod_lt _ (by decide), gH.2 ⟨by omega, hO⟩⟩) (by simp))) <| zT (kR jI) <| zZ) ?_
    refine jG ⟨_, (qB (cs := (bx (jH (zI false (val [(m % 1000000000), (m / 1000000000)]))))) (d := (jH (zI false (val [(m % 1000000000), (m / 1000000000)])))) rfl rfl jI rfl rfl .nil), ?_⟩
    rw [← hg2, hmv, mkI_false]; rfl
theorem r_compare (x : jF) (y : jF) (hx : x.gs.length ≤ 274877906944) (hy : y.gs.length ≤ 274877906944) : kF Tryz.prog 109 [(jH x), (jH y)] (.val (.int .i64 ((xF (kK x) (kK y))))) := by
 have hv := gs_sub x y
 refine jL Tryz.func109 rfl cb109 rfl ?_
 show uK _ _ _ _ ⟨[(0, (.d (jH x))), (1, (.d (jH y)))], []⟩
 refine jA <| kx [(2, (.ref 0 0)), (3, (.ref 1 0))] [(0, some (bx (jH x))), (1, some (bx (jH y)))] (zN (uX 0) <| zN (uX 1) <| zM <| zZ) ?_
 refine jA <| kx [(4, (vi (qX (kK (jK (kK x - kK y))))))] [] (zR (kA jI) <| zR (kA jI) <| zE (kC (r_sub x y (by omega) (by omega))) <| zE (kC (r_sign (jK (kK x - kK y)) (by omega))) <| zM <| zZ) ?_
 refine jG ⟨_, (.tmp (d := (.val (.int .i64 ((qX (kK (jK (kK x - kK y)))))))) rfl .nil), ?_⟩
 rw [mG, signI_sub]; rfl
theorem r_divide (x : jF) (y : jF) (hx : x.gs.length ≤ 274877906944) (hy : y.gs.length ≤ 274877906944) (hy0 : kK y ≠ 0) : kF Tryz.prog 136 [(jH x), (jH y)] (.tup [(jH (jK ((kK x).fdiv (kK y)))), (jH (jK ((kK x).fmod (kK y)))), (.val (.int .i64 (0)))]) := by
 have hvx := eE x
 have hvy := eE y
 have hmx := gs_val x
 have hmy := gs_val y
 have hy1 : 0 < (kK y).natAbs := by omega
 have hyl := eA hy1
 have hql : (ofNat (val (ofNat (Int.natAbs (kK x))) / val (ofNat (Int.natAbs (kK y))))).length ≤ 274877906944 := by have := len_quo (ofNat (Int.natAbs (kK x))) (uC _) (val (ofNat (Int.natAbs (kK y)))); omega
 have hqg : (zI (!((jK (kK x)).neg == (jK (kK y)).neg)) (val (ofNat (val (ofNat (Int.natAbs (kK x))) / val (ofNat (Int.natAbs (kK y))))))).gs.length ≤ 274877906944 := by show (ofNat (val (ofNat (val (ofNat (Int.natAbs (kK x))) / val (ofNat (Int.natAbs (kK y))))))).length ≤ _; rw [kW]; exact hql
 have hone : (jK 1).gs.length ≤ 1 := (yI (z := 1) (by decide)).l
 have hqs := gs_sub (zI (!((jK (kK x)).neg == (jK (kK y)).neg)) (val (ofNat (val (ofNat (Int.natAbs (kK x))) / val (ofNat (Int.natAbs (kK y))))))) (jK 1)
 refine jL Tryz.func136 rfl cb136 rfl ?_
 show uK _ _ _ _ ⟨[(0, (.d (jH x))), (1, (.d (jH y)))], []⟩
 refine jA <| kx [(2, (.ref 0 0)), (3, (.ref 1 0)), (4, (.ref 2 0)), (5, (.ref 3 0))] [(0, some (bx (jH x))), (1, some (bx (jH y))), (2, some (bx (jH (jF.mk false [])))), (3, some (bx (jH (jF.mk false []))))] (zN (uX 0) <| zN (uX 1) <| zN (qI 2 uD uE) <| zN (qI 3 uD uE) <| zM <| zZ) ?_
 refine jA <| kd [] [(0, some (bx (jH (jK (kK x))))), (1, some (bx (jH (jK (kK y)))))] mo (wR (kA jI) <| wE (kC (eD x (by omega))) <| wR (kA jI) <| wE (kC (eD y (by omega))) <| wT (kR jI) <| wT (kR jI) <| wZ) ?_
 refine jA <| jA <| kx [(17, (vb ((((ofNat (Int.natAbs (kK y))).length : Nat) : Int) == 0)))] [] (zE (kU uS) <| zR (uM xI) <| zE (nC kV (L := (ofNat (Int.natAbs (kK y))))) <| zE aL <| zZ) ?_
 refine jQ rfl (fun h1 => ?_) (fun h1 => ?_)
 ·replace h1 := eq_of_beq h1
  exact absurd h1 (by omega)
 ·replace h1 := ne_of_beq_false h1
  refine jD <| jA <| kx [(7, (vl 152 1 jB (ofNat (val (ofNat (Int.natAbs (kK x))) / val (ofNat (Int.natAbs (kK y))))))), (8, (vl 152 1 jB (ofNat (val (ofNat (Int.natAbs (kK x))) % val (ofNat (Int.natAbs (kK y)))))))] [] (zE (kU uS) <| zR (uM xI) <| zE (kU uS) <| zR (uM xI) <| zE (kC (r_parts (ofNat (Int.natAbs (kK x))) (ofNat (Int.natAbs (kK y))) (by first | assumption | exact uC _ | exact uA _) (by first | assumption | exact uC _ | exact uA _) (by omega) (by omega) (by omega))) <| zM <| zE uH <| zE uH <| zM <| zM <| zZ) ?_
  refine jA <| kx [(9, (.ref 4 0))] [(4, some (bx (jH (zI (!(((jK (kK x)).neg) == ((jK (kK y)).neg))) (val (ofNat (val (ofNat (Int.natAbs (kK x))) / val (ofNat (Int.natAbs (kK y))))))))))] (zE (kU uT) <| zR (uM eL) <| zE (kU uT) <| zR (uM eL) <| zE (oNb bo4) <| zM <| zE (kC (nL (!(((jK (kK x)).neg) == ((jK (kK y)).neg))) (ofNat (val (ofNat (Int.natAbs (kK x))) / val (ofNat (Int.natAbs (kK y))))) (qA _) (by omega))) <| zN (qI 4 uD uE) <| zT (kR jI) <| zZ) ?_
  refine jA <| jA <| kx [(44, (vb (!(((jK (kK x)).neg) == ((jK (kK y)).neg)) && decide (0 < (((ofNat (val (ofNat (Int.natAbs (kK x))) % val (ofNat (Int.natAbs (kK y))))).length : Nat) : Int)))))] [] ?_ ?_
  ·refine zE (kU uT) <| zR (uM eL) <| zE (kU uT) <| zR (uM eL) <| zE (oNb bo4) <| zE (oV (vb (!(((jK (kK x)).neg) == ((jK (kK y)).neg)))) (xD (by kernel_rfl))) <| ?_
   rcases hb2 : (!(((jK (kK x)).neg) == ((jK (kK y)).neg))) with _ | _
   ·exact zK <| zK <| zK <| zE fC <| zZ
   ·exact zM <| zE (nC kV (L := (ofNat (val (ofNat (Int.natAbs (kK x))) % val (ofNat (Int.natAbs (kK y))))))) <| zE bO <| zE oPa <| zZ
  refine jQ rfl (fun h3 => ?_) (fun h3 => ?_)
  ·have hqm := gs_mul (jK (kK (zI (!((jK (kK x)).neg == (jK (kK y)).neg)) (val (ofNat (val (ofNat (Int.natAbs (kK x))) / val (ofNat (Int.natAbs (kK y))))))) - kK (jK 1))) (jK (kK y))
   have hk := r_div_other (X := kK x) (Y := kK y) hy1 (by rw [Bool.and_eq_true, Bool.not_eq_true', beq_eq_false_iff_ne, decide_eq_true_eq] at h3; exact h3)
   refine kd [] [(4, some (bx (jH (jK (kK (zI (!(((jK (kK x)).neg) == ((jK (kK y)).neg))) (val (ofNat (val (ofNat (Int.natAbs (kK x))) / val (ofNat (Int.natAbs (kK y))))))) - kK (jK 1))))))] mo (wR (kA jI) <| wE (kC (r_of 1 (by omega) (by omega))) <| wE (kC (r_sub (zI (!(((jK (kK x)).neg) == ((jK (kK y)).neg))) (val (ofNat (val (ofNat (Int.natAbs (kK x))) / val (ofNat (Int.natAbs (kK y))))))) (jK 1) (by omega) (by omega))) <| wT (kR jI) <| wZ) ?_
   refine jA <| kd [(6, (kE 0))] [(2, some (bx (jH (jK (kK (zI (!(((jK (kK x)).neg) == ((jK (kK y)).neg))) (val (ofNat (val (ofNat (Int.natAbs (kK x))) / val (ofNat (Int.natAbs (kK y))))))) - kK (jK 1)))))), (3, some (bx (jH (jK (kK (jK (kK x)) - kK (jK (kK (jK (kK (zI (!(((jK (kK x)).neg) == ((jK (kK y)).neg))) (val (ofNat (val (ofNat (Int.natAbs (kK x))) / val (ofNat (Int.natAbs (kK y))))))) - kK (jK 1))) * kK (jK (kK y)))))))))] mo (wR (kA jI) <| wR (kA jI) <| wR (kA jI) <| wR (kA jI) <| wE (kC (r_mul (jK (kK (zI (!(((jK (kK x)).neg) == ((jK (kK y)).neg))) (val (ofNat (val (ofNat (Int.natAbs (kK x))) / val (ofNat (Int.natAbs (kK y))))))) - kK (jK 1))) (jK (kK y)) (by omega) (by omega))) <| wE (kC (r_sub (jK (kK x)) (jK (kK (jK (kK (zI (!(((jK (kK x)).neg) == ((jK (kK y)).neg))) (val (ofNat (val (ofNat (Int.natAbs (kK x))) / val (ofNat (Int.natAbs (kK y))))))) - kK (jK 1))) * kK (jK (kK y)))) (by omega) (by omega))) <| wT (kR jI) <| wT (kR jI) <| wM <| wZ) ?_
   refine jG ⟨_, (qB (cs := (bx (jH (jK (kK (zI (!(((jK (kK x)).neg) == ((jK (kK y)).neg))) (val (ofNat (val (ofNat (Int.natAbs (kK x))) / val (ofNat (Int.natAbs (kK y))))))) - kK (jK 1)))))) (d := (jH (jK (kK (zI (!(((jK (kK x)).neg) == ((jK (kK y)).neg))) (val (ofNat (val (ofNat (Int.natAbs (kK x))) / val (ofNat (Int.natAbs (kK y))))))) - kK (jK 1))))) rfl rfl jI rfl rfl (qB (cs := (bx (jH (jK (kK (jK (kK x)) - kK (jK (kK (jK (kK (zI (!(((jK (kK x)).neg) == ((jK (kK y)).neg))) (val (ofNat (val (ofNat (Int.natAbs (kK x))) / val (ofNat (Int.natAbs (kK y))))))) - kK (jK 1))) * kK (jK (kK y))))))))) (d := (jH (jK (kK (jK (kK x)) - kK (jK (kK (jK (kK (zI (!(((jK (kK x)).neg) == ((jK (kK y)).neg))) (val (ofNat (val (ofNat (Int.natAbs (kK x))) / val (ofNat (Int.natAbs (kK y))))))) - kK (jK 1))) * kK (jK (kK y)))))))) rfl rfl jI rfl rfl (.tmp (d := (.val (.int .i64 (0)))) rfl .nil))), ?_⟩
   rw [hk, r_rem_eq]; rfl
  ·have hqm := gs_mul (zI (!((jK (kK x)).neg == (jK (kK y)).neg)) (val (ofNat (val (ofNat (Int.natAbs (kK x))) / val (ofNat (Int.natAbs (kK y))))))) (jK (kK y))
   have hk := r_div_same (X := kK x) (Y := kK y) hy1 (by rw [Bool.and_eq_false_iff, Bool.not_eq_false', beq_iff_eq, decide_eq_false_iff_not] at h3; exact h3)
   refine jD <| jA <| kd [(6, (kE 0))] [(2, some (bx (jH (zI (!(((jK (kK x)).neg) == ((jK (kK y)).neg))) (val (ofNat (val (ofNat (Int.natAbs (kK x))) / val (ofNat (Int.natAbs (kK y)))))))))), (3, some (bx (jH (jK (kK (jK (kK x)) - kK (jK (kK (zI (!(((jK (kK x)).neg) == ((jK (kK y)).neg))) (val (ofNat (val (ofNat (Int.natAbs (kK x))) / val (ofNat (Int.natAbs (kK y))))))) * kK (jK (kK y)))))))))] mo (wR (kA jI) <| wR (kA jI) <| wR (kA jI) <| wR (kA jI) <| wE (kC (r_mul (zI (!(((jK (kK x)).neg) == ((jK (kK y)).neg))) (val (ofNat (val (ofNat (Int.natAbs (kK x))) / val (ofNat (Int.natAbs (kK y))))))) (jK (kK y)) (by omega) (by omega))) <| wE (kC (r_sub (jK (kK x)) (jK (kK (zI (!(((jK (kK x)).neg) == ((jK (kK y)).neg))) (val (ofNat (val (ofNat (Int.natAbs (kK x))) / val (ofNat (Int.natAbs (kK y))))))) * kK (jK (kK y)))) (by omega) (by omega))) <| wT (kR jI) <| wT (kR jI) <| wM <| wZ) ?_
   refine jG ⟨_, (qB (cs := (bx (jH (zI (!(((jK (kK x)).neg) == ((jK (kK y)).neg))) (val (ofNat (val (ofNat (Int.natAbs (kK x))) / val (ofNat (Int.natAbs (kK y)))))))))) (d := (jH (zI (!(((jK (kK x)).neg) == ((jK (kK y)).neg))) (val (ofNat (val (ofNat (Int.natAbs (kK x))) / val (ofNat (Int.natAbs (kK y))))))))) rfl rfl jI rfl rfl (qB (cs := (bx (jH (jK (kK (jK (kK x)) - kK (jK (kK (zI (!(((jK (kK x)).neg) == ((jK (kK y)).neg))) (val (ofNat (val (ofNat (Int.natAbs (kK x))) / val (ofNat (Int.natAbs (kK y))))))) * kK (jK (kK y))))))))) (d := (jH (jK (kK (jK (kK x)) - kK (jK (kK (zI (!(((jK (kK x)).neg) == ((jK (kK y)).neg))) (val (ofNat (val (ofNat (Int.natAbs (kK x))) / val (ofNat (Int.natAbs (kK y))))))) * kK (jK (kK y)))))))) rfl rfl jI rfl rfl (.tmp (d := (.val (.int .i64 (0)))) rfl .nil))), ?_⟩
   rw [hk, r_rem_eq]; rfl
end Go.Proofs.YtbecgnplakngdaaGreat
namespace Go.Proofs.YtbecgnplakngdaaGreat
open Go.Fid
set_option maxRecDepth 4000
set_option linter.unusedVariables false
set_option linter.unusedSimpArgs false
theorem s_neg {x : jF} {a : Int} {m : Nat} (hx : kZ x a m) (hm : m ≤ 274877906944) : kF Tryz.prog 177 [(jH x)] (jH (jK (-a))) := by
 obtain ⟨rfl, hx'⟩ := hx
 exact t_neg x (by omega)
theorem s_sign {x : jF} {a : Int} {m : Nat} (hx : kZ x a m) (hm : m ≤ 274877906944) : kF Tryz.prog 138 [(jH x)] (.val (.int .i64 (qX a))) := by
 obtain ⟨rfl, hx'⟩ := hx
 exact t_sign x (by omega)
theorem s_add {x y : jF} {a b : Int} {m n : Nat} (hx : kZ x a m) (hy : kZ y b n) (hm : m ≤ 274877906944) (hn : n ≤ 274877906944) : kF Tryz.prog 188 [(jH x), (jH y)] (jH (jK (a + b))) := by
 obtain ⟨rfl, hx'⟩ := hx; obtain ⟨rfl, hy'⟩ := hy
 exact t_add x y (by omega) (by omega)
theorem s_sub {x y : jF} {a b : Int} {m n : Nat} (hx : kZ x a m) (hy : kZ y b n) (hm : m ≤ 274877906944) (hn : n ≤ 274877906944) : kF Tryz.prog 215 [(jH x), (jH y)] (jH (jK (a - b))) := by
 obtain ⟨rfl, hx'⟩ := hx; obtain ⟨rfl, hy'⟩ := hy
 exact t_sub x y (by omega) (by omega)
theorem yP {x y : jF} {a b : Int} {m n : Nat} (hx : kZ x a m) (hy : kZ y b n) (hm : m ≤ 274877906944) (hn : n ≤ 274877906944) : kF Tryz.prog 140 [(jH x), (jH y)] (jH (jK (a * b))) := by
 obtain ⟨rfl, hx'⟩ := hx; obtain ⟨rfl, hy'⟩ := hy
 exact t_mul x y (by omega) (by omega)
theorem s_compare {x y : jF} {a b : Int} {m n : Nat} (hx : kZ x a m) (hy : kZ y b n) (hm : m ≤ 274877906944) (hn : n ≤ 274877906944) : kF Tryz.prog 144 [(jH x), (jH y)] (.val (.int .i64 (xF a b))) := by
 obtain ⟨rfl, hx'⟩ := hx; obtain ⟨rfl, hy'⟩ := hy
 exact t_compareI x y (by omega) (by omega)
theorem s_gcd {x y : jF} {a b : Int} {m n : Nat} (hx : kZ x a m) (hy : kZ y b n) (hm : m ≤ 274877906944) (hn : n ≤ 274877906944) : kF Tryz.prog 145 [(jH x), (jH y)] (jH (jK ((Int.gcd a b : Nat) : Int))) := by
 obtain ⟨rfl, hx'⟩ := hx; obtain ⟨rfl, hy'⟩ := hy
 exact t_gcdI x y (by omega) (by omega)
theorem xP {x y : jF} {a b : Int} {m n : Nat} (hx : kZ x a m) (hy : kZ y b n) (hm : m ≤ 274877906944) (hn : n ≤ 274877906944) (hb : b ≠ 0) : kF Tryz.prog 151 [(jH x), (jH y)] (.tup [(jH (jK (a.fdiv b))), (jH (jK (a.fmod b))), (.val (.int .i64 0))]) := by
 obtain ⟨rfl, hx'⟩ := hx; obtain ⟨rfl, hy'⟩ := hy
 exact t_divideI x y (by omega) (by omega) hb
theorem rs_neg {x : jF} {a : Int} {m : Nat} (hx : kZ x a m) (hm : m ≤ 274877906944) : kF Tryz.prog 134 [(jH x)] (jH (jK (-a))) := by
 obtain ⟨rfl, hx'⟩ := hx
 exact r_neg x (by omega)
theorem aO {x : jF} {a : Int} {m : Nat} (hx : kZ x a m) (hm : m ≤ 274877906944) : kF Tryz.prog 84 [(jH x)] (.val (.int .i64 (qX a))) := by
 obtain ⟨rfl, hx'⟩ := hx
 exact r_sign x (by omega)
theorem rs_add {x y : jF} {a b : Int} {m n : Nat} (hx : kZ x a m) (hy : kZ y b n) (hm : m ≤ 274877906944) (hn : n ≤ 274877906944) : kF Tryz.prog 135 [(jH x), (jH y)] (jH (jK (a + b))) := by
 obtain ⟨rfl, hx'⟩ := hx; obtain ⟨rfl, hy'⟩ := hy
 exact r_add x y (by omega) (by omega)
theorem rs_sub {x y : jF} {a b : Int} {m n : Nat} (hx : kZ x a m) (hy : kZ y b n) (hm : m ≤ 274877906944) (hn : n ≤ 274877906944) : kF Tryz.prog 147 [(jH x), (jH y)] (jH (jK (a - b))) := by
 obtain ⟨rfl, hx'⟩ := hx; obtain ⟨rfl, hy'⟩ := hy
 exact r_sub x y (by omega) (by omega)
theorem rs_mul {x y : jF} {a b : Int} {m n : Nat} (hx : kZ x a m) (hy : kZ y b n) (hm : m ≤ 274877906944) (hn : n ≤ 274877906944) : kF Tryz.prog 103 [(jH x), (jH y)] (jH (jK (a * b))) := by
 obtain ⟨rfl, hx'⟩ := hx; obtain ⟨rfl, hy'⟩ := hy
 exact r_mul x y (by omega) (by omega)
theorem rs_compare {x y : jF} {a b : Int} {m n : Nat} (hx : kZ x a m) (hy : kZ y b n) (hm : m ≤ 274877906944) (hn : n ≤ 274877906944) : kF Tryz.prog 109 [(jH x), (jH y)] (.val (.int .i64 (xF a b))) := by
 obtain ⟨rfl, hx'⟩ := hx; obtain ⟨rfl, hy'⟩ := hy
 exact r_compare x y (by omega) (by omega)
theorem rs_gcd {x y : jF} {a b : Int} {m n : Nat} (hx : kZ x a m) (hy : kZ y b n) (hm : m ≤ 274877906944) (hn : n ≤ 274877906944) : kF Tryz.prog 110 [(jH x), (jH y)] (jH (jK ((Int.gcd a b : Nat) : Int))) := by
 obtain ⟨rfl, hx'⟩ := hx; obtain ⟨rfl, hy'⟩ := hy
 exact r_gcd x y (by omega) (by omega)
theorem fV {x y : jF} {a b : Int} {m n : Nat} (hx : kZ x a m) (hy : kZ y b n) (hm : m ≤ 274877906944) (hn : n ≤ 274877906944) (hb : b ≠ 0) : kF Tryz.prog 136 [(jH x), (jH y)] (.tup [(jH (jK (a.fdiv b))), (jH (jK (a.fmod b))), (.val (.int .i64 0))]) := by
 obtain ⟨rfl, hx'⟩ := hx; obtain ⟨rfl, hy'⟩ := hy
 exact r_divide x y (by omega) (by omega) hb
end Go.Proofs.YtbecgnplakngdaaGreat
namespace Go.Proofs.YtbecgnplakngdaaGreat
open Go.Fid
set_option maxRecDepth 4000
set_option linter.unusedVariables false
set_option linter.unusedSimpArgs false
theorem cb97 : callB Tryz.prog 97 = true := by kernel_rfl
theorem cb102 : callB Tryz.prog 102 = true := by kernel_rfl
theorem cb104 : callB Tryz.prog 104 = true := by kernel_rfl
theorem cb105 : callB Tryz.prog 105 = true := by kernel_rfl
theorem cb121 : callB Tryz.prog 121 = true := by kernel_rfl
theorem cb130 : callB Tryz.prog 130 = true := by kernel_rfl
theorem cb137 : callB Tryz.prog 137 = true := by kernel_rfl
theorem cb139 : callB Tryz.prog 139 = true := by kernel_rfl
theorem cb146 : callB Tryz.prog 146 = true := by kernel_rfl
theorem cb170 : callB Tryz.prog 170 = true := by kernel_rfl
theorem cb176 : callB Tryz.prog 176 = true := by kernel_rfl
theorem vY : xK Tryz.prog 42 0 = some 0 := by kernel_rfl
theorem uZ : xK Tryz.prog 42 1 = some 2 := by kernel_rfl
theorem ft42_0 : iX Tryz.prog 42 0 = some (0, 40) := by kernel_rfl
theorem pl42 : mX Tryz.prog 42 = some [(0, 2), (2, 2)] := by kernel_rfl
theorem jS : uG Tryz.prog 42 = some (true, 4) := by kernel_rfl
theorem qM : xH Tryz.prog 42 = some [.bool false, .slice none 0 0, .bool false, .slice none 0 0] := by kernel_rfl
theorem qR : mP [.bool false, .slice none 0 0, .bool false, .slice none 0 0] [.val (.bool false), .sl 152 1 [], .val (.bool false), .sl 152 1 []] := by simp [mP, Value.oneCell']
theorem f_reduced (num den : jF) (a b : Int) (eW : kZ num a 68719476736) (cN : kZ den b 68719476736) (hb : b ≠ 0) : kF Tryz.prog 139 [(jH num), (jH den)] (jO (jC (Rat.divInt a b))) := by
 refine jL Tryz.func139 rfl cb139 rfl ?_
 show uK _ _ _ _ ⟨[(0, (.d (jH num))), (1, (.d (jH den)))], []⟩
 refine jA <| kx [(2, (.ref 0 0)), (3, (.ref 1 0)), (4, (.ref 2 0))] [(0, some (bx (jH num))), (1, some (bx (jH den))), (2, some (bx (jO (kG.mk (jF.mk false []) (jF.mk false [])))))] (zN (uX 0) <| zN (uX 1) <| zN (qI 2 qM qR) <| zZ) ?_
 refine jA <| jA <| kx [(8, (vb (decide ((qX b) < 0))))] [] (zR (kA jI) <| zE (kC (s_sign cN (by decide))) <| zE qS <| zZ) ?_
 refine jQ (b := decide ((qX b) < 0)) rfl (fun h1 => ?_) (fun h1 => ?_)
 ·replace h1 := of_decide_eq_true h1
  have hlt := signI_lt.1 h1
  have hb2 : -b ≠ 0 := by omega
  refine kd [] [(0, some (bx (jH (jK (-a))))), (1, some (bx (jH (jK (-b)))))] mo (wR (kA jI) <| wE (kC (s_neg eW (by decide))) <| wR (kA jI) <| wE (kC (s_neg cN (by decide))) <| wT (kR jI) <| wT (kR jI) <| wZ) ?_
  refine jA <| kx [(5, (.ref 3 0))] [(3, some (bx (jH (jK ((Int.gcd (-a) (-b) : Nat) : Int)))))] (zR (kA jI) <| zR (kA jI) <| zE (kC (s_gcd (mF eW) (mF cN) (by decide) (by decide))) <| zN (qI 3 uD uE) <| zT (kR jI) <| zZ) ?_
  refine jA <| kx [] [(0, some (bx (jH (jK ((-a).fdiv (((Int.gcd (-a) (-b) : Nat) : Int)))))))] (zR (kA jI) <| zR (kA jI) <| zE (kC (xP (mF eW) (hM (k := 68719476736) (mF eW) (mF cN) (by decide)) (by decide) (by decide) (gcd_ne (by omega)))) <| zM <| zE uH <| zE uH <| zE uH <| zT (kR jI) <| zZ) ?_
  refine jA <| kx [] [(1, some (bx (jH (jK ((-b).fdiv (((Int.gcd (-a) (-b) : Nat) : Int)))))))] (zR (kA jI) <| zR (kA jI) <| zE (kC (xP (mF cN) (hM (k := 68719476736) (mF eW) (mF cN) (by decide)) (by decide) (by decide) (gcd_ne (by omega)))) <| zM <| zE uH <| zE uH <| zE uH <| zT (kR jI) <| zZ) ?_
  refine jA <| kx [] [(2, some (bx (jO (kG.mk (jK ((-a).fdiv (((Int.gcd (-a) (-b) : Nat) : Int)))) (jK ((-b).fdiv (((Int.gcd (-a) (-b) : Nat) : Int))))))))] (zR (kA jI) <| zR (kA jI) <| zE (oBd pl42 qM qR) <| zT (kR jS) <| zZ) ?_
  refine jG ⟨_, (qB (cs := (bx (jO (kG.mk (jK ((-a).fdiv (((Int.gcd (-a) (-b) : Nat) : Int)))) (jK ((-b).fdiv (((Int.gcd (-a) (-b) : Nat) : Int)))))))) (d := (jO (kG.mk (jK ((-a).fdiv (((Int.gcd (-a) (-b) : Nat) : Int)))) (jK ((-b).fdiv (((Int.gcd (-a) (-b) : Nat) : Int))))))) rfl rfl jS rfl rfl .nil), ?_⟩
  rw [red_neg hlt]; rfl
 ·replace h1 := of_decide_eq_false h1
  have hge : ¬ b < 0 := fun hh => h1 (signI_lt.2 hh)
  refine jD <| jA <| kx [(5, (.ref 4 0))] [(4, some (bx (jH (jK ((Int.gcd a b : Nat) : Int)))))] (zR (kA jI) <| zR (kA jI) <| zE (kC (s_gcd eW cN (by decide) (by decide))) <| zN (qI 4 uD uE) <| zT (kR jI) <| zZ) ?_
  refine jA <| kx [] [(0, some (bx (jH (jK (a.fdiv (((Int.gcd a b : Nat) : Int)))))))] (zR (kA jI) <| zR (kA jI) <| zE (kC (xP eW (hM (k := 68719476736) eW cN (by decide)) (by decide) (by decide) (gcd_ne (by omega)))) <| zM <| zE uH <| zE uH <| zE uH <| zT (kR jI) <| zZ) ?_
  refine jA <| kx [] [(1, some (bx (jH (jK (b.fdiv (((Int.gcd a b : Nat) : Int)))))))] (zR (kA jI) <| zR (kA jI) <| zE (kC (xP cN (hM (k := 68719476736) eW cN (by decide)) (by decide) (by decide) (gcd_ne (by omega)))) <| zM <| zE uH <| zE uH <| zE uH <| zT (kR jI) <| zZ) ?_
  refine jA <| kx [] [(2, some (bx (jO (kG.mk (jK (a.fdiv (((Int.gcd a b : Nat) : Int)))) (jK (b.fdiv (((Int.gcd a b : Nat) : Int))))))))] (zR (kA jI) <| zR (kA jI) <| zE (oBd pl42 qM qR) <| zT (kR jS) <| zZ) ?_
  refine jG ⟨_, (qB (cs := (bx (jO (kG.mk (jK (a.fdiv (((Int.gcd a b : Nat) : Int)))) (jK (b.fdiv (((Int.gcd a b : Nat) : Int)))))))) (d := (jO (kG.mk (jK (a.fdiv (((Int.gcd a b : Nat) : Int)))) (jK (b.fdiv (((Int.gcd a b : Nat) : Int))))))) rfl rfl jS rfl rfl .nil), ?_⟩
  rw [red_pos hge hb]; rfl
theorem dZ (n : Int) (hlo : -9223372036854775808 ≤ n) (hhi : n ≤ 9223372036854775807) : kF Tryz.prog 102 [(.val (.int .i64 (n)))] (jO (jC ((n : Int) : Rat))) := by
 refine jL Tryz.func102 rfl cb102 rfl ?_
 show uK _ _ _ _ ⟨[(0, (vi n))], []⟩
 refine jA <| kx [(2, (.ref 0 0))] [(0, some (bx (jO (kG.mk (jF.mk false []) (jF.mk false [])))))] (zN (qI 0 qM qR) <| zZ) ?_
 refine jA <| kx [] [(0, some (bx (jO (kG.mk (jK n) (jK 1)))))] (zM <| zE (kC (t_of n (by omega) (by omega))) <| zE (kC (t_of 1 (by decide) (by decide))) <| zE (oBd pl42 qM qR) <| zT (kR jS) <| zZ) ?_
 refine jG ⟨_, (qB (cs := (bx (jO (kG.mk (jK n) (jK 1))))) (d := (jO (kG.mk (jK n) (jK 1)))) rfl rfl jS rfl rfl .nil), ?_⟩
 rfl
theorem eC (x : kG) (p : Rat) (hx : eV x p 17179869184) : kF Tryz.prog 104 [(jO x)] (.val (.bool ((uV x)))) := by
 refine jL Tryz.func104 rfl cb104 rfl ?_
 show uK _ _ _ _ ⟨[(0, (.d (jO x)))], []⟩
 refine jA <| kx [(1, (.ref 0 0))] [(0, some (bx (jO x)))] (zN (uX 0) <| zM <| zZ) ?_
 refine jA <| jA <| kx [(18, (vb ((!(uF x.num) || !(uF x.den)) || decide ((qX (kK x.den)) ≤ 0))))] [] ?_ ?_
 ·refine zE (kU vY) <| zR (kA jI) <| zE (kC (t_valid x.num (Nat.le_trans (gJ hx.n1).l (by decide)))) <| zE eX <| zE (oV (vb (!(uF x.num))) (xD (by kernel_rfl))) <| ?_
  rcases hb1 : (!(uF x.num)) with _ | _
  ·refine zE (kU uZ) <| zR (kA jI) <| zE (kC (t_valid x.den (Nat.le_trans (gJ hx.n2).l (by decide)))) <| zE eX <| zE oPo <| zE (oV (vb (false || !(uF x.den))) (xD (by kernel_rfl))) <| ?_
   rcases hb2 : (false || !(uF x.den)) with _ | _
   ·exact zE (kU uZ) <| zR (kA jI) <| zE (kC (s_sign (gJ hx.n2) (by decide))) <| zE oLe <| zE oPo <| zZ
   ·exact zK <| zK <| zK <| zK <| zE bD <| zZ
  ·exact zK <| zK <| zK <| zK <| zE bD <| zM <| zK <| zK <| zK <| zK <| zE bD <| zZ
 refine jQ rfl (fun h3 => ?_) (fun h3 => ?_)
 ·refine jA <| kx [(2, (vb false))] [] (zM <| zZ) ?_
  refine jG ⟨_, (.tmp (d := (.val (.bool (false)))) rfl .nil), ?_⟩
  rw [validR_no h3]; rfl
 ·refine jD <| jA <| kx [(2, (vb ((xF (((Int.gcd (kK x.num) (kK x.den) : Nat) : Int)) 1) == 0)))] [] (zE (kU vY) <| zR (kA jI) <| zE (kU uZ) <| zR (kA jI) <| zE (kC (s_gcd (gJ hx.n1) (gJ hx.n2) (by decide) (by decide))) <| zE (kC (t_of 1 (by decide) (by decide))) <| zE (kC (s_compare (hM (k := 17179869184) (gJ hx.n1) (gJ hx.n2) (by decide)) (yI (z := 1) (by decide)) (by decide) (by decide))) <| zE aL <| zM <| zZ) ?_
  refine jG ⟨_, (.tmp (d := (.val (.bool (((xF (((Int.gcd (kK x.num) (kK x.den) : Nat) : Int)) 1) == 0))))) rfl .nil), ?_⟩
  rw [validR_yes h3]; rfl
theorem f_copied (x : kG) (p : Rat) (hx : eV x p 17179869184) : kF Tryz.prog 176 [(jO x)] (jO (kG.mk (jK (-(-kK x.num))) (jK (-(-kK x.den))))) := by
 refine jL Tryz.func176 rfl cb176 rfl ?_
 show uK _ _ _ _ ⟨[(0, (.d (jO x)))], []⟩
 refine jA <| kx [(1, (.ref 0 0)), (2, (.ref 1 0))] [(0, some (bx (jO x))), (1, some (bx (jO (kG.mk (jF.mk false []) (jF.mk false [])))))] (zN (uX 0) <| zN (qI 1 qM qR) <| zZ) ?_
 refine jA <| kd [] [(1, some (bx (jO (kG.mk (jK (-(-(kK x.num)))) (jK (-(-(kK x.den))))))))] mo (wE (kU vY) <| wR (kA jI) <| wE (kC (s_neg (gJ hx.n1) (by decide))) <| wE (kC (s_neg (mF (gJ hx.n1)) (by decide))) <| wE (kU uZ) <| wR (kA jI) <| wE (kC (s_neg (gJ hx.n2) (by decide))) <| wE (kC (s_neg (mF (gJ hx.n2)) (by decide))) <| wE (oBd pl42 qM qR) <| wT (kR jS) <| wZ) ?_
 refine jG ⟨_, (qB (cs := (bx (jO (kG.mk (jK (-(-(kK x.num)))) (jK (-(-(kK x.den)))))))) (d := (jO (kG.mk (jK (-(-(kK x.num)))) (jK (-(-(kK x.den))))))) rfl rfl jS rfl rfl .nil), ?_⟩
 rfl
theorem aQ (x : kG) (p : Rat) (hx : eV x p 17179869184) : kF Tryz.prog 137 [(jO x)] (jO (jC p)) := by
 refine jL Tryz.func137 rfl cb137 rfl ?_
 show uK _ _ _ _ ⟨[(0, (.d (jO x)))], []⟩
 refine jA <| kx [(1, (.ref 0 0)), (2, (.ref 1 0))] [(0, some (bx (jO x))), (1, some (bx (jO (kG.mk (jF.mk false []) (jF.mk false [])))))] (zN (uX 0) <| zN (qI 1 qM qR) <| zZ) ?_
 refine jA <| jA <| kx [(4, (vb (uV x)))] [] (zR (kA jS) <| zE (kC (eC x p hx)) <| zZ) ?_
 refine jQ (b := (uV x)) rfl (fun h1 => ?_) (fun h1 => ?_)
 ·refine jA <| kx [] [(1, some (bx (jO (kG.mk (jK (-(-kK x.num))) (jK (-(-kK x.den)))))))] (zR (kA jS) <| zE (kC (f_copied x p hx)) <| zT (kR jS) <| zZ) ?_
  refine jG ⟨_, (qB (cs := (bx (jO (kG.mk (jK (-(-kK x.num))) (jK (-(-kK x.den))))))) (d := (jO (kG.mk (jK (-(-kK x.num))) (jK (-(-kK x.den)))))) rfl rfl jS rfl rfl .nil), ?_⟩
  rw [← hx.v, ← copied_eq h1]; rfl
 ·refine jD <| jA <| kx [] [(1, some (bx (jO (jC ((0 : Int) : Rat)))))] (zE (kC (dZ 0 (by decide) (by decide))) <| zT (kR jS) <| zZ) ?_
  refine jG ⟨_, (qB (cs := (bx (jO (jC ((0 : Int) : Rat))))) (d := (jO (jC ((0 : Int) : Rat)))) rfl rfl jS rfl rfl .nil), ?_⟩
  rw [← hx.v, toQ_bad h1]; rfl
theorem f_sign (x : kG) (p : Rat) (hx : eV x p 17179869184) : kF Tryz.prog 105 [(jO x)] (.val (.int .i64 ((yT p)))) := by
 refine jL Tryz.func105 rfl cb105 rfl ?_
 show uK _ _ _ _ ⟨[(0, (.d (jO x)))], []⟩
 refine jA <| kx [(1, (.ref 0 0))] [(0, some (bx (jO x)))] (zN (uX 0) <| zM <| zZ) ?_
 refine jA <| kx [(2, (vi (qX p.num)))] [] (zR (kA jS) <| zE (kC (aQ x p hx)) <| zE (oFv ft42_0 jI) <| zE (kC (s_sign (kN hx.ql) (by decide))) <| zM <| zZ) ?_
 refine jG ⟨_, (.tmp (d := (.val (.int .i64 ((qX p.num))))) rfl .nil), ?_⟩
 rfl
theorem f_neg (x : kG) (p : Rat) (hx : eV x p 17179869184) : kF Tryz.prog 170 [(jO x)] (jO (jC (-p))) := by
 refine jL Tryz.func170 rfl cb170 rfl ?_
 show uK _ _ _ _ ⟨[(0, (.d (jO x)))], []⟩
 refine jA <| kx [(1, (.ref 0 0)), (2, (.ref 1 0))] [(0, some (bx (jO x))), (1, some (bx (jO (kG.mk (jF.mk false []) (jF.mk false [])))))] (zN (uX 0) <| zN (qI 1 qM qR) <| zZ) ?_
 refine jA <| kx [] [(0, some (bx (jO (jC p))))] (zR (kA jS) <| zE (kC (aQ x p hx)) <| zT (kR jS) <| zZ) ?_
 refine jA <| kd [] [(1, some (bx (jO (kG.mk (jK (-p.num)) ((jC p).den)))))] mo (wE (kU vY) <| wR (kA jI) <| wE (kC (s_neg (kN hx.ql) (by decide))) <| wE (kU uZ) <| wR (kA jI) <| wE (oBd pl42 qM qR) <| wT (kR jS) <| wZ) ?_
 refine jG ⟨_, (qB (cs := (bx (jO (kG.mk (jK (-p.num)) ((jC p).den))))) (d := (jO (kG.mk (jK (-p.num)) ((jC p).den)))) rfl rfl jS rfl rfl .nil), ?_⟩
 rfl
theorem f_add (x : kG) (y : kG) (p : Rat) (q : Rat) (hx : eV x p 17179869184) (hy : eV y q 17179869184) : kF Tryz.prog 146 [(jO x), (jO y)] (jO (jC (p + q))) := by
 refine jL Tryz.func146 rfl cb146 rfl ?_
 show uK _ _ _ _ ⟨[(0, (.d (jO x))), (1, (.d (jO y)))], []⟩
 refine jA <| kx [(2, (.ref 0 0)), (3, (.ref 1 0)), (4, (.ref 2 0))] [(0, some (bx (jO x))), (1, some (bx (jO y))), (2, some (bx (jO (kG.mk (jF.mk false []) (jF.mk false [])))))] (zN (uX 0) <| zN (uX 1) <| zN (qI 2 qM qR) <| zZ) ?_
 refine jA <| kd [] [(0, some (bx (jO (jC p)))), (1, some (bx (jO (jC q))))] mo (wR (kA jS) <| wE (kC (aQ x p hx)) <| wR (kA jS) <| wE (kC (aQ y q hy)) <| wT (kR jS) <| wT (kR jS) <| wZ) ?_
 refine jA <| kd [] [(2, some (bx (jO (jC (Rat.divInt ((p.num * (q.den : Int)) + (q.num * (p.den : Int))) ((p.den : Int) * (q.den : Int)))))))] mo (wE (kU vY) <| wR (kA jI) <| wE (kU uZ) <| wR (kA jI) <| wE (kC (yP (kN hx.ql) (jW hy.ql) (by decide) (by decide))) <| wE (kU vY) <| wR (kA jI) <| wE (kU uZ) <| wR (kA jI) <| wE (kC (yP (kN hy.ql) (jW hx.ql) (by decide) (by decide))) <| wE (kC (s_add (jP (k := 34359738368) (kN hx.ql) (jW hy.ql) (by decide)) (jP (k := 34359738368) (kN hy.ql) (jW hx.ql) (by decide)) (by decide) (by decide))) <| wE (kU uZ) <| wR (kA jI) <| wE (kU uZ) <| wR (kA jI) <| wE (kC (yP (jW hx.ql) (jW hy.ql) (by decide) (by decide))) <| wE (kC (f_reduced (jK ((p.num * (q.den : Int)) + (q.num * (p.den : Int)))) (jK ((p.den : Int) * (q.den : Int))) ((p.num * (q.den : Int)) + (q.num * (p.den : Int))) ((p.den : Int) * (q.den : Int)) (qJ (xO (k := 34359738369) (jP (k := 34359738368) (kN hx.ql) (jW hy.ql) (by decide)) (jP (k := 34359738368) (kN hy.ql) (jW hx.ql) (by decide)) (by decide)) (by decide)) (qJ (jP (k := 34359738368) (jW hx.ql) (jW hy.ql) (by decide)) (by decide)) (mul_ne (gX _) (gX _)))) <| wT (kR jS) <| wZ) ?_
 refine jG ⟨_, (qB (cs := (bx (jO (jC (Rat.divInt ((p.num * (q.den : Int)) + (q.num * (p.den : Int))) ((p.den : Int) * (q.den : Int))))))) (d := (jO (jC (Rat.divInt ((p.num * (q.den : Int)) + (q.num * (p.den : Int))) ((p.den : Int) * (q.den : Int)))))) rfl rfl jS rfl rfl .nil), ?_⟩
 rw [add_divInt]; rfl
theorem f_sub (x : kG) (y : kG) (p : Rat) (q : Rat) (hx : eV x p 17179869184) (hy : eV y q 17179869184) : kF Tryz.prog 130 [(jO x), (jO y)] (jO (jC (p - q))) := by
 refine jL Tryz.func130 rfl cb130 rfl ?_
 show uK _ _ _ _ ⟨[(0, (.d (jO x))), (1, (.d (jO y)))], []⟩
 refine jA <| kx [(2, (.ref 0 0)), (3, (.ref 1 0)), (4, (.ref 2 0))] [(0, some (bx (jO x))), (1, some (bx (jO y))), (2, some (bx (jO (kG.mk (jF.mk false []) (jF.mk false [])))))] (zN (uX 0) <| zN (uX 1) <| zN (qI 2 qM qR) <| zZ) ?_
 refine jA <| kd [] [(2, some (bx (jO (jC (p + (-q))))))] mo (wR (kA jS) <| wR (kA jS) <| wE (kC (f_neg y q hy)) <| wE (kC (f_add x (jC (-q)) p (-q) hx (kL (ql_neg hy.ql)))) <| wT (kR jS) <| wZ) ?_
 refine jG ⟨_, (qB (cs := (bx (jO (jC (p + (-q)))))) (d := (jO (jC (p + (-q))))) rfl rfl jS rfl rfl .nil), ?_⟩
 rw [Rat.sub_eq_add_neg]; rfl
theorem f_mul (x : kG) (y : kG) (p : Rat) (q : Rat) (hx : eV x p 17179869184) (hy : eV y q 17179869184) : kF Tryz.prog 121 [(jO x), (jO y)] (jO (jC (p * q))) := by
 refine jL Tryz.func121 rfl cb121 rfl ?_
 show uK _ _ _ _ ⟨[(0, (.d (jO x))), (1, (.d (jO y)))], []⟩
 refine jA <| kx [(2, (.ref 0 0)), (3, (.ref 1 0)), (4, (.ref 2 0))] [(0, some (bx (jO x))), (1, some (bx (jO y))), (2, some (bx (jO (kG.mk (jF.mk false []) (jF.mk false [])))))] (zN (uX 0) <| zN (uX 1) <| zN (qI 2 qM qR) <| zZ) ?_
 refine jA <| kd [] [(0, some (bx (jO (jC p)))), (1, some (bx (jO (jC q))))] mo (wR (kA jS) <| wE (kC (aQ x p hx)) <| wR (kA jS) <| wE (kC (aQ y q hy)) <| wT (kR jS) <| wT (kR jS) <| wZ) ?_
 refine jA <| kd [] [(2, some (bx (jO (jC (Rat.divInt (p.num * q.num) ((p.den : Int) * (q.den : Int)))))))] mo (wE (kU vY) <| wR (kA jI) <| wE (kU vY) <| wR (kA jI) <| wE (kC (yP (kN hx.ql) (kN hy.ql) (by decide) (by decide))) <| wE (kU uZ) <| wR (kA jI) <| wE (kU uZ) <| wR (kA jI) <| wE (kC (yP (jW hx.ql) (jW hy.ql) (by decide) (by decide))) <| wE (kC (f_reduced (jK (p.num * q.num)) (jK ((p.den : Int) * (q.den : Int))) (p.num * q.num) ((p.den : Int) * (q.den : Int)) (qJ (jP (k := 34359738368) (kN hx.ql) (kN hy.ql) (by decide)) (by decide)) (qJ (jP (k := 34359738368) (jW hx.ql) (jW hy.ql) (by decide)) (by decide)) (mul_ne (gX _) (gX _)))) <| wT (kR jS) <| wZ) ?_
 refine jG ⟨_, (qB (cs := (bx (jO (jC (Rat.divInt (p.num * q.num) ((p.den : Int) * (q.den : Int))))))) (d := (jO (jC (Rat.divInt (p.num * q.num) ((p.den : Int) * (q.den : Int)))))) rfl rfl jS rfl rfl .nil), ?_⟩
 rw [mul_divInt]; rfl
theorem f_divide (x : kG) (y : kG) (p : Rat) (q : Rat) (hx : eV x p 17179869184) (hy : eV y q 17179869184) : kF Tryz.prog 97 [(jO x), (jO y)] (.tup [(jO (divR p q)), (.val (.int .i64 ((divC q))))]) := by
 refine jL Tryz.func97 rfl cb97 rfl ?_
 show uK _ _ _ _ ⟨[(0, (.d (jO x))), (1, (.d (jO y)))], []⟩
 refine jA <| kx [(2, (.ref 0 0)), (3, (.ref 1 0)), (4, (.ref 2 0))] [(0, some (bx (jO x))), (1, some (bx (jO y))), (2, some (bx (jO (kG.mk (jF.mk false []) (jF.mk false [])))))] (zN (uX 0) <| zN (uX 1) <| zN (qI 2 qM qR) <| zM <| zZ) ?_
 refine jA <| kd [] [(0, some (bx (jO (jC p)))), (1, some (bx (jO (jC q))))] mo (wR (kA jS) <| wE (kC (aQ x p hx)) <| wR (kA jS) <| wE (kC (aQ y q hy)) <| wT (kR jS) <| wT (kR jS) <| wZ) ?_
 refine jA <| jA <| kx [(13, (vb ((qX q.num) == 0)))] [] (zE (kU vY) <| zR (kA jI) <| zE (kC (s_sign (kN hy.ql) (by decide))) <| zE aL <| zZ) ?_
 refine jQ (b := ((qX q.num) == 0)) rfl (fun h1 => ?_) (fun h1 => ?_)
 ·replace h1 := eq_of_beq h1
  have hq0 := cB.1 h1
  refine jA <| kx [(5, (kE 14))] [(2, some (bx (jO (kG.mk (jF.mk false []) (jF.mk false [])))))] (zE (oBd pl42 qM qR) <| zT (kR jS) <| zM <| zZ) ?_
  refine jG ⟨_, (qB (cs := (bx (jO (kG.mk (jF.mk false []) (jF.mk false []))))) (d := (jO (kG.mk (jF.mk false []) (jF.mk false [])))) rfl rfl jS rfl rfl (.tmp (d := (.val (.int .i64 (14)))) rfl .nil)), ?_⟩
  rw [divR_zero hq0, divC_zero hq0]; rfl
 ·replace h1 := ne_of_beq_false h1
  have hq0 : q ≠ 0 := fun hh => h1 (cB.2 hh)
  refine jD <| jA <| kd [(5, (kE 0))] [(2, some (bx (jO (jC (Rat.divInt (p.num * (q.den : Int)) ((p.den : Int) * q.num))))))] mo (wE (kU vY) <| wR (kA jI) <| wE (kU uZ) <| wR (kA jI) <| wE (kC (yP (kN hx.ql) (jW hy.ql) (by decide) (by decide))) <| wE (kU uZ) <| wR (kA jI) <| wE (kU vY) <| wR (kA jI) <| wE (kC (yP (jW hx.ql) (kN hy.ql) (by decide) (by decide))) <| wE (kC (f_reduced (jK (p.num * (q.den : Int))) (jK ((p.den : Int) * q.num)) (p.num * (q.den : Int)) ((p.den : Int) * q.num) (qJ (jP (k := 34359738368) (kN hx.ql) (jW hy.ql) (by decide)) (by decide)) (qJ (jP (k := 34359738368) (jW hx.ql) (kN hy.ql) (by decide)) (by decide)) (mul_ne (gX _) (num_ne hq0)))) <| wT (kR jS) <| wM <| wZ) ?_
  refine jG ⟨_, (qB (cs := (bx (jO (jC (Rat.divInt (p.num * (q.den : Int)) ((p.den : Int) * q.num)))))) (d := (jO (jC (Rat.divInt (p.num * (q.den : Int)) ((p.den : Int) * q.num))))) rfl rfl jS rfl rfl (.tmp (d := (.val (.int .i64 (0)))) rfl .nil)), ?_⟩
  rw [divR_ne hq0, divC_ne hq0, div_divInt]; rfl
end Go.Proofs.YtbecgnplakngdaaGreat
