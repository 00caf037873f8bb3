/- Part 17 of a proof: rules, plain facts, and functions walked. -/
import Derived.Test.YtbecgnplakngdaaGreatM16
namespace Go.Proofs.YtbecgnplakngdaaGreat
open Go.Fid
set_option maxRecDepth 4000
set_option linter.unusedVariables false
set_option linter.unusedSimpArgs false
theorem cb25 : callB Tryz.prog 25 = true := by kernel_rfl
theorem cb27 : callB Tryz.prog 27 = true := by kernel_rfl
theorem cb94 : callB Tryz.prog 94 = true := by kernel_rfl
theorem cb133 : callB Tryz.prog 133 = true := by kernel_rfl
theorem cb173 : callB Tryz.prog 173 = true := by kernel_rfl
theorem cb174 : callB Tryz.prog 174 = true := by kernel_rfl
theorem cb175 : callB Tryz.prog 175 = true := by kernel_rfl
theorem cb190 : callB Tryz.prog 190 = true := by kernel_rfl
theorem cb191 : callB Tryz.prog 191 = true := by kernel_rfl
theorem cb192 : callB Tryz.prog 192 = true := by kernel_rfl
theorem bK : iP Tryz.prog 40 1 = some (1, 38) := by kernel_rfl
theorem aV (l : List Nat) (i : Nat) (hd : Dig l) : kF Tryz.prog 192 [(.sl 152 1 (List.map jB l)), (.val (.int .i64 (((i : Nat) : Int))))] (.val (.int .u64 ((((l.getD i 0) : Nat) : Int)))) := by
 have hg := hd.getD i
 refine jL Tryz.func192 rfl cb192 rfl ?_
 show uK _ _ _ _ ⟨[(0, (vl 152 1 jB l)), (1, (kE i))], []⟩
 refine jA <| kx [] [] (zM <| zZ) ?_
 refine jA <| jA <| kx [(8, (vb (decide (((i : Nat) : Int) < ((l.length : Nat) : Int)))))] [] (zM <| zM <| zE (nC kV) <| zE qS <| zZ) ?_
 refine jQ rfl (fun h1 => ?_) (fun h1 => ?_)
 ·replace h1 := of_decide_eq_true h1
  refine jA <| kx [(4, (gQ (l.getD i 0)))] [] (zM <| zM <| zE (eP kV i (0 : Nat)) <| zE (yN uR) <| zE (mU gG gA (l.getD i 0)) <| zM <| zZ) ?_
  refine jG ⟨_, (.tmp (d := (.val (.int .u64 ((((l.getD i 0) : Nat) : Int))))) rfl .nil), ?_⟩
  rfl
 ·replace h1 := of_decide_eq_false h1
  refine jD <| jA <| kx [(4, (gQ 0))] [] (zM <| zZ) ?_
  refine jG ⟨_, (.tmp (d := (.val (.int .u64 (0)))) rfl .nil), ?_⟩
  rw [show l.getD i 0 = 0 from getD_out (by omega)]; rfl
theorem nJ (neg : Bool) (l : List Nat) (hd : Dig l) (hb : l.length ≤ 17592186044416) : kF Tryz.prog 94 [(.val (.bool (neg))), (.sl 152 1 (List.map jB l))] (jH (zI neg (val l))) := by
 refine jL Tryz.func94 rfl cb94 rfl ?_
 show uK _ _ _ _ ⟨[(0, (vb neg)), (1, (vl 152 1 jB l))], []⟩
 refine jA <| kx [(4, (.ref 0 0))] [(0, some (bx (jH (jF.mk false []))))] (zN (qH 0 uD uE) <| zZ) ?_
 refine jA <| kx [(5, (kE l.length))] [] (zM <| zE (nC kV) <| zM <| zZ) ?_
 refine jA <| jE <| uA (α := Nat) (fun k => ⟨[(0, (vb neg)), (1, (vl 152 1 jB l)), (4, (.ref 0 0)), (5, (kE k))], [(0, some (bx (jH (jF.mk false []))))]⟩) (fun k => k ≤ l.length ∧ val (l.take k) = val l) (fun k => k) l.length wk ⟨Nat.le_refl _, by rw [List.take_length]⟩ ?_
 rintro k ⟨hk, hv⟩
 refine jA <| jA <| kx [(17, (vb (decide (0 < ((k : Nat) : Int)) && ((((l.getD (k - 1) 0) : Nat) : Int) == 0))))] [] ?_ ?_
 ·refine zM <| zE bO <| zE (oV (vb (decide (0 < ((k : Nat) : Int)))) (xD (by kernel_rfl))) <| ?_
  rcases hb1 : (decide (0 < ((k : Nat) : Int))) with _ | _
  ·replace hb1 := of_decide_eq_false hb1
   exact zK <| zK <| zK <| zK <| zK <| zK <| zE fC <| zZ
  ·replace hb1 := of_decide_eq_true hb1
   exact zM <| zM <| zE (oSb (k - 1)) <| zE (eP kV (k - 1) (0 : Nat)) <| zE (yN uR) <| zE aO <| zE oPa <| zZ
 refine jQ rfl (fun h2 => ?_) (fun h2 => ?_)
 ·have hm := r_made_step hk hv h2
  have hm0 := hm.1
  refine jD <| jE <| kx [(5, (kE (k - 1)))] [] (zM <| zE (oSb (k - 1)) <| zM <| zZ) ?_
  exact ⟨(k - 1), wk, ⟨by omega, hm.2⟩, (by first | omega | (dsimp only; omega))⟩
 ·refine kQ <| jA <| kx [] [(0, some (bx (jH (jF.mk (neg && decide (0 < ((k : Nat) : Int))) (List.take k l)))))] ?_ ?_
  ·refine zM <| zE (oV (vb neg) (xD (by kernel_rfl))) <| ?_
   rcases hb3 : neg with _ | _
   ·exact zK <| zK <| zE fC <| zE (oBe kV) <| zM <| zM <| zE (e_slc (l := 0) (h := k) (kl := .i64) (kh := .i64) (es' := List.map jB (List.take k l)) (by exact rfl) kV (by exact rfl) (by exact rfl) (by exact rfl) (Nat.zero_le _) (by simp only [List.length_map]; omega) (by rw [List.drop_zero, List.map_take])) <| zE (e_appe (by exact rfl) kV xP (by kernel_rfl) nT (by exact rfl) (by exact rfl) (by simp only [List.length_map, List.length_take, List.length_drop, List.length_append, List.length_cons, List.length_nil, maxLen]; omega) (by simp only [List.length_map, List.length_take, List.length_drop, List.length_append, List.length_cons, List.length_nil]; omega)) <| zE (oBd pl40 uD uE) <| zT (kR jI) <| zZ
   ·exact zM <| zE bO <| zE oPa <| zE (oBe kV) <| zM <| zM <| zE (e_slc (l := 0) (h := k) (kl := .i64) (kh := .i64) (es' := List.map jB (List.take k l)) (by exact rfl) kV (by exact rfl) (by exact rfl) (by exact rfl) (Nat.zero_le _) (by simp only [List.length_map]; omega) (by rw [List.drop_zero, List.map_take])) <| zE (e_appe (by exact rfl) kV xP (by kernel_rfl) nT (by exact rfl) (by exact rfl) (by simp only [List.length_map, List.length_take, List.length_drop, List.length_append, List.length_cons, List.length_nil, maxLen]; omega) (by simp only [List.length_map, List.length_take, List.length_drop, List.length_append, List.length_cons, List.length_nil]; omega)) <| zE (oBd pl40 uD uE) <| zT (kR jI) <| zZ
  refine jG ⟨_, (qB (cs := (bx (jH (jF.mk (neg && decide (0 < ((k : Nat) : Int))) (List.take k l))))) (d := (jH (jF.mk (neg && decide (0 < ((k : Nat) : Int))) (List.take k l)))) rfl rfl jI rfl rfl .nil), ?_⟩
  rw [r_made_end hd hk hv h2]; rfl
theorem lD (x : jF) (hb : x.gs.length ≤ 17592186044416) : kF Tryz.prog 25 [(jH x)] (.val (.bool ((uG x)))) := by
 refine jL Tryz.func25 rfl cb25 rfl ?_
 show uK _ _ _ _ ⟨[(0, (.d (jH x)))], []⟩
 refine jA <| kx [(1, (.ref 0 0))] [(0, some (bx (jH x)))] (zN (uX 0) <| zM <| zZ) ?_
 refine jA <| kx [(3, (kE x.gs.length))] [] (zE (kU uT) <| zR (uM xI) <| zE (nC kV) <| zM <| zZ) ?_
 refine jA <| jA <| kx [(4, (kE 0))] [] (zM <| zZ) ?_
 refine jE <| uA (α := Nat) (fun i => ⟨[(1, (.ref 0 0)), (3, (kE x.gs.length)), (4, (kE i))], [(0, some (bx (jH x)))]⟩) (fun i => i ≤ x.gs.length ∧ Dig (x.gs.take i)) (fun i => x.gs.length - i) 0 wk ⟨Nat.zero_le _, by rw [List.take_zero]; exact hO⟩ ?_
 rintro i ⟨hi, hd⟩
 refine jA <| jA <| kx [(10, (vb (decide (((i : Nat) : Int) < ((x.gs.length : Nat) : Int)))))] [] (zM <| zM <| zE qS <| zZ) ?_
 refine jQ rfl (fun h1 => ?_) (fun h1 => ?_)
 ·replace h1 := of_decide_eq_true h1
  refine jD <| jA <| jE <| jA <| kx [(18, (vb (decide (1000000000 ≤ (((x.gs.getD i 0) : Nat) : Int)))))] [] (zE (kU uT) <| zR (uM xI) <| zM <| zE (eP kV i (0 : Nat)) <| zE (yN uR) <| zE oGe <| zZ) ?_
  refine jQ rfl (fun h2 => ?_) (fun h2 => ?_)
  ·replace h2 := of_decide_eq_true h2
   refine jA <| kx [(2, (vb false))] [] (zM <| zZ) ?_
   refine jG ⟨_, (.tmp (d := (.val (.bool (false)))) rfl .nil), ?_⟩
   rw [validI_big (i := i) (by omega) (by omega)]; rfl
  ·replace h2 := of_decide_eq_false h2
   refine jD <| kx [(4, (kE (i + 1)))] [] (zM <| zE (qQ (i + 1)) <| zM <| zZ) ?_
   exact ⟨(i + 1), wk, ⟨by omega, dig_take_succ (by omega) hd (by omega)⟩, (by first | omega | (dsimp only; omega))⟩
 ·replace h1 := of_decide_eq_false h1
  have hie : i = x.gs.length := by omega
  rw [hie, List.take_length] at hd
  refine kQ <| jA <| jA <| kx [(20, (vb (((x.gs.length : Nat) : Int) == 0)))] [] (zM <| zE aO <| zZ) ?_
  refine jQ (b := (((x.gs.length : Nat) : Int) == 0)) rfl (fun h3 => ?_) (fun h3 => ?_)
  ·replace h3 := eq_of_beq h3
   refine jA <| kx [(2, (vb (!x.neg)))] [] (zE (kU uS) <| zR (uM eI) <| zE eX <| zM <| zZ) ?_
   refine jG ⟨_, (.tmp (d := (.val (.bool (!x.neg)))) rfl .nil), ?_⟩
   rw [validI_nil (by omega)]; rfl
  ·replace h3 := ne_of_beq_false h3
   refine jD <| jA <| kx [(2, (vb ((((x.gs.getD (x.gs.length - 1) 0) : Nat) : Int) != 0)))] [] (zE (kU uT) <| zR (uM xI) <| zM <| zE (oSb (x.gs.length - 1)) <| zE (eP kV (x.gs.length - 1) (0 : Nat)) <| zE (yN uR) <| zE mR <| zM <| zZ) ?_
   refine jG ⟨_, (.tmp (d := (.val (.bool (((((x.gs.getD (x.gs.length - 1) 0) : Nat) : Int) != 0))))) rfl .nil), ?_⟩
   rw [validI_dig hd (by omega)]; rfl
theorem eE (x : jF) (hb : x.gs.length ≤ 17592186044416) : kF Tryz.prog 133 [(jH x)] (jH (jK (kK x))) := by
 refine jL Tryz.func133 rfl cb133 rfl ?_
 show uK _ _ _ _ ⟨[(0, (.d (jH x)))], []⟩
 refine jA <| kx [(1, (.ref 0 0)), (2, (.ref 1 0))] [(0, some (bx (jH x))), (1, some (bx (jH (jF.mk false []))))] (zN (uX 0) <| zN (qH 1 uD uE) <| zZ) ?_
 refine jA <| jA <| kx [(5, (vb (!(uG x))))] [] (zR (kA jI) <| zE (kC (lD x (by omega))) <| zE eX <| zZ) ?_
 refine jQ (b := !(uG x)) rfl (fun h1 => ?_) (fun h1 => ?_)
 ·refine jA <| kx [] [(1, some (bx (jH (jF.mk false []))))] (zE (oBd pl40 uD uE) <| zT (kR jI) <| zZ) ?_
  refine jG ⟨_, (qB (cs := (bx (jH (jF.mk false [])))) (d := (jH (jF.mk false []))) rfl rfl jI rfl rfl .nil), ?_⟩
  rw [toZ_bad (by rw [Bool.not_eq_true'] at h1; exact h1), ofZ_zero]; rfl
 ·refine jD <| jA <| kd [] [(1, some (bx (jH (jF.mk x.neg x.gs))))] mo (wE (kU uS) <| wR (uM eI) <| wE (oBe kV) <| wE (kU uT) <| wR (uM xI) <| wE (e_appe (by exact rfl) kV xP (by kernel_rfl) nT (by exact rfl) (by exact rfl) (by simp only [List.length_map, List.length_take, List.length_drop, List.length_append, List.length_cons, List.length_nil, maxLen]; omega) (by simp only [List.length_map, List.length_take, List.length_drop, List.length_append, List.length_cons, List.length_nil]; omega)) <| wE (oBd pl40 uD uE) <| wT (kR jI) <| wZ) ?_
  refine jG ⟨_, (qB (cs := (bx (jH (jF.mk x.neg x.gs)))) (d := (jH (jF.mk x.neg x.gs))) rfl rfl jI rfl rfl .nil), ?_⟩
  rw [iZ (by simpa using h1)]; rfl
theorem r_of (n : Int) (hlo : -9223372036854775808 ≤ n) (hhi : n ≤ 9223372036854775807) : kF Tryz.prog 27 [(.val (.int .i64 (n)))] (jH (jK n)) := by
 refine jL Tryz.func27 rfl cb27 rfl ?_
 show uK _ _ _ _ ⟨[(0, (vi n))], []⟩
 refine jA <| kx [(2, (.ref 0 0))] [(0, some (bx (jH (jF.mk false []))))] (zN (qH 0 uD uE) <| zZ) ?_
 refine jA <| kx [(3, (gQ ((n % 18446744073709551616).toNat)))] [] (zM <| zE (mU un3 gA ((n % 18446744073709551616).toNat) (hr := by exact (conv_u64 _))) <| zM <| zZ) ?_
 refine jA <| jA <| kx [(8, (vb (decide (n < 0))))] [] (zM <| zE qS <| zZ) ?_
 refine jQ (b := decide (n < 0)) rfl (fun h1 => ?_) (fun h1 => ?_)
 ·replace h1 := of_decide_eq_true h1
  refine kx [(3, (gQ n.natAbs))] [] (zM <| zE (zAd (n + 1)) <| zE (oNg (-(n + 1))) <| zE (mU un3 gA ((-n - 1).toNat) (hr := by exact (wu64 (by omega) (by omega) (by omega)))) <| zE (qQ n.natAbs) <| zM <| zZ) ?_
  refine jA <| kx [(4, (.own 1 152 1 0))] [(1, some (bm jB []))] (zN (oBo 1 kV xP gH) <| zM <| zZ) ?_
  refine jA <| jE <| uA (α := List Nat × Nat) (fun (o, m) => ⟨[(0, (vi n)), (2, (.ref 0 0)), (3, (gQ m)), (4, (.own 1 152 1 o.length))], [(0, some (bx (jH (jF.mk false [])))), (1, some (bm jB o))]⟩) (fun (o, m) => m ≤ 9223372036854775808 ∧ o ++ ofNat m = ofNat n.natAbs) (fun (o, m) => m) ([], n.natAbs) wk ⟨by omega, by rw [List.nil_append]⟩ ?_
  rintro ⟨o, m⟩ ⟨hm, hg⟩
  have hl := split_len hg (by omega)
  refine jA <| jA <| kx [(16, (vb (decide (0 < ((m : Nat) : Int)))))] [] (zM <| zE bO <| zZ) ?_
  refine jQ (b := decide (0 < ((m : Nat) : Int))) rfl (fun h2 => ?_) (fun h2 => ?_)
  ·replace h2 := of_decide_eq_true h2
   refine jD <| jE <| jA <| kf [(4, (.own 1 152 1 ((o ++ [(m % 1000000000)]).length)))] [(1, some (bm jB (o ++ [(m % 1000000000)])))] (zM <| zM <| zE (aI (m % 1000000000)) <| zE (mU nD hH (m % 1000000000)) <| zE (cP kV xP gH) <| zA jB o [(m % 1000000000)] rfl kV xP nT <| zM <| zF) ?_
   refine kx [(3, (gQ (m / 1000000000)))] [] (zM <| zE (oQu (m / 1000000000)) <| zM <| zZ) ?_
   exact ⟨(o ++ [m % 1000000000], m / 1000000000), wk, ⟨by omega, split_step hg h2⟩, (by first | omega | (dsimp only; omega))⟩
  ·replace h2 := of_decide_eq_false h2
   have hdo : Dig o := split_dig hg h2
   have hvo := split_val hg h2
   refine kQ <| jA <| kX (xY (t := 4) (k := 1) (es := List.map jB o) rfl rfl (xV _ _ (fun _ => rfl)) (xU _ _ rfl) (yF _ _ (fun _ => rfl) rfl)) ?_
   refine kx [] [(0, some (bx (jH (zI (decide (n < 0)) (val o)))))] (zM <| zE qS <| zM <| zE (kC (nJ (decide (n < 0)) o hdo (by omega))) <| zT (kR jI) <| zZ) ?_
   refine jG ⟨_, (qB (cs := (bx (jH (zI (decide (n < 0)) (val o))))) (d := (jH (zI (decide (n < 0)) (val o)))) rfl rfl jI rfl rfl .nil), ?_⟩
   rw [hvo]; rfl
 ·replace h1 := of_decide_eq_false h1
  rw [show (n % 18446744073709551616).toNat = n.natAbs from by omega]
  refine jD <| jA <| kx [(3, (gQ n.natAbs)), (4, (.own 2 152 1 0))] [(2, some (bm jB []))] (zN (oBo 2 kV xP gH) <| zM <| zZ) ?_
  refine jA <| jE <| uA (α := List Nat × Nat) (fun (o, m) => ⟨[(0, (vi n)), (2, (.ref 0 0)), (3, (gQ m)), (4, (.own 2 152 1 o.length))], [(0, some (bx (jH (jF.mk false [])))), (2, some (bm jB o))]⟩) (fun (o, m) => m ≤ 9223372036854775808 ∧ o ++ ofNat m = ofNat n.natAbs) (fun (o, m) => m) ([], n.natAbs) wk ⟨by omega, by rw [List.nil_append]⟩ ?_
  rintro ⟨o, m⟩ ⟨hm, hg⟩
  have hl := split_len hg (by omega)
  refine jA <| jA <| kx [(16, (vb (decide (0 < ((m : Nat) : Int)))))] [] (zM <| zE bO <| zZ) ?_
  refine jQ (b := decide (0 < ((m : Nat) : Int))) rfl (fun h3 => ?_) (fun h3 => ?_)
  ·replace h3 := of_decide_eq_true h3
   refine jD <| jE <| jA <| kf [(4, (.own 2 152 1 ((o ++ [(m % 1000000000)]).length)))] [(2, some (bm jB (o ++ [(m % 1000000000)])))] (zM <| zM <| zE (aI (m % 1000000000)) <| zE (mU nD hH (m % 1000000000)) <| zE (cP kV xP gH) <| zA jB o [(m % 1000000000)] rfl kV xP nT <| zM <| zF) ?_
   refine kx [(3, (gQ (m / 1000000000)))] [] (zM <| zE (oQu (m / 1000000000)) <| zM <| zZ) ?_
   exact ⟨(o ++ [m % 1000000000], m / 1000000000), wk, ⟨by omega, split_step hg h3⟩, (by first | omega | (dsimp only; omega))⟩
  ·replace h3 := of_decide_eq_false h3
   have hdo : Dig o := split_dig hg h3
   have hvo := split_val hg h3
   refine kQ <| jA <| kX (xY (t := 4) (k := 2) (es := List.map jB o) rfl rfl (xV _ _ (fun _ => rfl)) (xU _ _ rfl) (yF _ _ (fun _ => rfl) rfl)) ?_
   refine kx [] [(0, some (bx (jH (zI (decide (n < 0)) (val o)))))] (zM <| zE qS <| zM <| zE (kC (nJ (decide (n < 0)) o hdo (by omega))) <| zT (kR jI) <| zZ) ?_
   refine jG ⟨_, (qB (cs := (bx (jH (zI (decide (n < 0)) (val o))))) (d := (jH (zI (decide (n < 0)) (val o)))) rfl rfl jI rfl rfl .nil), ?_⟩
   rw [hvo]; rfl
theorem r_size (a b : List Nat) (ha : gS a) (hb : gS b) (hla : a.length ≤ 17592186044416) (hlb : b.length ≤ 17592186044416) : kF Tryz.prog 174 [(.sl 152 1 (List.map jB a)), (.sl 152 1 (List.map jB b))] (.val (.int .i64 ((xC ((val a : Nat) : Int) ((val b : Nat) : Int))))) := by
 refine jL Tryz.func174 rfl cb174 rfl ?_
 show uK _ _ _ _ ⟨[(0, (vl 152 1 jB a)), (1, (vl 152 1 jB b))], []⟩
 refine jA <| kx [] [] (zM <| zZ) ?_
 refine jA <| jA <| kx [(10, (vb (((a.length : Nat) : Int) != ((b.length : Nat) : Int))))] [] (zM <| zE (nC kV) <| zM <| zE (nC kV) <| zE mR <| zZ) ?_
 refine jQ rfl (fun h1 => ?_) (fun h1 => ?_)
 ·replace h1 := bne_iff_ne.1 h1
  refine jA <| jA <| kx [(15, (vb (decide (((a.length : Nat) : Int) < ((b.length : Nat) : Int)))))] [] (zM <| zE (nC kV) <| zM <| zE (nC kV) <| zE qS <| zZ) ?_
  refine jQ rfl (fun h2 => ?_) (fun h2 => ?_)
  ·replace h2 := of_decide_eq_true h2
   refine jA <| kx [(4, (vi (-1)))] [] (zM <| zZ) ?_
   refine jG ⟨_, (.tmp (d := (.val (.int .i64 (-1)))) rfl .nil), ?_⟩
   rw [← cmpI_len ha hb h1]; unfold xC; rw [if_pos (by omega)]; rfl
  ·replace h2 := of_decide_eq_false h2
   refine jD <| jA <| kx [(4, (kE 1))] [] (zM <| zZ) ?_
   refine jG ⟨_, (.tmp (d := (.val (.int .i64 (1)))) rfl .nil), ?_⟩
   rw [← cmpI_len ha hb h1, aM (by omega)]; rfl
 ·replace h1 := bne_eq_false_iff_eq.1 h1
  have hl : a.length = b.length := by omega
  refine jD <| jA <| jA <| kx [(5, (vi (((a.length : Nat) : Int) - 1)))] [] (zM <| zE (nC kV) <| zE (aF (((a.length : Nat) : Int) - 1)) <| zM <| zZ) ?_
  refine jE <| uA (α := Nat) (fun k => ⟨[(0, (vl 152 1 jB a)), (1, (vl 152 1 jB b)), (5, (vi (((k : Nat) : Int) - 1)))], []⟩) (fun k => k ≤ a.length ∧ val (a.drop k) = val (b.drop k)) (fun k => k) a.length wk ⟨Nat.le_refl _, by rw [List.drop_length, hl, List.drop_length]⟩ ?_
  rintro k ⟨hk, he⟩
  refine jA <| jA <| kx [(20, (vb (decide (0 ≤ (((k : Nat) : Int) - 1)))))] [] (zM <| zE oGe <| zZ) ?_
  refine jQ (b := decide (0 ≤ (((k : Nat) : Int) - 1))) rfl (fun h3 => ?_) (fun h3 => ?_)
  ·replace h3 := of_decide_eq_true h3
   obtain ⟨i, rfl⟩ : ∃ i, k = i + 1 := ⟨k - 1, by omega⟩
   rw [show (((i + 1 : Nat) : Int) - 1) = ((i : Nat) : Int) from by omega]
   have ht := cmpI_top ha.1 hb.1 hl (j := a.length - 1 - i) (by omega) (by rw [show a.length - (a.length - 1 - i) = i + 1 by omega]; exact he)
   rw [show a.length - 1 - (a.length - 1 - i) = i by omega] at ht
   refine jD <| jA <| jE <| jA <| jA <| kd [(5, (kE i)), (31, (vb (decide ((((a.getD i 0) : Nat) : Int) < (((b.getD i 0) : Nat) : Int)))))] [] mo (wM <| wM <| wE (eP kV i (0 : Nat)) <| wE (yN uR) <| wM <| wM <| wE (eP kV i (0 : Nat)) <| wE (yN uR) <| wE qS <| wZ) ?_
   refine jQ rfl (fun h4 => ?_) (fun h4 => ?_)
   ·replace h4 := of_decide_eq_true h4
    refine jA <| kx [(4, (vi (-1)))] [] (zM <| zZ) ?_
    refine jG ⟨_, (.tmp (d := (.val (.int .i64 (-1)))) rfl .nil), ?_⟩
    rw [← ht (by omega)]; unfold xC; rw [if_pos (by omega)]; rfl
   ·replace h4 := of_decide_eq_false h4
    refine jD <| jA <| kd [(40, (vb (decide ((((b.getD i 0) : Nat) : Int) < (((a.getD i 0) : Nat) : Int)))))] [] mo (wM <| wM <| wE (eP kV i (0 : Nat)) <| wE (yN uR) <| wM <| wM <| wE (eP kV i (0 : Nat)) <| wE (yN uR) <| wE bO <| wZ) ?_
    refine jQ rfl (fun h5 => ?_) (fun h5 => ?_)
    ·replace h5 := of_decide_eq_true h5
     refine jA <| kx [(4, (kE 1))] [] (zM <| zZ) ?_
     refine jG ⟨_, (.tmp (d := (.val (.int .i64 (1)))) rfl .nil), ?_⟩
     rw [← ht (by omega), aM (by omega)]; rfl
    ·replace h5 := of_decide_eq_false h5
     refine jD <| kx [(5, (vi (((i : Nat) : Int) - 1)))] [] (zM <| zE (aF (((i : Nat) : Int) - 1)) <| zM <| zZ) ?_
     exact ⟨i, wk, ⟨by omega, by rw [zS a i, zS b i, he]; omega⟩, (by first | omega | (dsimp only; omega))⟩
  ·replace h3 := of_decide_eq_false h3
   obtain rfl : k = 0 := by omega
   rw [List.drop_zero, List.drop_zero] at he
   refine kQ <| jA <| kx [(4, (kE 0))] [] (zM <| zZ) ?_
   refine jG ⟨_, (.tmp (d := (.val (.int .i64 (0)))) rfl .nil), ?_⟩
   rw [cmpI_same he]; rfl
theorem r_plus (a b : List Nat) (hda : Dig a) (hdb : Dig b) (hla : a.length ≤ 8796093022208) (hlb : b.length ≤ 8796093022208) : kF Tryz.prog 173 [(.sl 152 1 (List.map jB a)), (.sl 152 1 (List.map jB b))] (.sl 152 1 (List.map jB (ofNat (val a + val b)))) := by
 refine jL Tryz.func173 rfl cb173 rfl ?_
 show uK _ _ _ _ ⟨[(0, (vl 152 1 jB a)), (1, (vl 152 1 jB b))], []⟩
 refine jA <| kx [] [] (zE (oNl 152 1) <| zZ) ?_
 refine jA <| kx [(5, (.own 0 152 1 0))] [(0, some (bm jB []))] (zN (oBo 0 kV xP gH) <| zM <| zZ) ?_
 refine jA <| kx [(6, (gQ 0))] [] (zM <| zZ) ?_
 refine jA <| jA <| kx [(7, (kE 0))] [] (zM <| zZ) ?_
 refine jE <| uA (α := Nat × List Nat × Nat) (fun (i, o, c) => ⟨[(0, (vl 152 1 jB a)), (1, (vl 152 1 jB b)), (5, (.own 0 152 1 o.length)), (6, (gQ c)), (7, (kE i))], [(0, some (bm jB o))]⟩) (fun (i, o, c) => o.length = i ∧ Dig o ∧ i ≤ max a.length b.length ∧ c ≤ 1 ∧ val o + pw i * c = val (a.take i) + val (b.take i)) (fun (i, o, c) => max a.length b.length - i) (0, [], 0) wk ⟨rfl, hO, Nat.zero_le _, Nat.zero_le _, by simp [val]⟩ ?_
 rintro ⟨i, o, c⟩ ⟨hl, hd, hi, hc, hv⟩
 have hai := hda.getD i
 have hbi := hdb.getD i
 refine jA <| jA <| kx [(19, (vb (decide (((i : Nat) : Int) < ((a.length : Nat) : Int)) || decide (((i : Nat) : Int) < ((b.length : Nat) : Int)))))] [] ?_ ?_
 ·refine zM <| zM <| zE (nC kV) <| zE qS <| zE (oV (vb (decide (((i : Nat) : Int) < ((a.length : Nat) : Int)))) (xD (by kernel_rfl))) <| ?_
  rcases hb1 : (decide (((i : Nat) : Int) < ((a.length : Nat) : Int))) with _ | _
  ·replace hb1 := of_decide_eq_false hb1
   exact zM <| zM <| zE (nC kV) <| zE qS <| zE oPo <| zZ
  ·replace hb1 := of_decide_eq_true hb1
   exact zK <| zK <| zK <| zK <| zE bG <| zZ
 refine jQ rfl (fun h2 => ?_) (fun h2 => ?_)
 ·rw [Bool.or_eq_true, decide_eq_true_eq, decide_eq_true_eq] at h2
  refine jD <| jA <| jE <| jA <| kx [(8, (gQ (((a.getD i 0) + (b.getD i 0)) + c)))] [] (zM <| zM <| zE (kC (aV a i (by first | assumption | exact qA _ | exact (uC _).1 | exact (uB _).1))) <| zM <| zM <| zE (kC (aV b i (by first | assumption | exact qA _ | exact (uC _).1 | exact (uB _).1))) <| zE (qQ ((a.getD i 0) + (b.getD i 0))) <| zM <| zE (qQ (((a.getD i 0) + (b.getD i 0)) + c)) <| zM <| zZ) ?_
  refine jA <| kf [(5, (.own 0 152 1 ((o ++ [((((a.getD i 0) + (b.getD i 0)) + c) % 1000000000)]).length)))] [(0, some (bm jB (o ++ [((((a.getD i 0) + (b.getD i 0)) + c) % 1000000000)])))] (zM <| zM <| zE (aI ((((a.getD i 0) + (b.getD i 0)) + c) % 1000000000)) <| zE (mU nD hH ((((a.getD i 0) + (b.getD i 0)) + c) % 1000000000)) <| zE (cP kV xP gH) <| zA jB o [((((a.getD i 0) + (b.getD i 0)) + c) % 1000000000)] rfl kV xP nT <| zM <| zF) ?_
  refine kx [(6, (gQ ((((a.getD i 0) + (b.getD i 0)) + c) / 1000000000)))] [] (zM <| zE (oQu ((((a.getD i 0) + (b.getD i 0)) + c) / 1000000000)) <| zM <| zZ) ?_
  refine kx [(7, (kE (i + 1)))] [] (zM <| zE (qQ (i + 1)) <| zM <| zZ) ?_
  exact ⟨(i + 1, o ++ [(a.getD i 0 + b.getD i 0 + c) % 1000000000], (a.getD i 0 + b.getD i 0 + c) / 1000000000), wk, ⟨by simp [hl], dig_push hd (Nat.mod_lt _ (by decide)), by omega, by omega, rplus_step hl hv rfl⟩, (by first | omega | (dsimp only; omega))⟩
 ·rw [Bool.or_eq_false_iff, decide_eq_false_iff_not, decide_eq_false_iff_not] at h2
  rw [take_all (by omega), take_all (by omega)] at hv
  have hp := val_push (c := c) hl
  refine kQ <| jA <| kf [(4, (vl 152 1 jB (ofNat (val (o ++ [c]))))), (5, .junk)] [(0, none)] (zM <| zM <| zE (mU nD hH c) <| zE (cP kV xP gH) <| zAQ jB o [c] rfl kV xP nT <| zE (kC (nJ false (o ++ [c]) (dig_push hd (by omega)) (by simp only [List.length_append, List.length_cons, List.length_nil]; omega))) <| zE (oF1 bK xI) <| zM <| zF) ?_
  refine jG ⟨_, (.tmp (d := (.sl 152 1 (List.map jB (ofNat (val (o ++ [c])))))) rfl .nil), ?_⟩
  rw [hp, hv]; rfl
theorem r_minus (a b : List Nat) (hda : Dig a) (hdb : Dig b) (hba : val b ≤ val a) (hla : a.length ≤ 8796093022208) : kF Tryz.prog 175 [(.sl 152 1 (List.map jB a)), (.sl 152 1 (List.map jB b))] (.sl 152 1 (List.map jB (ofNat (val a - val b)))) := by
 refine jL Tryz.func175 rfl cb175 rfl ?_
 show uK _ _ _ _ ⟨[(0, (vl 152 1 jB a)), (1, (vl 152 1 jB b))], []⟩
 refine jA <| kx [] [] (zE (oNl 152 1) <| zZ) ?_
 refine jA <| kx [(5, (.own 0 152 1 0))] [(0, some (bm jB []))] (zN (oBo 0 kV xP gH) <| zM <| zZ) ?_
 refine jA <| kx [(6, (gQ 0))] [] (zM <| zZ) ?_
 refine jA <| jA <| kx [(7, (kE 0))] [] (zM <| zZ) ?_
 refine jE <| uA (α := Nat × List Nat × Nat) (fun (i, o, c) => ⟨[(0, (vl 152 1 jB a)), (1, (vl 152 1 jB b)), (5, (.own 0 152 1 o.length)), (6, (gQ c)), (7, (kE i))], [(0, some (bm jB o))]⟩) (fun (i, o, c) => o.length = i ∧ Dig o ∧ i ≤ a.length ∧ c ≤ 1 ∧ val o + val (b.take i) = val (a.take i) + pw i * c) (fun (i, o, c) => a.length - i) (0, [], 0) wk ⟨rfl, hO, Nat.zero_le _, Nat.zero_le _, by simp [val]⟩ ?_
 rintro ⟨i, o, c⟩ ⟨hl, hd, hi, hc, hv⟩
 have hai := hda.getD i
 have hbi := hdb.getD i
 refine jA <| jA <| kx [(13, (vb (decide (((i : Nat) : Int) < ((a.length : Nat) : Int)))))] [] (zM <| zM <| zE (nC kV) <| zE qS <| zZ) ?_
 refine jQ rfl (fun h1 => ?_) (fun h1 => ?_)
 ·replace h1 := of_decide_eq_true h1
  refine jD <| jA <| jE <| jA <| kx [(8, (gQ (((1000000000 + (a.getD i 0)) - (b.getD i 0)) - c)))] [] (zM <| zM <| zE (kC (aV a i (by first | assumption | exact qA _ | exact (uC _).1 | exact (uB _).1))) <| zE (qQ (1000000000 + (a.getD i 0))) <| zM <| zM <| zE (kC (aV b i (by first | assumption | exact qA _ | exact (uC _).1 | exact (uB _).1))) <| zE (oSb ((1000000000 + (a.getD i 0)) - (b.getD i 0))) <| zM <| zE (oSb (((1000000000 + (a.getD i 0)) - (b.getD i 0)) - c)) <| zM <| zZ) ?_
  refine jA <| kf [(5, (.own 0 152 1 ((o ++ [((((1000000000 + (a.getD i 0)) - (b.getD i 0)) - c) % 1000000000)]).length)))] [(0, some (bm jB (o ++ [((((1000000000 + (a.getD i 0)) - (b.getD i 0)) - c) % 1000000000)])))] (zM <| zM <| zE (aI ((((1000000000 + (a.getD i 0)) - (b.getD i 0)) - c) % 1000000000)) <| zE (mU nD hH ((((1000000000 + (a.getD i 0)) - (b.getD i 0)) - c) % 1000000000)) <| zE (cP kV xP gH) <| zA jB o [((((1000000000 + (a.getD i 0)) - (b.getD i 0)) - c) % 1000000000)] rfl kV xP nT <| zM <| zF) ?_
  refine kx [(6, (gQ (1 - ((((1000000000 + (a.getD i 0)) - (b.getD i 0)) - c) / 1000000000))))] [] (zM <| zE (oQu ((((1000000000 + (a.getD i 0)) - (b.getD i 0)) - c) / 1000000000)) <| zE (oSb (1 - ((((1000000000 + (a.getD i 0)) - (b.getD i 0)) - c) / 1000000000))) <| zM <| zZ) ?_
  refine kx [(7, (kE (i + 1)))] [] (zM <| zE (qQ (i + 1)) <| zM <| zZ) ?_
  exact ⟨(i + 1, o ++ [(1000000000 + a.getD i 0 - b.getD i 0 - c) % 1000000000], 1 - (1000000000 + a.getD i 0 - b.getD i 0 - c) / 1000000000), wk, ⟨by simp [hl], dig_push hd (Nat.mod_lt _ (by decide)), by omega, by omega, rminus_step hl hv (by omega) (by omega)⟩, (by first | omega | (dsimp only; omega))⟩
 ·replace h1 := of_decide_eq_false h1
  have hie : i = a.length := by omega
  refine kQ <| jA <| kX (xY (t := 5) (k := 0) (es := List.map jB o) rfl rfl (xV _ _ (fun _ => rfl)) (xU _ _ rfl) (yF _ _ (fun _ => rfl) rfl)) ?_
  refine kx [(4, (vl 152 1 jB (ofNat (val o))))] [] (zM <| zE (kC (nJ false o hd (by omega))) <| zE (oF1 bK xI) <| zM <| zZ) ?_
  refine jG ⟨_, (.tmp (d := (.sl 152 1 (List.map jB (ofNat (val o))))) rfl .nil), ?_⟩
  rw [rminus_end hda hdb hd hie hl hba hv]; rfl
theorem r_scaled (a : List Nat) (d : Nat) (hda : Dig a) (hd1 : d ≤ 1000000000) (hla : a.length ≤ 8796093022208) : kF Tryz.prog 190 [(.sl 152 1 (List.map jB a)), (.val (.int .u64 (((d : Nat) : Int))))] (.sl 152 1 (List.map jB (ofNat (val a * d)))) := by
 refine jL Tryz.func190 rfl cb190 rfl ?_
 show uK _ _ _ _ ⟨[(0, (vl 152 1 jB a)), (1, (gQ d))], []⟩
 refine jA <| kx [] [] (zE (oNl 152 1) <| zZ) ?_
 refine jA <| kx [(5, (.own 0 152 1 0))] [(0, some (bm jB []))] (zN (oBo 0 kV xP gH) <| zM <| zZ) ?_
 refine jA <| kx [(6, (gQ 0))] [] (zM <| zZ) ?_
 refine jA <| jA <| kx [(7, (kE 0))] [] (zM <| zZ) ?_
 refine jE <| uA (α := Nat × List Nat × Nat) (fun (i, o, c) => ⟨[(0, (vl 152 1 jB a)), (1, (gQ d)), (5, (.own 0 152 1 o.length)), (6, (gQ c)), (7, (kE i))], [(0, some (bm jB o))]⟩) (fun (i, o, c) => o.length = i ∧ Dig o ∧ i ≤ a.length ∧ c ≤ 999999999 ∧ val o + pw i * c = val (a.take i) * d) (fun (i, o, c) => a.length - i) (0, [], 0) wk ⟨rfl, hO, Nat.zero_le _, Nat.zero_le _, by simp [val]⟩ ?_
 rintro ⟨i, o, c⟩ ⟨hl, hd, hi, hc, hv⟩
 have hai := hda.getD i
 have hpq : a.getD i 0 * d ≤ 999999999 * 1000000000 := Nat.mul_le_mul (by omega) hd1
 refine jA <| jA <| kx [(13, (vb (decide (((i : Nat) : Int) < ((a.length : Nat) : Int)))))] [] (zM <| zM <| zE (nC kV) <| zE qS <| zZ) ?_
 refine jQ rfl (fun h1 => ?_) (fun h1 => ?_)
 ·replace h1 := of_decide_eq_true h1
  refine jD <| jA <| jE <| jA <| kx [(8, (gQ (((a.getD i 0) * d) + c)))] [] (zM <| zM <| zE (eP kV i (0 : Nat)) <| zE (yN uR) <| zE (mU gG gA (a.getD i 0)) <| zM <| zE (oMl ((a.getD i 0) * d)) <| zM <| zE (qQ (((a.getD i 0) * d) + c)) <| zM <| zZ) ?_
  refine jA <| kf [(5, (.own 0 152 1 ((o ++ [((((a.getD i 0) * d) + c) % 1000000000)]).length)))] [(0, some (bm jB (o ++ [((((a.getD i 0) * d) + c) % 1000000000)])))] (zM <| zM <| zE (aI ((((a.getD i 0) * d) + c) % 1000000000)) <| zE (mU nD hH ((((a.getD i 0) * d) + c) % 1000000000)) <| zE (cP kV xP gH) <| zA jB o [((((a.getD i 0) * d) + c) % 1000000000)] rfl kV xP nT <| zM <| zF) ?_
  refine kx [(6, (gQ ((((a.getD i 0) * d) + c) / 1000000000)))] [] (zM <| zE (oQu ((((a.getD i 0) * d) + c) / 1000000000)) <| zM <| zZ) ?_
  refine kx [(7, (kE (i + 1)))] [] (zM <| zE (qQ (i + 1)) <| zM <| zZ) ?_
  exact ⟨(i + 1, o ++ [(a.getD i 0 * d + c) % 1000000000], (a.getD i 0 * d + c) / 1000000000), wk, ⟨by simp [hl], dig_push hd (Nat.mod_lt _ (by decide)), by omega, by omega, rscaled_step hl hv rfl⟩, (by first | omega | (dsimp only; omega))⟩
 ·replace h1 := of_decide_eq_false h1
  have hie : i = a.length := by omega
  rw [take_all (by omega)] at hv
  have hp := val_push (c := c) hl
  refine kQ <| jA <| kf [(4, (vl 152 1 jB (ofNat (val (o ++ [c]))))), (5, .junk)] [(0, none)] (zM <| zM <| zE (mU nD hH c) <| zE (cP kV xP gH) <| zAQ jB o [c] rfl kV xP nT <| zE (kC (nJ false (o ++ [c]) (dig_push hd (by omega)) (by simp only [List.length_append, List.length_cons, List.length_nil]; omega))) <| zE (oF1 bK xI) <| zM <| zF) ?_
  refine jG ⟨_, (.tmp (d := (.sl 152 1 (List.map jB (ofNat (val (o ++ [c])))))) rfl .nil), ?_⟩
  rw [hp, hv]; rfl
theorem r_shifted (a : List Nat) (d : Nat) (hda : Dig a) (hd1 : d < 1000000000) (hla : a.length ≤ 8796093022208) : kF Tryz.prog 191 [(.sl 152 1 (List.map jB a)), (.val (.int .u32 (((d : Nat) : Int))))] (.sl 152 1 (List.map jB (ofNat (d + 1000000000 * val a)))) := by
 refine jL Tryz.func191 rfl cb191 rfl ?_
 show uK _ _ _ _ ⟨[(0, (vl 152 1 jB a)), (1, (aG d))], []⟩
 refine jA <| kx [] [] (zE (oNl 152 1) <| zZ) ?_
 refine jA <| kf [(4, (vl 152 1 jB (ofNat (val ([d] ++ a)))))] [(0, none)] (zM <| zN (oBo 0 kV xP gH) <| zM <| zAQ jB [d] a rfl kV xP nT <| zE (kC (nJ false ([d] ++ a) (iG.2 ⟨gI.2 ⟨hd1, hO⟩, hda⟩) (by simp only [List.length_append, List.length_cons, List.length_nil]; omega))) <| zE (oF1 bK xI) <| zM <| zF) ?_
 refine jG ⟨_, (.tmp (d := (.sl 152 1 (List.map jB (ofNat (val ([d] ++ a)))))) rfl .nil), ?_⟩
 rfl
end Go.Proofs.YtbecgnplakngdaaGreat
