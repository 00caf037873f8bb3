/- Part 17 of a proof: rules, plain facts, and functions walked. -/
import Derived.Test.YtapjldagikfcmaaGreatM16
namespace Go.Proofs.YtapjldagikfcmaaGreat
open Go.Fid
set_option maxRecDepth 4000
set_option linter.unusedVariables false
set_option linter.unusedSimpArgs false
theorem cb128 : callB Tryz.prog 128 = true := by kernel_rfl
theorem cb169 : callB Tryz.prog 169 = true := by kernel_rfl
theorem cb185 : callB Tryz.prog 185 = true := by kernel_rfl
theorem cb218 : callB Tryz.prog 218 = true := by kernel_rfl
theorem cb266 : callB Tryz.prog 266 = true := by kernel_rfl
theorem cb267 : callB Tryz.prog 267 = true := by kernel_rfl
theorem cb268 : callB Tryz.prog 268 = true := by kernel_rfl
theorem cb269 : callB Tryz.prog 269 = true := by kernel_rfl
theorem cb270 : callB Tryz.prog 270 = true := by kernel_rfl
theorem cb282 : callB Tryz.prog 282 = true := by kernel_rfl
theorem aU : iC Tryz.prog 36 1 = some (1, 34) := by kernel_rfl
theorem aD (l : List Nat) (i : Nat) (hd : Dig l) : kH Tryz.prog 269 [(.sl 181 1 (List.map jC l)), (.val (.int .i64 (((i : Nat) : Int))))] (.val (.int .u64 ((((l.getD i 0) : Nat) : Int)))) := by
 have hg := hd.getD i
 refine jM Tryz.func269 rfl cb269 rfl ?_
 show uY _ _ _ _ ⟨[(0, (vl 181 1 jC l)), (1, (kD i))], []⟩
 refine jA <| kx [] [] (zM <| zZ) ?_
 refine jA <| jA <| kx [(8, (vb (decide (((i : Nat) : Int) < ((l.length : Nat) : Int)))))] [] (zM <| zM <| zE (nE kY) <| zE qY <| zZ) ?_
 refine jO rfl (fun h1 => ?_) (fun h1 => ?_)
 ·replace h1 := of_decide_eq_true h1
  refine jA <| kx [(4, (gW (l.getD i 0)))] [] (zM <| zM <| zE (aC kY i (0 : Nat)) <| zE (xN uX) <| zE (mV yY yR (l.getD i 0)) <| zM <| zZ) ?_
  refine jF ⟨_, (.tmp (d := (.val (.int .u64 ((((l.getD i 0) : Nat) : Int))))) rfl .nil), ?_⟩
  rfl
 ·replace h1 := of_decide_eq_false h1
  refine jB <| jA <| kx [(4, (gW 0))] [] (zM <| zZ) ?_
  refine jF ⟨_, (.tmp (d := (.val (.int .u64 (0)))) rfl .nil), ?_⟩
  rw [show l.getD i 0 = 0 from getD_out (by omega)]; rfl
theorem nZ (neg : Bool) (l : List Nat) (hd : Dig l) (hb : l.length ≤ 17592186044416) : kH Tryz.prog 218 [(.val (.bool (neg))), (.sl 181 1 (List.map jC l))] (jV (yD neg (val l))) := by
 refine jM Tryz.func218 rfl cb218 rfl ?_
 show uY _ _ _ _ ⟨[(0, (vb neg)), (1, (vl 181 1 jC l))], []⟩
 refine jA <| kx [(4, (.ref 0 0))] [(0, some (bx (jV (jI.mk false []))))] (zN (uK 0 hH hM) <| zZ) ?_
 refine jA <| kx [(5, (kD l.length))] [] (zM <| zE (nE kY) <| zM <| zZ) ?_
 refine jA <| jE <| uN (α := Nat) (fun k => ⟨[(0, (vb neg)), (1, (vl 181 1 jC l)), (4, (.ref 0 0)), (5, (kD k))], [(0, some (bx (jV (jI.mk false []))))]⟩) (fun k => k ≤ l.length ∧ val (l.take k) = val l) (fun k => k) l.length wk ⟨Nat.le_refl _, by rw [List.take_length]⟩ ?_
 rintro k ⟨hk, hv⟩
 refine jA <| jA <| kx [(17, (vb (decide (0 < ((k : Nat) : Int)) && ((((l.getD (k - 1) 0) : Nat) : Int) == 0))))] [] ?_ ?_
 ·refine zM <| zE yZ <| zE (oV (vb (decide (0 < ((k : Nat) : Int)))) (uS (by kernel_rfl))) <| ?_
  rcases hb1 : (decide (0 < ((k : Nat) : Int))) with _ | _
  ·replace hb1 := of_decide_eq_false hb1
   exact zK <| zK <| zK <| zK <| zK <| zK <| zE zU <| zZ
  ·replace hb1 := of_decide_eq_true hb1
   exact zM <| zM <| zE (oSb (k - 1)) <| zE (aC kY (k - 1) (0 : Nat)) <| zE (xN uX) <| zE xK <| zE oPa <| zZ
 refine jO rfl (fun h2 => ?_) (fun h2 => ?_)
 ·have hm := r_made_step hk hv h2
  have hm0 := hm.1
  refine jB <| jE <| kx [(5, (kD (k - 1)))] [] (zM <| zE (oSb (k - 1)) <| zM <| zZ) ?_
  exact ⟨(k - 1), wk, ⟨by omega, hm.2⟩, (by first | omega | (dsimp only; omega))⟩
 ·refine kJ <| jA <| kx [] [(0, some (bx (jV (jI.mk (neg && decide (0 < ((k : Nat) : Int))) (List.take k l)))))] ?_ ?_
  ·refine zM <| zE (oV (vb neg) (uS (by kernel_rfl))) <| ?_
   rcases hb3 : neg with _ | _
   ·exact zK <| zK <| zE zU <| zE (oBe kY) <| zM <| zM <| zE (e_slc (l := 0) (h := k) (kl := .i64) (kh := .i64) (es' := List.map jC (List.take k l)) (by exact rfl) kY (by exact rfl) (by exact rfl) (by exact rfl) (Nat.zero_le _) (by simp only [List.length_map]; omega) (by rw [List.drop_zero, List.map_take])) <| zE (e_appe (by exact rfl) kY xZ (by kernel_rfl) mF (by exact rfl) (by exact rfl) (by simp only [List.length_map, List.length_take, List.length_drop, List.length_append, List.length_cons, List.length_nil, maxLen]; omega) (by simp only [List.length_map, List.length_take, List.length_drop, List.length_append, List.length_cons, List.length_nil]; omega)) <| zE (oBd pl36 hH hM) <| zT (qG kK) <| zZ
   ·exact zM <| zE yZ <| zE oPa <| zE (oBe kY) <| zM <| zM <| zE (e_slc (l := 0) (h := k) (kl := .i64) (kh := .i64) (es' := List.map jC (List.take k l)) (by exact rfl) kY (by exact rfl) (by exact rfl) (by exact rfl) (Nat.zero_le _) (by simp only [List.length_map]; omega) (by rw [List.drop_zero, List.map_take])) <| zE (e_appe (by exact rfl) kY xZ (by kernel_rfl) mF (by exact rfl) (by exact rfl) (by simp only [List.length_map, List.length_take, List.length_drop, List.length_append, List.length_cons, List.length_nil, maxLen]; omega) (by simp only [List.length_map, List.length_take, List.length_drop, List.length_append, List.length_cons, List.length_nil]; omega)) <| zE (oBd pl36 hH hM) <| zT (qG kK) <| zZ
  refine jF ⟨_, (qS (cs := (bx (jV (jI.mk (neg && decide (0 < ((k : Nat) : Int))) (List.take k l))))) (d := (jV (jI.mk (neg && decide (0 < ((k : Nat) : Int))) (List.take k l)))) rfl rfl kK rfl rfl .nil), ?_⟩
  rw [r_made_end hd hk hv h2]; rfl
theorem r_valid (x : jI) (hb : x.gs.length ≤ 17592186044416) : kH Tryz.prog 128 [(jV x)] (.val (.bool ((vO x)))) := by
 refine jM Tryz.func128 rfl cb128 rfl ?_
 show uY _ _ _ _ ⟨[(0, (.d (jV x)))], []⟩
 refine jA <| kx [(1, (.ref 0 0))] [(0, some (bx (jV x)))] (zN (vD 0) <| zM <| zZ) ?_
 refine jA <| kx [(3, (kD x.gs.length))] [] (zE (kE yB) <| zR (qR gF) <| zE (nE kY) <| zM <| zZ) ?_
 refine jA <| jA <| kx [(4, (kD 0))] [] (zM <| zZ) ?_
 refine jE <| uN (α := Nat) (fun i => ⟨[(1, (.ref 0 0)), (3, (kD x.gs.length)), (4, (kD i))], [(0, some (bx (jV x)))]⟩) (fun i => i ≤ x.gs.length ∧ Dig (x.gs.take i)) (fun i => x.gs.length - i) 0 wk ⟨Nat.zero_le _, by rw [List.take_zero]; exact nG⟩ ?_
 rintro i ⟨hi, hd⟩
 refine jA <| jA <| kx [(10, (vb (decide (((i : Nat) : Int) < ((x.gs.length : Nat) : Int)))))] [] (zM <| zM <| zE qY <| zZ) ?_
 refine jO rfl (fun h1 => ?_) (fun h1 => ?_)
 ·replace h1 := of_decide_eq_true h1
  refine jB <| jA <| jE <| jA <| kx [(18, (vb (decide (1000000000 ≤ (((x.gs.getD i 0) : Nat) : Int)))))] [] (zE (kE yB) <| zR (qR gF) <| zM <| zE (aC kY i (0 : Nat)) <| zE (xN uX) <| zE oGe <| zZ) ?_
  refine jO rfl (fun h2 => ?_) (fun h2 => ?_)
  ·replace h2 := of_decide_eq_true h2
   refine jA <| kx [(2, (vb false))] [] (zM <| zZ) ?_
   refine jF ⟨_, (.tmp (d := (.val (.bool (false)))) rfl .nil), ?_⟩
   rw [validI_big (i := i) (by omega) (by omega)]; rfl
  ·replace h2 := of_decide_eq_false h2
   refine jB <| kx [(4, (kD (i + 1)))] [] (zM <| zE (uE (i + 1)) <| zM <| zZ) ?_
   exact ⟨(i + 1), wk, ⟨by omega, dig_take_succ (by omega) hd (by omega)⟩, (by first | omega | (dsimp only; omega))⟩
 ·replace h1 := of_decide_eq_false h1
  have hie : i = x.gs.length := by omega
  rw [hie, List.take_length] at hd
  refine kJ <| jA <| jA <| kx [(20, (vb (((x.gs.length : Nat) : Int) == 0)))] [] (zM <| zE xK <| zZ) ?_
  refine jO (b := (((x.gs.length : Nat) : Int) == 0)) rfl (fun h3 => ?_) (fun h3 => ?_)
  ·replace h3 := eq_of_beq h3
   refine jA <| kx [(2, (vb (!x.neg)))] [] (zE (kE zQ) <| zR (qR dX) <| zE oNt <| zM <| zZ) ?_
   refine jF ⟨_, (.tmp (d := (.val (.bool (!x.neg)))) rfl .nil), ?_⟩
   rw [validI_nil (by omega)]; rfl
  ·replace h3 := ne_of_beq_false h3
   refine jB <| jA <| kx [(2, (vb ((((x.gs.getD (x.gs.length - 1) 0) : Nat) : Int) != 0)))] [] (zE (kE yB) <| zR (qR gF) <| zM <| zE (oSb (x.gs.length - 1)) <| zE (aC kY (x.gs.length - 1) (0 : Nat)) <| zE (xN uX) <| zE eS <| zM <| zZ) ?_
   refine jF ⟨_, (.tmp (d := (.val (.bool (((((x.gs.getD (x.gs.length - 1) 0) : Nat) : Int) != 0))))) rfl .nil), ?_⟩
   rw [validI_dig hd (by omega)]; rfl
theorem eC (x : jI) (hb : x.gs.length ≤ 17592186044416) : kH Tryz.prog 185 [(jV x)] (jV (kN (kI x))) := by
 refine jM Tryz.func185 rfl cb185 rfl ?_
 show uY _ _ _ _ ⟨[(0, (.d (jV x)))], []⟩
 refine jA <| kx [(1, (.ref 0 0)), (2, (.ref 1 0))] [(0, some (bx (jV x))), (1, some (bx (jV (jI.mk false []))))] (zN (vD 0) <| zN (uK 1 hH hM) <| zZ) ?_
 refine jA <| jA <| kx [(5, (vb (!(vO x))))] [] (zR (kC kK) <| zE (kB (r_valid x (by omega))) <| zE oNt <| zZ) ?_
 refine jO (b := !(vO x)) rfl (fun h1 => ?_) (fun h1 => ?_)
 ·refine jA <| kx [] [(1, some (bx (jV (jI.mk false []))))] (zE (oBd pl36 hH hM) <| zT (qG kK) <| zZ) ?_
  refine jF ⟨_, (qS (cs := (bx (jV (jI.mk false [])))) (d := (jV (jI.mk false []))) rfl rfl kK rfl rfl .nil), ?_⟩
  rw [toZ_bad (by rw [Bool.not_eq_true'] at h1; exact h1), ofZ_zero]; rfl
 ·refine jB <| jA <| kd [] [(1, some (bx (jV (jI.mk x.neg x.gs))))] mo (wE (kE zQ) <| wR (qR dX) <| wE (oBe kY) <| wE (kE yB) <| wR (qR gF) <| wE (e_appe (by exact rfl) kY xZ (by kernel_rfl) mF (by exact rfl) (by exact rfl) (by simp only [List.length_map, List.length_take, List.length_drop, List.length_append, List.length_cons, List.length_nil, maxLen]; omega) (by simp only [List.length_map, List.length_take, List.length_drop, List.length_append, List.length_cons, List.length_nil]; omega)) <| wE (oBd pl36 hH hM) <| wT (qG kK) <| wZ) ?_
  refine jF ⟨_, (qS (cs := (bx (jV (jI.mk x.neg x.gs)))) (d := (jV (jI.mk x.neg x.gs))) rfl rfl kK rfl rfl .nil), ?_⟩
  rw [ofZ_toZ (by simpa using h1)]; rfl
theorem r_of (n : Int) (hlo : -9223372036854775808 ≤ n) (hhi : n ≤ 9223372036854775807) : kH Tryz.prog 169 [(.val (.int .i64 (n)))] (jV (kN n)) := by
 refine jM Tryz.func169 rfl cb169 rfl ?_
 show uY _ _ _ _ ⟨[(0, (vi n))], []⟩
 refine jA <| kx [(2, (.ref 0 0))] [(0, some (bx (jV (jI.mk false []))))] (zN (uK 0 hH hM) <| zZ) ?_
 refine jA <| kx [(3, (gW ((n % 18446744073709551616).toNat)))] [] (zM <| zE (mV un3 yR ((n % 18446744073709551616).toNat) (hr := by exact (conv_u64 _))) <| zM <| zZ) ?_
 refine jA <| jA <| kx [(8, (vb (decide (n < 0))))] [] (zM <| zE qY <| zZ) ?_
 refine jO (b := decide (n < 0)) rfl (fun h1 => ?_) (fun h1 => ?_)
 ·replace h1 := of_decide_eq_true h1
  refine kx [(3, (gW n.natAbs))] [] (zM <| zE (zAd (n + 1)) <| zE (oNg (-(n + 1))) <| zE (mV un3 yR ((-n - 1).toNat) (hr := by exact (wu64 (by omega) (by omega) (by omega)))) <| zE (uE n.natAbs) <| zM <| zZ) ?_
  refine jA <| kx [(4, (.own 1 181 1 0))] [(1, some (bm jC []))] (zN (oBo 1 kY xZ gL) <| zM <| zZ) ?_
  refine jA <| jE <| uN (α := List Nat × Nat) (fun (o, m) => ⟨[(0, (vi n)), (2, (.ref 0 0)), (3, (gW m)), (4, (.own 1 181 1 o.length))], [(0, some (bx (jV (jI.mk false [])))), (1, some (bm jC o))]⟩) (fun (o, m) => m ≤ 9223372036854775808 ∧ o ++ ofNat m = ofNat n.natAbs) (fun (o, m) => m) ([], n.natAbs) wk ⟨by omega, by rw [List.nil_append]⟩ ?_
  rintro ⟨o, m⟩ ⟨hm, hg⟩
  have hl := split_len hg (by omega)
  refine jA <| jA <| kx [(16, (vb (decide (0 < ((m : Nat) : Int)))))] [] (zM <| zE yZ <| zZ) ?_
  refine jO (b := decide (0 < ((m : Nat) : Int))) rfl (fun h2 => ?_) (fun h2 => ?_)
  ·replace h2 := of_decide_eq_true h2
   refine jB <| jE <| jA <| kf [(4, (.own 1 181 1 ((o ++ [(m % 1000000000)]).length)))] [(1, some (bm jC (o ++ [(m % 1000000000)])))] (zM <| zM <| zE (oRe (m % 1000000000)) <| zE (mV nA nB (m % 1000000000)) <| zE (mC kY xZ gL) <| zA jC o [(m % 1000000000)] rfl kY xZ mF <| zM <| zF) ?_
   refine kx [(3, (gW (m / 1000000000)))] [] (zM <| zE (oQu (m / 1000000000)) <| zM <| zZ) ?_
   exact ⟨(o ++ [m % 1000000000], m / 1000000000), wk, ⟨by omega, split_step hg h2⟩, (by first | omega | (dsimp only; omega))⟩
  ·replace h2 := of_decide_eq_false h2
   have hdo : Dig o := split_dig hg h2
   have hvo := split_val hg h2
   refine kJ <| jA <| kP (xY (t := 4) (k := 1) (es := List.map jC o) rfl rfl (vY _ _ (fun _ => rfl)) (xP _ _ rfl) (zB _ _ (fun _ => rfl) rfl)) ?_
   refine kx [] [(0, some (bx (jV (yD (decide (n < 0)) (val o)))))] (zM <| zE qY <| zM <| zE (kB (nZ (decide (n < 0)) o hdo (by omega))) <| zT (qG kK) <| zZ) ?_
   refine jF ⟨_, (qS (cs := (bx (jV (yD (decide (n < 0)) (val o))))) (d := (jV (yD (decide (n < 0)) (val o)))) rfl rfl kK rfl rfl .nil), ?_⟩
   rw [hvo]; rfl
 ·replace h1 := of_decide_eq_false h1
  rw [show (n % 18446744073709551616).toNat = n.natAbs from by omega]
  refine jB <| jA <| kx [(3, (gW n.natAbs)), (4, (.own 2 181 1 0))] [(2, some (bm jC []))] (zN (oBo 2 kY xZ gL) <| zM <| zZ) ?_
  refine jA <| jE <| uN (α := List Nat × Nat) (fun (o, m) => ⟨[(0, (vi n)), (2, (.ref 0 0)), (3, (gW m)), (4, (.own 2 181 1 o.length))], [(0, some (bx (jV (jI.mk false [])))), (2, some (bm jC o))]⟩) (fun (o, m) => m ≤ 9223372036854775808 ∧ o ++ ofNat m = ofNat n.natAbs) (fun (o, m) => m) ([], n.natAbs) wk ⟨by omega, by rw [List.nil_append]⟩ ?_
  rintro ⟨o, m⟩ ⟨hm, hg⟩
  have hl := split_len hg (by omega)
  refine jA <| jA <| kx [(16, (vb (decide (0 < ((m : Nat) : Int)))))] [] (zM <| zE yZ <| zZ) ?_
  refine jO (b := decide (0 < ((m : Nat) : Int))) rfl (fun h3 => ?_) (fun h3 => ?_)
  ·replace h3 := of_decide_eq_true h3
   refine jB <| jE <| jA <| kf [(4, (.own 2 181 1 ((o ++ [(m % 1000000000)]).length)))] [(2, some (bm jC (o ++ [(m % 1000000000)])))] (zM <| zM <| zE (oRe (m % 1000000000)) <| zE (mV nA nB (m % 1000000000)) <| zE (mC kY xZ gL) <| zA jC o [(m % 1000000000)] rfl kY xZ mF <| zM <| zF) ?_
   refine kx [(3, (gW (m / 1000000000)))] [] (zM <| zE (oQu (m / 1000000000)) <| zM <| zZ) ?_
   exact ⟨(o ++ [m % 1000000000], m / 1000000000), wk, ⟨by omega, split_step hg h3⟩, (by first | omega | (dsimp only; omega))⟩
  ·replace h3 := of_decide_eq_false h3
   have hdo : Dig o := split_dig hg h3
   have hvo := split_val hg h3
   refine kJ <| jA <| kP (xY (t := 4) (k := 2) (es := List.map jC o) rfl rfl (vY _ _ (fun _ => rfl)) (xP _ _ rfl) (zB _ _ (fun _ => rfl) rfl)) ?_
   refine kx [] [(0, some (bx (jV (yD (decide (n < 0)) (val o)))))] (zM <| zE qY <| zM <| zE (kB (nZ (decide (n < 0)) o hdo (by omega))) <| zT (qG kK) <| zZ) ?_
   refine jF ⟨_, (qS (cs := (bx (jV (yD (decide (n < 0)) (val o))))) (d := (jV (yD (decide (n < 0)) (val o)))) rfl rfl kK rfl rfl .nil), ?_⟩
   rw [hvo]; rfl
theorem r_size (a b : List Nat) (ha : hC a) (hb : hC b) (hla : a.length ≤ 17592186044416) (hlb : b.length ≤ 17592186044416) : kH Tryz.prog 266 [(.sl 181 1 (List.map jC a)), (.sl 181 1 (List.map jC b))] (.val (.int .i64 ((xR ((val a : Nat) : Int) ((val b : Nat) : Int))))) := by
 refine jM Tryz.func266 rfl cb266 rfl ?_
 show uY _ _ _ _ ⟨[(0, (vl 181 1 jC a)), (1, (vl 181 1 jC b))], []⟩
 refine jA <| kx [] [] (zM <| zZ) ?_
 refine jA <| jA <| kx [(10, (vb (((a.length : Nat) : Int) != ((b.length : Nat) : Int))))] [] (zM <| zE (nE kY) <| zM <| zE (nE kY) <| zE eS <| zZ) ?_
 refine jO rfl (fun h1 => ?_) (fun h1 => ?_)
 ·replace h1 := bne_iff_ne.1 h1
  refine jA <| jA <| kx [(15, (vb (decide (((a.length : Nat) : Int) < ((b.length : Nat) : Int)))))] [] (zM <| zE (nE kY) <| zM <| zE (nE kY) <| zE qY <| zZ) ?_
  refine jO rfl (fun h2 => ?_) (fun h2 => ?_)
  ·replace h2 := of_decide_eq_true h2
   refine jA <| kx [(4, (vi (-1)))] [] (zM <| zZ) ?_
   refine jF ⟨_, (.tmp (d := (.val (.int .i64 (-1)))) rfl .nil), ?_⟩
   rw [← cmpI_len ha hb h1]; unfold xR; rw [if_pos (by omega)]; rfl
  ·replace h2 := of_decide_eq_false h2
   refine jB <| jA <| kx [(4, (kD 1))] [] (zM <| zZ) ?_
   refine jF ⟨_, (.tmp (d := (.val (.int .i64 (1)))) rfl .nil), ?_⟩
   rw [← cmpI_len ha hb h1, aK (by omega)]; rfl
 ·replace h1 := bne_eq_false_iff_eq.1 h1
  have hl : a.length = b.length := by omega
  refine jB <| jA <| jA <| kx [(5, (vi (((a.length : Nat) : Int) - 1)))] [] (zM <| zE (nE kY) <| zE (cR (((a.length : Nat) : Int) - 1)) <| zM <| zZ) ?_
  refine jE <| uN (α := Nat) (fun k => ⟨[(0, (vl 181 1 jC a)), (1, (vl 181 1 jC b)), (5, (vi (((k : Nat) : Int) - 1)))], []⟩) (fun k => k ≤ a.length ∧ val (a.drop k) = val (b.drop k)) (fun k => k) a.length wk ⟨Nat.le_refl _, by rw [List.drop_length, hl, List.drop_length]⟩ ?_
  rintro k ⟨hk, he⟩
  refine jA <| jA <| kx [(20, (vb (decide (0 ≤ (((k : Nat) : Int) - 1)))))] [] (zM <| zE oGe <| zZ) ?_
  refine jO (b := decide (0 ≤ (((k : Nat) : Int) - 1))) rfl (fun h3 => ?_) (fun h3 => ?_)
  ·replace h3 := of_decide_eq_true h3
   obtain ⟨i, rfl⟩ : ∃ i, k = i + 1 := ⟨k - 1, by omega⟩
   rw [show (((i + 1 : Nat) : Int) - 1) = ((i : Nat) : Int) from by omega]
   have ht := cmpI_top ha.1 hb.1 hl (j := a.length - 1 - i) (by omega) (by rw [show a.length - (a.length - 1 - i) = i + 1 by omega]; exact he)
   rw [show a.length - 1 - (a.length - 1 - i) = i by omega] at ht
   refine jB <| jA <| jE <| jA <| jA <| kd [(5, (kD i)), (31, (vb (decide ((((a.getD i 0) : Nat) : Int) < (((b.getD i 0) : Nat) : Int)))))] [] mo (wM <| wM <| wE (aC kY i (0 : Nat)) <| wE (xN uX) <| wM <| wM <| wE (aC kY i (0 : Nat)) <| wE (xN uX) <| wE qY <| wZ) ?_
   refine jO rfl (fun h4 => ?_) (fun h4 => ?_)
   ·replace h4 := of_decide_eq_true h4
    refine jA <| kx [(4, (vi (-1)))] [] (zM <| zZ) ?_
    refine jF ⟨_, (.tmp (d := (.val (.int .i64 (-1)))) rfl .nil), ?_⟩
    rw [← ht (by omega)]; unfold xR; rw [if_pos (by omega)]; rfl
   ·replace h4 := of_decide_eq_false h4
    refine jB <| jA <| kd [(40, (vb (decide ((((b.getD i 0) : Nat) : Int) < (((a.getD i 0) : Nat) : Int)))))] [] mo (wM <| wM <| wE (aC kY i (0 : Nat)) <| wE (xN uX) <| wM <| wM <| wE (aC kY i (0 : Nat)) <| wE (xN uX) <| wE yZ <| wZ) ?_
    refine jO rfl (fun h5 => ?_) (fun h5 => ?_)
    ·replace h5 := of_decide_eq_true h5
     refine jA <| kx [(4, (kD 1))] [] (zM <| zZ) ?_
     refine jF ⟨_, (.tmp (d := (.val (.int .i64 (1)))) rfl .nil), ?_⟩
     rw [← ht (by omega), aK (by omega)]; rfl
    ·replace h5 := of_decide_eq_false h5
     refine jB <| kx [(5, (vi (((i : Nat) : Int) - 1)))] [] (zM <| zE (cR (((i : Nat) : Int) - 1)) <| zM <| zZ) ?_
     exact ⟨i, wk, ⟨by omega, by rw [yF a i, yF b i, he]; omega⟩, (by first | omega | (dsimp only; omega))⟩
  ·replace h3 := of_decide_eq_false h3
   obtain rfl : k = 0 := by omega
   rw [List.drop_zero, List.drop_zero] at he
   refine kJ <| jA <| kx [(4, (kD 0))] [] (zM <| zZ) ?_
   refine jF ⟨_, (.tmp (d := (.val (.int .i64 (0)))) rfl .nil), ?_⟩
   rw [cmpI_same he]; rfl
theorem r_plus (a b : List Nat) (hda : Dig a) (hdb : Dig b) (hla : a.length ≤ 8796093022208) (hlb : b.length ≤ 8796093022208) : kH Tryz.prog 282 [(.sl 181 1 (List.map jC a)), (.sl 181 1 (List.map jC b))] (.sl 181 1 (List.map jC (ofNat (val a + val b)))) := by
 refine jM Tryz.func282 rfl cb282 rfl ?_
 show uY _ _ _ _ ⟨[(0, (vl 181 1 jC a)), (1, (vl 181 1 jC b))], []⟩
 refine jA <| kx [] [] (zE (aX 181 1) <| zZ) ?_
 refine jA <| kx [(5, (.own 0 181 1 0))] [(0, some (bm jC []))] (zN (oBo 0 kY xZ gL) <| zM <| zZ) ?_
 refine jA <| kx [(6, (gW 0))] [] (zM <| zZ) ?_
 refine jA <| jA <| kx [(7, (kD 0))] [] (zM <| zZ) ?_
 refine jE <| uN (α := Nat × List Nat × Nat) (fun (i, o, c) => ⟨[(0, (vl 181 1 jC a)), (1, (vl 181 1 jC b)), (5, (.own 0 181 1 o.length)), (6, (gW c)), (7, (kD i))], [(0, some (bm jC o))]⟩) (fun (i, o, c) => o.length = i ∧ Dig o ∧ i ≤ max a.length b.length ∧ c ≤ 1 ∧ val o + pw i * c = val (a.take i) + val (b.take i)) (fun (i, o, c) => max a.length b.length - i) (0, [], 0) wk ⟨rfl, nG, Nat.zero_le _, Nat.zero_le _, by simp [val]⟩ ?_
 rintro ⟨i, o, c⟩ ⟨hl, hd, hi, hc, hv⟩
 have hai := hda.getD i
 have hbi := hdb.getD i
 refine jA <| jA <| kx [(19, (vb (decide (((i : Nat) : Int) < ((a.length : Nat) : Int)) || decide (((i : Nat) : Int) < ((b.length : Nat) : Int)))))] [] ?_ ?_
 ·refine zM <| zM <| zE (nE kY) <| zE qY <| zE (oV (vb (decide (((i : Nat) : Int) < ((a.length : Nat) : Int)))) (uS (by kernel_rfl))) <| ?_
  rcases hb1 : (decide (((i : Nat) : Int) < ((a.length : Nat) : Int))) with _ | _
  ·replace hb1 := of_decide_eq_false hb1
   exact zM <| zM <| zE (nE kY) <| zE qY <| zE eT <| zZ
  ·replace hb1 := of_decide_eq_true hb1
   exact zK <| zK <| zK <| zK <| zE yH <| zZ
 refine jO rfl (fun h2 => ?_) (fun h2 => ?_)
 ·rw [Bool.or_eq_true, decide_eq_true_eq, decide_eq_true_eq] at h2
  refine jB <| jA <| jE <| jA <| kx [(8, (gW (((a.getD i 0) + (b.getD i 0)) + c)))] [] (zM <| zM <| zE (kB (aD a i (by first | assumption | exact kW _ | exact (uD _).1 | exact (uH _).1))) <| zM <| zM <| zE (kB (aD b i (by first | assumption | exact kW _ | exact (uD _).1 | exact (uH _).1))) <| zE (uE ((a.getD i 0) + (b.getD i 0))) <| zM <| zE (uE (((a.getD i 0) + (b.getD i 0)) + c)) <| zM <| zZ) ?_
  refine jA <| kf [(5, (.own 0 181 1 ((o ++ [((((a.getD i 0) + (b.getD i 0)) + c) % 1000000000)]).length)))] [(0, some (bm jC (o ++ [((((a.getD i 0) + (b.getD i 0)) + c) % 1000000000)])))] (zM <| zM <| zE (oRe ((((a.getD i 0) + (b.getD i 0)) + c) % 1000000000)) <| zE (mV nA nB ((((a.getD i 0) + (b.getD i 0)) + c) % 1000000000)) <| zE (mC kY xZ gL) <| zA jC o [((((a.getD i 0) + (b.getD i 0)) + c) % 1000000000)] rfl kY xZ mF <| zM <| zF) ?_
  refine kx [(6, (gW ((((a.getD i 0) + (b.getD i 0)) + c) / 1000000000)))] [] (zM <| zE (oQu ((((a.getD i 0) + (b.getD i 0)) + c) / 1000000000)) <| zM <| zZ) ?_
  refine kx [(7, (kD (i + 1)))] [] (zM <| zE (uE (i + 1)) <| zM <| zZ) ?_
  exact ⟨(i + 1, o ++ [(a.getD i 0 + b.getD i 0 + c) % 1000000000], (a.getD i 0 + b.getD i 0 + c) / 1000000000), wk, ⟨by simp [hl], dig_push hd (Nat.mod_lt _ (by decide)), by omega, by omega, rplus_step hl hv rfl⟩, (by first | omega | (dsimp only; omega))⟩
 ·rw [Bool.or_eq_false_iff, decide_eq_false_iff_not, decide_eq_false_iff_not] at h2
  rw [take_all (by omega), take_all (by omega)] at hv
  have hp := val_push (c := c) hl
  refine kJ <| jA <| kf [(4, (vl 181 1 jC (ofNat (val (o ++ [c]))))), (5, .junk)] [(0, none)] (zM <| zM <| zE (mV nA nB c) <| zE (mC kY xZ gL) <| zAQ jC o [c] rfl kY xZ mF <| zE (kB (nZ false (o ++ [c]) (dig_push hd (by omega)) (by simp only [List.length_append, List.length_cons, List.length_nil]; omega))) <| zE (oF1 aU gF) <| zM <| zF) ?_
  refine jF ⟨_, (.tmp (d := (.sl 181 1 (List.map jC (ofNat (val (o ++ [c])))))) rfl .nil), ?_⟩
  rw [hp, hv]; rfl
theorem r_minus (a b : List Nat) (hda : Dig a) (hdb : Dig b) (hba : val b ≤ val a) (hla : a.length ≤ 8796093022208) : kH Tryz.prog 270 [(.sl 181 1 (List.map jC a)), (.sl 181 1 (List.map jC b))] (.sl 181 1 (List.map jC (ofNat (val a - val b)))) := by
 refine jM Tryz.func270 rfl cb270 rfl ?_
 show uY _ _ _ _ ⟨[(0, (vl 181 1 jC a)), (1, (vl 181 1 jC b))], []⟩
 refine jA <| kx [] [] (zE (aX 181 1) <| zZ) ?_
 refine jA <| kx [(5, (.own 0 181 1 0))] [(0, some (bm jC []))] (zN (oBo 0 kY xZ gL) <| zM <| zZ) ?_
 refine jA <| kx [(6, (gW 0))] [] (zM <| zZ) ?_
 refine jA <| jA <| kx [(7, (kD 0))] [] (zM <| zZ) ?_
 refine jE <| uN (α := Nat × List Nat × Nat) (fun (i, o, c) => ⟨[(0, (vl 181 1 jC a)), (1, (vl 181 1 jC b)), (5, (.own 0 181 1 o.length)), (6, (gW c)), (7, (kD i))], [(0, some (bm jC o))]⟩) (fun (i, o, c) => o.length = i ∧ Dig o ∧ i ≤ a.length ∧ c ≤ 1 ∧ val o + val (b.take i) = val (a.take i) + pw i * c) (fun (i, o, c) => a.length - i) (0, [], 0) wk ⟨rfl, nG, Nat.zero_le _, Nat.zero_le _, by simp [val]⟩ ?_
 rintro ⟨i, o, c⟩ ⟨hl, hd, hi, hc, hv⟩
 have hai := hda.getD i
 have hbi := hdb.getD i
 refine jA <| jA <| kx [(13, (vb (decide (((i : Nat) : Int) < ((a.length : Nat) : Int)))))] [] (zM <| zM <| zE (nE kY) <| zE qY <| zZ) ?_
 refine jO rfl (fun h1 => ?_) (fun h1 => ?_)
 ·replace h1 := of_decide_eq_true h1
  refine jB <| jA <| jE <| jA <| kx [(8, (gW (((1000000000 + (a.getD i 0)) - (b.getD i 0)) - c)))] [] (zM <| zM <| zE (kB (aD a i (by first | assumption | exact kW _ | exact (uD _).1 | exact (uH _).1))) <| zE (uE (1000000000 + (a.getD i 0))) <| zM <| zM <| zE (kB (aD b i (by first | assumption | exact kW _ | exact (uD _).1 | exact (uH _).1))) <| zE (oSb ((1000000000 + (a.getD i 0)) - (b.getD i 0))) <| zM <| zE (oSb (((1000000000 + (a.getD i 0)) - (b.getD i 0)) - c)) <| zM <| zZ) ?_
  refine jA <| kf [(5, (.own 0 181 1 ((o ++ [((((1000000000 + (a.getD i 0)) - (b.getD i 0)) - c) % 1000000000)]).length)))] [(0, some (bm jC (o ++ [((((1000000000 + (a.getD i 0)) - (b.getD i 0)) - c) % 1000000000)])))] (zM <| zM <| zE (oRe ((((1000000000 + (a.getD i 0)) - (b.getD i 0)) - c) % 1000000000)) <| zE (mV nA nB ((((1000000000 + (a.getD i 0)) - (b.getD i 0)) - c) % 1000000000)) <| zE (mC kY xZ gL) <| zA jC o [((((1000000000 + (a.getD i 0)) - (b.getD i 0)) - c) % 1000000000)] rfl kY xZ mF <| zM <| zF) ?_
  refine kx [(6, (gW (1 - ((((1000000000 + (a.getD i 0)) - (b.getD i 0)) - c) / 1000000000))))] [] (zM <| zE (oQu ((((1000000000 + (a.getD i 0)) - (b.getD i 0)) - c) / 1000000000)) <| zE (oSb (1 - ((((1000000000 + (a.getD i 0)) - (b.getD i 0)) - c) / 1000000000))) <| zM <| zZ) ?_
  refine kx [(7, (kD (i + 1)))] [] (zM <| zE (uE (i + 1)) <| zM <| zZ) ?_
  exact ⟨(i + 1, o ++ [(1000000000 + a.getD i 0 - b.getD i 0 - c) % 1000000000], 1 - (1000000000 + a.getD i 0 - b.getD i 0 - c) / 1000000000), wk, ⟨by simp [hl], dig_push hd (Nat.mod_lt _ (by decide)), by omega, by omega, rminus_step hl hv (by omega) (by omega)⟩, (by first | omega | (dsimp only; omega))⟩
 ·replace h1 := of_decide_eq_false h1
  have hie : i = a.length := by omega
  refine kJ <| jA <| kP (xY (t := 5) (k := 0) (es := List.map jC o) rfl rfl (vY _ _ (fun _ => rfl)) (xP _ _ rfl) (zB _ _ (fun _ => rfl) rfl)) ?_
  refine kx [(4, (vl 181 1 jC (ofNat (val o))))] [] (zM <| zE (kB (nZ false o hd (by omega))) <| zE (oF1 aU gF) <| zM <| zZ) ?_
  refine jF ⟨_, (.tmp (d := (.sl 181 1 (List.map jC (ofNat (val o))))) rfl .nil), ?_⟩
  rw [rminus_end hda hdb hd hie hl hba hv]; rfl
theorem r_scaled (a : List Nat) (d : Nat) (hda : Dig a) (hd1 : d ≤ 1000000000) (hla : a.length ≤ 8796093022208) : kH Tryz.prog 267 [(.sl 181 1 (List.map jC a)), (.val (.int .u64 (((d : Nat) : Int))))] (.sl 181 1 (List.map jC (ofNat (val a * d)))) := by
 refine jM Tryz.func267 rfl cb267 rfl ?_
 show uY _ _ _ _ ⟨[(0, (vl 181 1 jC a)), (1, (gW d))], []⟩
 refine jA <| kx [] [] (zE (aX 181 1) <| zZ) ?_
 refine jA <| kx [(5, (.own 0 181 1 0))] [(0, some (bm jC []))] (zN (oBo 0 kY xZ gL) <| zM <| zZ) ?_
 refine jA <| kx [(6, (gW 0))] [] (zM <| zZ) ?_
 refine jA <| jA <| kx [(7, (kD 0))] [] (zM <| zZ) ?_
 refine jE <| uN (α := Nat × List Nat × Nat) (fun (i, o, c) => ⟨[(0, (vl 181 1 jC a)), (1, (gW d)), (5, (.own 0 181 1 o.length)), (6, (gW c)), (7, (kD i))], [(0, some (bm jC o))]⟩) (fun (i, o, c) => o.length = i ∧ Dig o ∧ i ≤ a.length ∧ c ≤ 999999999 ∧ val o + pw i * c = val (a.take i) * d) (fun (i, o, c) => a.length - i) (0, [], 0) wk ⟨rfl, nG, Nat.zero_le _, Nat.zero_le _, by simp [val]⟩ ?_
 rintro ⟨i, o, c⟩ ⟨hl, hd, hi, hc, hv⟩
 have hai := hda.getD i
 have hpq : a.getD i 0 * d ≤ 999999999 * 1000000000 := Nat.mul_le_mul (by omega) hd1
 refine jA <| jA <| kx [(13, (vb (decide (((i : Nat) : Int) < ((a.length : Nat) : Int)))))] [] (zM <| zM <| zE (nE kY) <| zE qY <| zZ) ?_
 refine jO rfl (fun h1 => ?_) (fun h1 => ?_)
 ·replace h1 := of_decide_eq_true h1
  refine jB <| jA <| jE <| jA <| kx [(8, (gW (((a.getD i 0) * d) + c)))] [] (zM <| zM <| zE (aC kY i (0 : Nat)) <| zE (xN uX) <| zE (mV yY yR (a.getD i 0)) <| zM <| zE (oMl ((a.getD i 0) * d)) <| zM <| zE (uE (((a.getD i 0) * d) + c)) <| zM <| zZ) ?_
  refine jA <| kf [(5, (.own 0 181 1 ((o ++ [((((a.getD i 0) * d) + c) % 1000000000)]).length)))] [(0, some (bm jC (o ++ [((((a.getD i 0) * d) + c) % 1000000000)])))] (zM <| zM <| zE (oRe ((((a.getD i 0) * d) + c) % 1000000000)) <| zE (mV nA nB ((((a.getD i 0) * d) + c) % 1000000000)) <| zE (mC kY xZ gL) <| zA jC o [((((a.getD i 0) * d) + c) % 1000000000)] rfl kY xZ mF <| zM <| zF) ?_
  refine kx [(6, (gW ((((a.getD i 0) * d) + c) / 1000000000)))] [] (zM <| zE (oQu ((((a.getD i 0) * d) + c) / 1000000000)) <| zM <| zZ) ?_
  refine kx [(7, (kD (i + 1)))] [] (zM <| zE (uE (i + 1)) <| zM <| zZ) ?_
  exact ⟨(i + 1, o ++ [(a.getD i 0 * d + c) % 1000000000], (a.getD i 0 * d + c) / 1000000000), wk, ⟨by simp [hl], dig_push hd (Nat.mod_lt _ (by decide)), by omega, by omega, rscaled_step hl hv rfl⟩, (by first | omega | (dsimp only; omega))⟩
 ·replace h1 := of_decide_eq_false h1
  have hie : i = a.length := by omega
  rw [take_all (by omega)] at hv
  have hp := val_push (c := c) hl
  refine kJ <| jA <| kf [(4, (vl 181 1 jC (ofNat (val (o ++ [c]))))), (5, .junk)] [(0, none)] (zM <| zM <| zE (mV nA nB c) <| zE (mC kY xZ gL) <| zAQ jC o [c] rfl kY xZ mF <| zE (kB (nZ false (o ++ [c]) (dig_push hd (by omega)) (by simp only [List.length_append, List.length_cons, List.length_nil]; omega))) <| zE (oF1 aU gF) <| zM <| zF) ?_
  refine jF ⟨_, (.tmp (d := (.sl 181 1 (List.map jC (ofNat (val (o ++ [c])))))) rfl .nil), ?_⟩
  rw [hp, hv]; rfl
theorem r_shifted (a : List Nat) (d : Nat) (hda : Dig a) (hd1 : d < 1000000000) (hla : a.length ≤ 8796093022208) : kH Tryz.prog 268 [(.sl 181 1 (List.map jC a)), (.val (.int .u32 (((d : Nat) : Int))))] (.sl 181 1 (List.map jC (ofNat (d + 1000000000 * val a)))) := by
 refine jM Tryz.func268 rfl cb268 rfl ?_
 show uY _ _ _ _ ⟨[(0, (vl 181 1 jC a)), (1, (fV d))], []⟩
 refine jA <| kx [] [] (zE (aX 181 1) <| zZ) ?_
 refine jA <| kf [(4, (vl 181 1 jC (ofNat (val ([d] ++ a)))))] [(0, none)] (zM <| zN (oBo 0 kY xZ gL) <| zM <| zAQ jC [d] a rfl kY xZ mF <| zE (kB (nZ false ([d] ++ a) (iA.2 ⟨gP.2 ⟨hd1, nG⟩, hda⟩) (by simp only [List.length_append, List.length_cons, List.length_nil]; omega))) <| zE (oF1 aU gF) <| zM <| zF) ?_
 refine jF ⟨_, (.tmp (d := (.sl 181 1 (List.map jC (ofNat (val ([d] ++ a)))))) rfl .nil), ?_⟩
 rfl
end Go.Proofs.YtapjldagikfcmaaGreat
