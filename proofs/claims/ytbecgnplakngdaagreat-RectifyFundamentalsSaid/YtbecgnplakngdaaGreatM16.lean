/- Part 16 of a proof: rules, plain facts, and functions walked. -/
import Derived.Test.YtbecgnplakngdaaGreatM15
namespace Go.Proofs.YtbecgnplakngdaaGreat
open Go.Fid
set_option maxRecDepth 4000
set_option linter.unusedVariables false
set_option linter.unusedSimpArgs false
theorem cb25 : callB Tryz.prog 25 = true := by kernel_rfl
theorem cb27 : callB Tryz.prog 27 = true := by kernel_rfl
theorem cb94 : callB Tryz.prog 94 = true := by kernel_rfl
theorem cb133 : callB Tryz.prog 133 = true := by kernel_rfl
theorem cb173 : callB Tryz.prog 173 = true := by kernel_rfl
theorem cb174 : callB Tryz.prog 174 = true := by kernel_rfl
theorem cb175 : callB Tryz.prog 175 = true := by kernel_rfl
theorem cb190 : callB Tryz.prog 190 = true := by kernel_rfl
theorem cb191 : callB Tryz.prog 191 = true := by kernel_rfl
theorem cb192 : callB Tryz.prog 192 = true := by kernel_rfl
theorem bP : lC Tryz.prog 40 1 = some (1, 38) := by kernel_rfl
theorem bA (l : List Nat) (i : Nat) (hd : Dig l) : kH Tryz.prog 192 [(.sl 152 1 (List.map jC l)), (.val (.int .i64 (((i : Nat) : Int))))] (.val (.int .u64 ((((l.getD i 0) : Nat) : Int)))) := by
 have hg := hd.getD i
 refine jP Tryz.func192 rfl cb192 rfl ?_
 show uK _ _ _ _ ⟨[(0, (vl 152 1 jC l)), (1, (kD i))], []⟩
 refine jA <| kx [] [] (zM <| zZ) ?_
 refine jA <| jA <| kx [(8, (vb (decide (((i : Nat) : Int) < ((l.length : Nat) : Int)))))] [] (zM <| zM <| zE (dD kY) <| zE qI <| zZ) ?_
 refine jV rfl (fun h1 => ?_) (fun h1 => ?_)
 ·replace h1 := of_decide_eq_true h1
  refine jA <| kx [(4, (gO (l.getD i 0)))] [] (zM <| zM <| zE (oXl kY i (0 : Nat)) <| zE (xX uG) <| zE (cZ gK yY (l.getD i 0)) <| zM <| zZ) ?_
  refine jJ ⟨_, (.tmp (d := (.val (.int .u64 ((((l.getD i 0) : Nat) : Int))))) rfl .nil), ?_⟩
  rfl
 ·replace h1 := of_decide_eq_false h1
  refine jE <| jA <| kx [(4, (gO 0))] [] (zM <| zZ) ?_
  refine jJ ⟨_, (.tmp (d := (.val (.int .u64 (0)))) rfl .nil), ?_⟩
  rw [show l.getD i 0 = 0 from getD_out (by omega)]; rfl
theorem mF (neg : Bool) (l : List Nat) (hd : Dig l) (hb : l.length ≤ 17592186044416) : kH Tryz.prog 94 [(.val (.bool (neg))), (.sl 152 1 (List.map jC l))] (jZ (zL neg (val l))) := by
 refine jP Tryz.func94 rfl cb94 rfl ?_
 show uK _ _ _ _ ⟨[(0, (vb neg)), (1, (vl 152 1 jC l))], []⟩
 refine jA <| kx [(4, (.ref 0 0))] [(0, some (bx (jZ (jK.mk false []))))] (zN (qW 0 nN nR) <| zZ) ?_
 refine jA <| kx [(5, (kD l.length))] [] (zM <| zE (dD kY) <| zM <| zZ) ?_
 refine jA <| jF <| uT (α := Nat) (fun k => ⟨[(0, (vb neg)), (1, (vl 152 1 jC l)), (4, (.ref 0 0)), (5, (kD k))], [(0, some (bx (jZ (jK.mk false []))))]⟩) (fun k => k ≤ l.length ∧ val (l.take k) = val l) (fun k => k) l.length wk ⟨Nat.le_refl _, by rw [List.take_length]⟩ ?_
 rintro k ⟨hk, hv⟩
 refine jA <| jA <| kx [(17, (vb (decide (0 < ((k : Nat) : Int)) && ((((l.getD (k - 1) 0) : Nat) : Int) == 0))))] [] ?_ ?_
 ·refine zM <| zE aG <| zE (oV (vb (decide (0 < ((k : Nat) : Int)))) (xI (by kernel_rfl))) <| ?_
  rcases hb1 : (decide (0 < ((k : Nat) : Int))) with _ | _
  ·replace hb1 := of_decide_eq_false hb1
   exact zK <| zK <| zK <| zK <| zK <| zK <| zE iL <| zZ
  ·replace hb1 := of_decide_eq_true hb1
   exact zM <| zM <| zE (oSb (k - 1)) <| zE (oXl kY (k - 1) (0 : Nat)) <| zE (xX uG) <| zE cB <| zE oPa <| zZ
 refine jV rfl (fun h2 => ?_) (fun h2 => ?_)
 ·have hm := r_made_step hk hv h2
  have hm0 := hm.1
  refine jE <| jF <| kx [(5, (kD (k - 1)))] [] (zM <| zE (oSb (k - 1)) <| zM <| zZ) ?_
  exact ⟨(k - 1), wk, ⟨by omega, hm.2⟩, (by first | omega | (dsimp only; omega))⟩
 ·refine kB <| jA <| kx [] [(0, some (bx (jZ (jK.mk (neg && decide (0 < ((k : Nat) : Int))) (List.take k l)))))] ?_ ?_
  ·refine zM <| zE (oV (vb neg) (xI (by kernel_rfl))) <| ?_
   rcases hb3 : neg with _ | _
   ·exact zK <| zK <| zE iL <| zE (oBe kY) <| zM <| zM <| zE (e_slc (l := 0) (h := k) (kl := .i64) (kh := .i64) (es' := List.map jC (List.take k l)) (by exact rfl) kY (by exact rfl) (by exact rfl) (by exact rfl) (Nat.zero_le _) (by simp only [List.length_map]; omega) (by rw [List.drop_zero, List.map_take])) <| zE (e_appe (by exact rfl) kY xK (by kernel_rfl) cD (by exact rfl) (by exact rfl) (by simp only [List.length_map, List.length_take, List.length_drop, List.length_append, List.length_cons, List.length_nil, maxLen]; omega) (by simp only [List.length_map, List.length_take, List.length_drop, List.length_append, List.length_cons, List.length_nil]; omega)) <| zE (oBd pl40 nN nR) <| zT (kW kK) <| zZ
   ·exact zM <| zE aG <| zE oPa <| zE (oBe kY) <| zM <| zM <| zE (e_slc (l := 0) (h := k) (kl := .i64) (kh := .i64) (es' := List.map jC (List.take k l)) (by exact rfl) kY (by exact rfl) (by exact rfl) (by exact rfl) (Nat.zero_le _) (by simp only [List.length_map]; omega) (by rw [List.drop_zero, List.map_take])) <| zE (e_appe (by exact rfl) kY xK (by kernel_rfl) cD (by exact rfl) (by exact rfl) (by simp only [List.length_map, List.length_take, List.length_drop, List.length_append, List.length_cons, List.length_nil, maxLen]; omega) (by simp only [List.length_map, List.length_take, List.length_drop, List.length_append, List.length_cons, List.length_nil]; omega)) <| zE (oBd pl40 nN nR) <| zT (kW kK) <| zZ
  refine jJ ⟨_, (qC (cs := (bx (jZ (jK.mk (neg && decide (0 < ((k : Nat) : Int))) (List.take k l))))) (d := (jZ (jK.mk (neg && decide (0 < ((k : Nat) : Int))) (List.take k l)))) rfl rfl kK rfl rfl .nil), ?_⟩
  rw [r_made_end hd hk hv h2]; rfl
theorem r_valid (x : jK) (hb : x.gs.length ≤ 17592186044416) : kH Tryz.prog 25 [(jZ x)] (.val (.bool ((vF x)))) := by
 refine jP Tryz.func25 rfl cb25 rfl ?_
 show uK _ _ _ _ ⟨[(0, (.d (jZ x)))], []⟩
 refine jA <| kx [(1, (.ref 0 0))] [(0, some (bx (jZ x)))] (zN (vS 0) <| zM <| zZ) ?_
 refine jA <| kx [(3, (kD x.gs.length))] [] (zE (kS zW) <| zR (uF gL) <| zE (dD kY) <| zM <| zZ) ?_
 refine jA <| jA <| kx [(4, (kD 0))] [] (zM <| zZ) ?_
 refine jF <| uT (α := Nat) (fun i => ⟨[(1, (.ref 0 0)), (3, (kD x.gs.length)), (4, (kD i))], [(0, some (bx (jZ x)))]⟩) (fun i => i ≤ x.gs.length ∧ Dig (x.gs.take i)) (fun i => x.gs.length - i) 0 wk ⟨Nat.zero_le _, by rw [List.take_zero]; exact nK⟩ ?_
 rintro i ⟨hi, hd⟩
 refine jA <| jA <| kx [(10, (vb (decide (((i : Nat) : Int) < ((x.gs.length : Nat) : Int)))))] [] (zM <| zM <| zE qI <| zZ) ?_
 refine jV rfl (fun h1 => ?_) (fun h1 => ?_)
 ·replace h1 := of_decide_eq_true h1
  refine jE <| jA <| jF <| jA <| kx [(18, (vb (decide (1000000000 ≤ (((x.gs.getD i 0) : Nat) : Int)))))] [] (zE (kS zW) <| zR (uF gL) <| zM <| zE (oXl kY i (0 : Nat)) <| zE (xX uG) <| zE oGe <| zZ) ?_
  refine jV rfl (fun h2 => ?_) (fun h2 => ?_)
  ·replace h2 := of_decide_eq_true h2
   refine jA <| kx [(2, (vb false))] [] (zM <| zZ) ?_
   refine jJ ⟨_, (.tmp (d := (.val (.bool (false)))) rfl .nil), ?_⟩
   rw [validI_big (i := i) (by omega) (by omega)]; rfl
  ·replace h2 := of_decide_eq_false h2
   refine jE <| kx [(4, (kD (i + 1)))] [] (zM <| zE (qP (i + 1)) <| zM <| zZ) ?_
   exact ⟨(i + 1), wk, ⟨by omega, dig_take_succ (by omega) hd (by omega)⟩, (by first | omega | (dsimp only; omega))⟩
 ·replace h1 := of_decide_eq_false h1
  have hie : i = x.gs.length := by omega
  rw [hie, List.take_length] at hd
  refine kB <| jA <| jA <| kx [(20, (vb (((x.gs.length : Nat) : Int) == 0)))] [] (zM <| zE cB <| zZ) ?_
  refine jV (b := (((x.gs.length : Nat) : Int) == 0)) rfl (fun h3 => ?_) (fun h3 => ?_)
  ·replace h3 := eq_of_beq h3
   refine jA <| kx [(2, (vb (!x.neg)))] [] (zE (kS zC) <| zR (uF sh4) <| zE oNt <| zM <| zZ) ?_
   refine jJ ⟨_, (.tmp (d := (.val (.bool (!x.neg)))) rfl .nil), ?_⟩
   rw [validI_nil (by omega)]; rfl
  ·replace h3 := ne_of_beq_false h3
   refine jE <| jA <| kx [(2, (vb ((((x.gs.getD (x.gs.length - 1) 0) : Nat) : Int) != 0)))] [] (zE (kS zW) <| zR (uF gL) <| zM <| zE (oSb (x.gs.length - 1)) <| zE (oXl kY (x.gs.length - 1) (0 : Nat)) <| zE (xX uG) <| zE mE <| zM <| zZ) ?_
   refine jJ ⟨_, (.tmp (d := (.val (.bool (((((x.gs.getD (x.gs.length - 1) 0) : Nat) : Int) != 0))))) rfl .nil), ?_⟩
   rw [validI_dig hd (by omega)]; rfl
theorem eV (x : jK) (hb : x.gs.length ≤ 17592186044416) : kH Tryz.prog 133 [(jZ x)] (jZ (kT (kI x))) := by
 refine jP Tryz.func133 rfl cb133 rfl ?_
 show uK _ _ _ _ ⟨[(0, (.d (jZ x)))], []⟩
 refine jA <| kx [(1, (.ref 0 0)), (2, (.ref 1 0))] [(0, some (bx (jZ x))), (1, some (bx (jZ (jK.mk false []))))] (zN (vS 0) <| zN (qW 1 nN nR) <| zZ) ?_
 refine jA <| jA <| kx [(5, (vb (!(vF x))))] [] (zR (kF kK) <| zE (kA (r_valid x (by omega))) <| zE oNt <| zZ) ?_
 refine jV (b := !(vF x)) rfl (fun h1 => ?_) (fun h1 => ?_)
 ·refine jA <| kx [] [(1, some (bx (jZ (jK.mk false []))))] (zE (oBd pl40 nN nR) <| zT (kW kK) <| zZ) ?_
  refine jJ ⟨_, (qC (cs := (bx (jZ (jK.mk false [])))) (d := (jZ (jK.mk false []))) rfl rfl kK rfl rfl .nil), ?_⟩
  rw [toZ_bad (by rw [Bool.not_eq_true'] at h1; exact h1), ofZ_zero]; rfl
 ·refine jE <| jA <| kd [] [(1, some (bx (jZ (jK.mk x.neg x.gs))))] mo (wE (kS zC) <| wR (uF sh4) <| wE (oBe kY) <| wE (kS zW) <| wR (uF gL) <| wE (e_appe (by exact rfl) kY xK (by kernel_rfl) cD (by exact rfl) (by exact rfl) (by simp only [List.length_map, List.length_take, List.length_drop, List.length_append, List.length_cons, List.length_nil, maxLen]; omega) (by simp only [List.length_map, List.length_take, List.length_drop, List.length_append, List.length_cons, List.length_nil]; omega)) <| wE (oBd pl40 nN nR) <| wT (kW kK) <| wZ) ?_
  refine jJ ⟨_, (qC (cs := (bx (jZ (jK.mk x.neg x.gs)))) (d := (jZ (jK.mk x.neg x.gs))) rfl rfl kK rfl rfl .nil), ?_⟩
  rw [ofZ_toZ (by simpa using h1)]; rfl
theorem r_of (n : Int) (hlo : -9223372036854775808 ≤ n) (hhi : n ≤ 9223372036854775807) : kH Tryz.prog 27 [(.val (.int .i64 (n)))] (jZ (kT n)) := by
 refine jP Tryz.func27 rfl cb27 rfl ?_
 show uK _ _ _ _ ⟨[(0, (vi n))], []⟩
 refine jA <| kx [(2, (.ref 0 0))] [(0, some (bx (jZ (jK.mk false []))))] (zN (qW 0 nN nR) <| zZ) ?_
 refine jA <| kx [(3, (gO ((n % 18446744073709551616).toNat)))] [] (zM <| zE (cZ un3 yY ((n % 18446744073709551616).toNat) (hr := by exact (conv_u64 _))) <| zM <| zZ) ?_
 refine jA <| jA <| kx [(8, (vb (decide (n < 0))))] [] (zM <| zE qI <| zZ) ?_
 refine jV (b := decide (n < 0)) rfl (fun h1 => ?_) (fun h1 => ?_)
 ·replace h1 := of_decide_eq_true h1
  refine kx [(3, (gO n.natAbs))] [] (zM <| zE (zAd (n + 1)) <| zE (oNg (-(n + 1))) <| zE (cZ un3 yY ((-n - 1).toNat) (hr := by exact (wu64 (by omega) (by omega) (by omega)))) <| zE (qP n.natAbs) <| zM <| zZ) ?_
  refine jA <| kx [(4, (.own 1 152 1 0))] [(1, some (bm jC []))] (zN (oBo 1 kY xK gI) <| zM <| zZ) ?_
  refine jA <| jF <| uT (α := List Nat × Nat) (fun (o, m) => ⟨[(0, (vi n)), (2, (.ref 0 0)), (3, (gO m)), (4, (.own 1 152 1 o.length))], [(0, some (bx (jZ (jK.mk false [])))), (1, some (bm jC o))]⟩) (fun (o, m) => m ≤ 9223372036854775808 ∧ o ++ ofNat m = ofNat n.natAbs) (fun (o, m) => m) ([], n.natAbs) wk ⟨by omega, by rw [List.nil_append]⟩ ?_
  rintro ⟨o, m⟩ ⟨hm, hg⟩
  have hl := split_len hg (by omega)
  refine jA <| jA <| kx [(16, (vb (decide (0 < ((m : Nat) : Int)))))] [] (zM <| zE aG <| zZ) ?_
  refine jV (b := decide (0 < ((m : Nat) : Int))) rfl (fun h2 => ?_) (fun h2 => ?_)
  ·replace h2 := of_decide_eq_true h2
   refine jE <| jF <| jA <| kf [(4, (.own 1 152 1 ((o ++ [(m % 1000000000)]).length)))] [(1, some (bm jC (o ++ [(m % 1000000000)])))] (zM <| zM <| zE (iM (m % 1000000000)) <| zE (cZ nW gW (m % 1000000000)) <| zE (nO kY xK gI) <| zA jC o [(m % 1000000000)] rfl kY xK cD <| zM <| zF) ?_
   refine kx [(3, (gO (m / 1000000000)))] [] (zM <| zE (oQu (m / 1000000000)) <| zM <| zZ) ?_
   exact ⟨(o ++ [m % 1000000000], m / 1000000000), wk, ⟨by omega, split_step hg h2⟩, (by first | omega | (dsimp only; omega))⟩
  ·replace h2 := of_decide_eq_false h2
   have hdo : Dig o := split_dig hg h2
   have hvo := split_val hg h2
   refine kB <| jA <| kJ (uV (t := 4) (k := 1) (es := List.map jC o) rfl rfl (vK _ _ (fun _ => rfl)) (uS _ _ rfl) (xG _ _ (fun _ => rfl) rfl)) ?_
   refine kx [] [(0, some (bx (jZ (zL (decide (n < 0)) (val o)))))] (zM <| zE qI <| zM <| zE (kA (mF (decide (n < 0)) o hdo (by omega))) <| zT (kW kK) <| zZ) ?_
   refine jJ ⟨_, (qC (cs := (bx (jZ (zL (decide (n < 0)) (val o))))) (d := (jZ (zL (decide (n < 0)) (val o)))) rfl rfl kK rfl rfl .nil), ?_⟩
   rw [hvo]; rfl
 ·replace h1 := of_decide_eq_false h1
  rw [show (n % 18446744073709551616).toNat = n.natAbs from by omega]
  refine jE <| jA <| kx [(3, (gO n.natAbs)), (4, (.own 2 152 1 0))] [(2, some (bm jC []))] (zN (oBo 2 kY xK gI) <| zM <| zZ) ?_
  refine jA <| jF <| uT (α := List Nat × Nat) (fun (o, m) => ⟨[(0, (vi n)), (2, (.ref 0 0)), (3, (gO m)), (4, (.own 2 152 1 o.length))], [(0, some (bx (jZ (jK.mk false [])))), (2, some (bm jC o))]⟩) (fun (o, m) => m ≤ 9223372036854775808 ∧ o ++ ofNat m = ofNat n.natAbs) (fun (o, m) => m) ([], n.natAbs) wk ⟨by omega, by rw [List.nil_append]⟩ ?_
  rintro ⟨o, m⟩ ⟨hm, hg⟩
  have hl := split_len hg (by omega)
  refine jA <| jA <| kx [(16, (vb (decide (0 < ((m : Nat) : Int)))))] [] (zM <| zE aG <| zZ) ?_
  refine jV (b := decide (0 < ((m : Nat) : Int))) rfl (fun h3 => ?_) (fun h3 => ?_)
  ·replace h3 := of_decide_eq_true h3
   refine jE <| jF <| jA <| kf [(4, (.own 2 152 1 ((o ++ [(m % 1000000000)]).length)))] [(2, some (bm jC (o ++ [(m % 1000000000)])))] (zM <| zM <| zE (iM (m % 1000000000)) <| zE (cZ nW gW (m % 1000000000)) <| zE (nO kY xK gI) <| zA jC o [(m % 1000000000)] rfl kY xK cD <| zM <| zF) ?_
   refine kx [(3, (gO (m / 1000000000)))] [] (zM <| zE (oQu (m / 1000000000)) <| zM <| zZ) ?_
   exact ⟨(o ++ [m % 1000000000], m / 1000000000), wk, ⟨by omega, split_step hg h3⟩, (by first | omega | (dsimp only; omega))⟩
  ·replace h3 := of_decide_eq_false h3
   have hdo : Dig o := split_dig hg h3
   have hvo := split_val hg h3
   refine kB <| jA <| kJ (uV (t := 4) (k := 2) (es := List.map jC o) rfl rfl (vK _ _ (fun _ => rfl)) (uS _ _ rfl) (xG _ _ (fun _ => rfl) rfl)) ?_
   refine kx [] [(0, some (bx (jZ (zL (decide (n < 0)) (val o)))))] (zM <| zE qI <| zM <| zE (kA (mF (decide (n < 0)) o hdo (by omega))) <| zT (kW kK) <| zZ) ?_
   refine jJ ⟨_, (qC (cs := (bx (jZ (zL (decide (n < 0)) (val o))))) (d := (jZ (zL (decide (n < 0)) (val o)))) rfl rfl kK rfl rfl .nil), ?_⟩
   rw [hvo]; rfl
theorem r_size (a b : List Nat) (ha : gS a) (hb : gS b) (hla : a.length ≤ 17592186044416) (hlb : b.length ≤ 17592186044416) : kH Tryz.prog 174 [(.sl 152 1 (List.map jC a)), (.sl 152 1 (List.map jC b))] (.val (.int .i64 ((xE ((val a : Nat) : Int) ((val b : Nat) : Int))))) := by
 refine jP Tryz.func174 rfl cb174 rfl ?_
 show uK _ _ _ _ ⟨[(0, (vl 152 1 jC a)), (1, (vl 152 1 jC b))], []⟩
 refine jA <| kx [] [] (zM <| zZ) ?_
 refine jA <| jA <| kx [(10, (vb (((a.length : Nat) : Int) != ((b.length : Nat) : Int))))] [] (zM <| zE (dD kY) <| zM <| zE (dD kY) <| zE mE <| zZ) ?_
 refine jV rfl (fun h1 => ?_) (fun h1 => ?_)
 ·replace h1 := bne_iff_ne.1 h1
  refine jA <| jA <| kx [(15, (vb (decide (((a.length : Nat) : Int) < ((b.length : Nat) : Int)))))] [] (zM <| zE (dD kY) <| zM <| zE (dD kY) <| zE qI <| zZ) ?_
  refine jV rfl (fun h2 => ?_) (fun h2 => ?_)
  ·replace h2 := of_decide_eq_true h2
   refine jA <| kx [(4, (vi (-1)))] [] (zM <| zZ) ?_
   refine jJ ⟨_, (.tmp (d := (.val (.int .i64 (-1)))) rfl .nil), ?_⟩
   rw [← cmpI_len ha hb h1]; unfold xE; rw [if_pos (by omega)]; rfl
  ·replace h2 := of_decide_eq_false h2
   refine jE <| jA <| kx [(4, (kD 1))] [] (zM <| zZ) ?_
   refine jJ ⟨_, (.tmp (d := (.val (.int .i64 (1)))) rfl .nil), ?_⟩
   rw [← cmpI_len ha hb h1, bH (by omega)]; rfl
 ·replace h1 := bne_eq_false_iff_eq.1 h1
  have hl : a.length = b.length := by omega
  refine jE <| jA <| jA <| kx [(5, (vi (((a.length : Nat) : Int) - 1)))] [] (zM <| zE (dD kY) <| zE (fT (((a.length : Nat) : Int) - 1)) <| zM <| zZ) ?_
  refine jF <| uT (α := Nat) (fun k => ⟨[(0, (vl 152 1 jC a)), (1, (vl 152 1 jC b)), (5, (vi (((k : Nat) : Int) - 1)))], []⟩) (fun k => k ≤ a.length ∧ val (a.drop k) = val (b.drop k)) (fun k => k) a.length wk ⟨Nat.le_refl _, by rw [List.drop_length, hl, List.drop_length]⟩ ?_
  rintro k ⟨hk, he⟩
  refine jA <| jA <| kx [(20, (vb (decide (0 ≤ (((k : Nat) : Int) - 1)))))] [] (zM <| zE oGe <| zZ) ?_
  refine jV (b := decide (0 ≤ (((k : Nat) : Int) - 1))) rfl (fun h3 => ?_) (fun h3 => ?_)
  ·replace h3 := of_decide_eq_true h3
   obtain ⟨i, rfl⟩ : ∃ i, k = i + 1 := ⟨k - 1, by omega⟩
   rw [show (((i + 1 : Nat) : Int) - 1) = ((i : Nat) : Int) from by omega]
   have ht := cmpI_top ha.1 hb.1 hl (j := a.length - 1 - i) (by omega) (by rw [show a.length - (a.length - 1 - i) = i + 1 by omega]; exact he)
   rw [show a.length - 1 - (a.length - 1 - i) = i by omega] at ht
   refine jE <| jA <| jF <| jA <| jA <| kd [(5, (kD i)), (31, (vb (decide ((((a.getD i 0) : Nat) : Int) < (((b.getD i 0) : Nat) : Int)))))] [] mo (wM <| wM <| wE (oXl kY i (0 : Nat)) <| wE (xX uG) <| wM <| wM <| wE (oXl kY i (0 : Nat)) <| wE (xX uG) <| wE qI <| wZ) ?_
   refine jV rfl (fun h4 => ?_) (fun h4 => ?_)
   ·replace h4 := of_decide_eq_true h4
    refine jA <| kx [(4, (vi (-1)))] [] (zM <| zZ) ?_
    refine jJ ⟨_, (.tmp (d := (.val (.int .i64 (-1)))) rfl .nil), ?_⟩
    rw [← ht (by omega)]; unfold xE; rw [if_pos (by omega)]; rfl
   ·replace h4 := of_decide_eq_false h4
    refine jE <| jA <| kd [(40, (vb (decide ((((b.getD i 0) : Nat) : Int) < (((a.getD i 0) : Nat) : Int)))))] [] mo (wM <| wM <| wE (oXl kY i (0 : Nat)) <| wE (xX uG) <| wM <| wM <| wE (oXl kY i (0 : Nat)) <| wE (xX uG) <| wE aG <| wZ) ?_
    refine jV rfl (fun h5 => ?_) (fun h5 => ?_)
    ·replace h5 := of_decide_eq_true h5
     refine jA <| kx [(4, (kD 1))] [] (zM <| zZ) ?_
     refine jJ ⟨_, (.tmp (d := (.val (.int .i64 (1)))) rfl .nil), ?_⟩
     rw [← ht (by omega), bH (by omega)]; rfl
    ·replace h5 := of_decide_eq_false h5
     refine jE <| kx [(5, (vi (((i : Nat) : Int) - 1)))] [] (zM <| zE (fT (((i : Nat) : Int) - 1)) <| zM <| zZ) ?_
     exact ⟨i, wk, ⟨by omega, by rw [zS a i, zS b i, he]; omega⟩, (by first | omega | (dsimp only; omega))⟩
  ·replace h3 := of_decide_eq_false h3
   obtain rfl : k = 0 := by omega
   rw [List.drop_zero, List.drop_zero] at he
   refine kB <| jA <| kx [(4, (kD 0))] [] (zM <| zZ) ?_
   refine jJ ⟨_, (.tmp (d := (.val (.int .i64 (0)))) rfl .nil), ?_⟩
   rw [cmpI_same he]; rfl
theorem r_plus (a b : List Nat) (hda : Dig a) (hdb : Dig b) (hla : a.length ≤ 8796093022208) (hlb : b.length ≤ 8796093022208) : kH Tryz.prog 173 [(.sl 152 1 (List.map jC a)), (.sl 152 1 (List.map jC b))] (.sl 152 1 (List.map jC (ofNat (val a + val b)))) := by
 refine jP Tryz.func173 rfl cb173 rfl ?_
 show uK _ _ _ _ ⟨[(0, (vl 152 1 jC a)), (1, (vl 152 1 jC b))], []⟩
 refine jA <| kx [] [] (zE (oNl 152 1) <| zZ) ?_
 refine jA <| kx [(5, (.own 0 152 1 0))] [(0, some (bm jC []))] (zN (oBo 0 kY xK gI) <| zM <| zZ) ?_
 refine jA <| kx [(6, (gO 0))] [] (zM <| zZ) ?_
 refine jA <| jA <| kx [(7, (kD 0))] [] (zM <| zZ) ?_
 refine jF <| uT (α := Nat × List Nat × Nat) (fun (i, o, c) => ⟨[(0, (vl 152 1 jC a)), (1, (vl 152 1 jC b)), (5, (.own 0 152 1 o.length)), (6, (gO c)), (7, (kD i))], [(0, some (bm jC o))]⟩) (fun (i, o, c) => o.length = i ∧ Dig o ∧ i ≤ max a.length b.length ∧ c ≤ 1 ∧ val o + pw i * c = val (a.take i) + val (b.take i)) (fun (i, o, c) => max a.length b.length - i) (0, [], 0) wk ⟨rfl, nK, Nat.zero_le _, Nat.zero_le _, by simp [val]⟩ ?_
 rintro ⟨i, o, c⟩ ⟨hl, hd, hi, hc, hv⟩
 have hai := hda.getD i
 have hbi := hdb.getD i
 refine jA <| jA <| kx [(19, (vb (decide (((i : Nat) : Int) < ((a.length : Nat) : Int)) || decide (((i : Nat) : Int) < ((b.length : Nat) : Int)))))] [] ?_ ?_
 ·refine zM <| zM <| zE (dD kY) <| zE qI <| zE (oV (vb (decide (((i : Nat) : Int) < ((a.length : Nat) : Int)))) (xI (by kernel_rfl))) <| ?_
  rcases hb1 : (decide (((i : Nat) : Int) < ((a.length : Nat) : Int))) with _ | _
  ·replace hb1 := of_decide_eq_false hb1
   exact zM <| zM <| zE (dD kY) <| zE qI <| zE oPo <| zZ
  ·replace hb1 := of_decide_eq_true hb1
   exact zK <| zK <| zK <| zK <| zE bW <| zZ
 refine jV rfl (fun h2 => ?_) (fun h2 => ?_)
 ·rw [Bool.or_eq_true, decide_eq_true_eq, decide_eq_true_eq] at h2
  refine jE <| jA <| jF <| jA <| kx [(8, (gO (((a.getD i 0) + (b.getD i 0)) + c)))] [] (zM <| zM <| zE (kA (bA a i (by first | assumption | exact kR _ | exact (qU _).1 | exact (qV _).1))) <| zM <| zM <| zE (kA (bA b i (by first | assumption | exact kR _ | exact (qU _).1 | exact (qV _).1))) <| zE (qP ((a.getD i 0) + (b.getD i 0))) <| zM <| zE (qP (((a.getD i 0) + (b.getD i 0)) + c)) <| zM <| zZ) ?_
  refine jA <| kf [(5, (.own 0 152 1 ((o ++ [((((a.getD i 0) + (b.getD i 0)) + c) % 1000000000)]).length)))] [(0, some (bm jC (o ++ [((((a.getD i 0) + (b.getD i 0)) + c) % 1000000000)])))] (zM <| zM <| zE (iM ((((a.getD i 0) + (b.getD i 0)) + c) % 1000000000)) <| zE (cZ nW gW ((((a.getD i 0) + (b.getD i 0)) + c) % 1000000000)) <| zE (nO kY xK gI) <| zA jC o [((((a.getD i 0) + (b.getD i 0)) + c) % 1000000000)] rfl kY xK cD <| zM <| zF) ?_
  refine kx [(6, (gO ((((a.getD i 0) + (b.getD i 0)) + c) / 1000000000)))] [] (zM <| zE (oQu ((((a.getD i 0) + (b.getD i 0)) + c) / 1000000000)) <| zM <| zZ) ?_
  refine kx [(7, (kD (i + 1)))] [] (zM <| zE (qP (i + 1)) <| zM <| zZ) ?_
  exact ⟨(i + 1, o ++ [(a.getD i 0 + b.getD i 0 + c) % 1000000000], (a.getD i 0 + b.getD i 0 + c) / 1000000000), wk, ⟨by simp [hl], dig_push hd (Nat.mod_lt _ (by decide)), by omega, by omega, rplus_step hl hv rfl⟩, (by first | omega | (dsimp only; omega))⟩
 ·rw [Bool.or_eq_false_iff, decide_eq_false_iff_not, decide_eq_false_iff_not] at h2
  rw [take_all (by omega), take_all (by omega)] at hv
  have hp := val_push (c := c) hl
  refine kB <| jA <| kf [(4, (vl 152 1 jC (ofNat (val (o ++ [c]))))), (5, .junk)] [(0, none)] (zM <| zM <| zE (cZ nW gW c) <| zE (nO kY xK gI) <| zAQ jC o [c] rfl kY xK cD <| zE (kA (mF false (o ++ [c]) (dig_push hd (by omega)) (by simp only [List.length_append, List.length_cons, List.length_nil]; omega))) <| zE (oF1 bP gL) <| zM <| zF) ?_
  refine jJ ⟨_, (.tmp (d := (.sl 152 1 (List.map jC (ofNat (val (o ++ [c])))))) rfl .nil), ?_⟩
  rw [hp, hv]; rfl
theorem r_minus (a b : List Nat) (hda : Dig a) (hdb : Dig b) (hba : val b ≤ val a) (hla : a.length ≤ 8796093022208) : kH Tryz.prog 175 [(.sl 152 1 (List.map jC a)), (.sl 152 1 (List.map jC b))] (.sl 152 1 (List.map jC (ofNat (val a - val b)))) := by
 refine jP Tryz.func175 rfl cb175 rfl ?_
 show uK _ _ _ _ ⟨[(0, (vl 152 1 jC a)), (1, (vl 152 1 jC b))], []⟩
 refine jA <| kx [] [] (zE (oNl 152 1) <| zZ) ?_
 refine jA <| kx [(5, (.own 0 152 1 0))] [(0, some (bm jC []))] (zN (oBo 0 kY xK gI) <| zM <| zZ) ?_
 refine jA <| kx [(6, (gO 0))] [] (zM <| zZ) ?_
 refine jA <| jA <| kx [(7, (kD 0))] [] (zM <| zZ) ?_
 refine jF <| uT (α := Nat × List Nat × Nat) (fun (i, o, c) => ⟨[(0, (vl 152 1 jC a)), (1, (vl 152 1 jC b)), (5, (.own 0 152 1 o.length)), (6, (gO c)), (7, (kD i))], [(0, some (bm jC o))]⟩) (fun (i, o, c) => o.length = i ∧ Dig o ∧ i ≤ a.length ∧ c ≤ 1 ∧ val o + val (b.take i) = val (a.take i) + pw i * c) (fun (i, o, c) => a.length - i) (0, [], 0) wk ⟨rfl, nK, Nat.zero_le _, Nat.zero_le _, by simp [val]⟩ ?_
 rintro ⟨i, o, c⟩ ⟨hl, hd, hi, hc, hv⟩
 have hai := hda.getD i
 have hbi := hdb.getD i
 refine jA <| jA <| kx [(13, (vb (decide (((i : Nat) : Int) < ((a.length : Nat) : Int)))))] [] (zM <| zM <| zE (dD kY) <| zE qI <| zZ) ?_
 refine jV rfl (fun h1 => ?_) (fun h1 => ?_)
 ·replace h1 := of_decide_eq_true h1
  refine jE <| jA <| jF <| jA <| kx [(8, (gO (((1000000000 + (a.getD i 0)) - (b.getD i 0)) - c)))] [] (zM <| zM <| zE (kA (bA a i (by first | assumption | exact kR _ | exact (qU _).1 | exact (qV _).1))) <| zE (qP (1000000000 + (a.getD i 0))) <| zM <| zM <| zE (kA (bA b i (by first | assumption | exact kR _ | exact (qU _).1 | exact (qV _).1))) <| zE (oSb ((1000000000 + (a.getD i 0)) - (b.getD i 0))) <| zM <| zE (oSb (((1000000000 + (a.getD i 0)) - (b.getD i 0)) - c)) <| zM <| zZ) ?_
  refine jA <| kf [(5, (.own 0 152 1 ((o ++ [((((1000000000 + (a.getD i 0)) - (b.getD i 0)) - c) % 1000000000)]).length)))] [(0, some (bm jC (o ++ [((((1000000000 + (a.getD i 0)) - (b.getD i 0)) - c) % 1000000000)])))] (zM <| zM <| zE (iM ((((1000000000 + (a.getD i 0)) - (b.getD i 0)) - c) % 1000000000)) <| zE (cZ nW gW ((((1000000000 + (a.getD i 0)) - (b.getD i 0)) - c) % 1000000000)) <| zE (nO kY xK gI) <| zA jC o [((((1000000000 + (a.getD i 0)) - (b.getD i 0)) - c) % 1000000000)] rfl kY xK cD <| zM <| zF) ?_
  refine kx [(6, (gO (1 - ((((1000000000 + (a.getD i 0)) - (b.getD i 0)) - c) / 1000000000))))] [] (zM <| zE (oQu ((((1000000000 + (a.getD i 0)) - (b.getD i 0)) - c) / 1000000000)) <| zE (oSb (1 - ((((1000000000 + (a.getD i 0)) - (b.getD i 0)) - c) / 1000000000))) <| zM <| zZ) ?_
  refine kx [(7, (kD (i + 1)))] [] (zM <| zE (qP (i + 1)) <| zM <| zZ) ?_
  exact ⟨(i + 1, o ++ [(1000000000 + a.getD i 0 - b.getD i 0 - c) % 1000000000], 1 - (1000000000 + a.getD i 0 - b.getD i 0 - c) / 1000000000), wk, ⟨by simp [hl], dig_push hd (Nat.mod_lt _ (by decide)), by omega, by omega, rminus_step hl hv (by omega) (by omega)⟩, (by first | omega | (dsimp only; omega))⟩
 ·replace h1 := of_decide_eq_false h1
  have hie : i = a.length := by omega
  refine kB <| jA <| kJ (uV (t := 5) (k := 0) (es := List.map jC o) rfl rfl (vK _ _ (fun _ => rfl)) (uS _ _ rfl) (xG _ _ (fun _ => rfl) rfl)) ?_
  refine kx [(4, (vl 152 1 jC (ofNat (val o))))] [] (zM <| zE (kA (mF false o hd (by omega))) <| zE (oF1 bP gL) <| zM <| zZ) ?_
  refine jJ ⟨_, (.tmp (d := (.sl 152 1 (List.map jC (ofNat (val o))))) rfl .nil), ?_⟩
  rw [rminus_end hda hdb hd hie hl hba hv]; rfl
theorem r_scaled (a : List Nat) (d : Nat) (hda : Dig a) (hd1 : d ≤ 1000000000) (hla : a.length ≤ 8796093022208) : kH Tryz.prog 190 [(.sl 152 1 (List.map jC a)), (.val (.int .u64 (((d : Nat) : Int))))] (.sl 152 1 (List.map jC (ofNat (val a * d)))) := by
 refine jP Tryz.func190 rfl cb190 rfl ?_
 show uK _ _ _ _ ⟨[(0, (vl 152 1 jC a)), (1, (gO d))], []⟩
 refine jA <| kx [] [] (zE (oNl 152 1) <| zZ) ?_
 refine jA <| kx [(5, (.own 0 152 1 0))] [(0, some (bm jC []))] (zN (oBo 0 kY xK gI) <| zM <| zZ) ?_
 refine jA <| kx [(6, (gO 0))] [] (zM <| zZ) ?_
 refine jA <| jA <| kx [(7, (kD 0))] [] (zM <| zZ) ?_
 refine jF <| uT (α := Nat × List Nat × Nat) (fun (i, o, c) => ⟨[(0, (vl 152 1 jC a)), (1, (gO d)), (5, (.own 0 152 1 o.length)), (6, (gO c)), (7, (kD i))], [(0, some (bm jC o))]⟩) (fun (i, o, c) => o.length = i ∧ Dig o ∧ i ≤ a.length ∧ c ≤ 999999999 ∧ val o + pw i * c = val (a.take i) * d) (fun (i, o, c) => a.length - i) (0, [], 0) wk ⟨rfl, nK, Nat.zero_le _, Nat.zero_le _, by simp [val]⟩ ?_
 rintro ⟨i, o, c⟩ ⟨hl, hd, hi, hc, hv⟩
 have hai := hda.getD i
 have hpq : a.getD i 0 * d ≤ 999999999 * 1000000000 := Nat.mul_le_mul (by omega) hd1
 refine jA <| jA <| kx [(13, (vb (decide (((i : Nat) : Int) < ((a.length : Nat) : Int)))))] [] (zM <| zM <| zE (dD kY) <| zE qI <| zZ) ?_
 refine jV rfl (fun h1 => ?_) (fun h1 => ?_)
 ·replace h1 := of_decide_eq_true h1
  refine jE <| jA <| jF <| jA <| kx [(8, (gO (((a.getD i 0) * d) + c)))] [] (zM <| zM <| zE (oXl kY i (0 : Nat)) <| zE (xX uG) <| zE (cZ gK yY (a.getD i 0)) <| zM <| zE (oMl ((a.getD i 0) * d)) <| zM <| zE (qP (((a.getD i 0) * d) + c)) <| zM <| zZ) ?_
  refine jA <| kf [(5, (.own 0 152 1 ((o ++ [((((a.getD i 0) * d) + c) % 1000000000)]).length)))] [(0, some (bm jC (o ++ [((((a.getD i 0) * d) + c) % 1000000000)])))] (zM <| zM <| zE (iM ((((a.getD i 0) * d) + c) % 1000000000)) <| zE (cZ nW gW ((((a.getD i 0) * d) + c) % 1000000000)) <| zE (nO kY xK gI) <| zA jC o [((((a.getD i 0) * d) + c) % 1000000000)] rfl kY xK cD <| zM <| zF) ?_
  refine kx [(6, (gO ((((a.getD i 0) * d) + c) / 1000000000)))] [] (zM <| zE (oQu ((((a.getD i 0) * d) + c) / 1000000000)) <| zM <| zZ) ?_
  refine kx [(7, (kD (i + 1)))] [] (zM <| zE (qP (i + 1)) <| zM <| zZ) ?_
  exact ⟨(i + 1, o ++ [(a.getD i 0 * d + c) % 1000000000], (a.getD i 0 * d + c) / 1000000000), wk, ⟨by simp [hl], dig_push hd (Nat.mod_lt _ (by decide)), by omega, by omega, rscaled_step hl hv rfl⟩, (by first | omega | (dsimp only; omega))⟩
 ·replace h1 := of_decide_eq_false h1
  have hie : i = a.length := by omega
  rw [take_all (by omega)] at hv
  have hp := val_push (c := c) hl
  refine kB <| jA <| kf [(4, (vl 152 1 jC (ofNat (val (o ++ [c]))))), (5, .junk)] [(0, none)] (zM <| zM <| zE (cZ nW gW c) <| zE (nO kY xK gI) <| zAQ jC o [c] rfl kY xK cD <| zE (kA (mF false (o ++ [c]) (dig_push hd (by omega)) (by simp only [List.length_append, List.length_cons, List.length_nil]; omega))) <| zE (oF1 bP gL) <| zM <| zF) ?_
  refine jJ ⟨_, (.tmp (d := (.sl 152 1 (List.map jC (ofNat (val (o ++ [c])))))) rfl .nil), ?_⟩
  rw [hp, hv]; rfl
theorem r_shifted (a : List Nat) (d : Nat) (hda : Dig a) (hd1 : d < 1000000000) (hla : a.length ≤ 8796093022208) : kH Tryz.prog 191 [(.sl 152 1 (List.map jC a)), (.val (.int .u32 (((d : Nat) : Int))))] (.sl 152 1 (List.map jC (ofNat (d + 1000000000 * val a)))) := by
 refine jP Tryz.func191 rfl cb191 rfl ?_
 show uK _ _ _ _ ⟨[(0, (vl 152 1 jC a)), (1, (aL d))], []⟩
 refine jA <| kx [] [] (zE (oNl 152 1) <| zZ) ?_
 refine jA <| kf [(4, (vl 152 1 jC (ofNat (val ([d] ++ a)))))] [(0, none)] (zM <| zN (oBo 0 kY xK gI) <| zM <| zAQ jC [d] a rfl kY xK cD <| zE (kA (mF false ([d] ++ a) (iQ.2 ⟨gH.2 ⟨hd1, nK⟩, hda⟩) (by simp only [List.length_append, List.length_cons, List.length_nil]; omega))) <| zE (oF1 bP gL) <| zM <| zF) ?_
 refine jJ ⟨_, (.tmp (d := (.sl 152 1 (List.map jC (ofNat (val ([d] ++ a)))))) rfl .nil), ?_⟩
 rfl
end Go.Proofs.YtbecgnplakngdaaGreat
