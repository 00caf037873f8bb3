/- Part 18 of a proof: rules, plain facts, and functions walked. -/
import Derived.Test.YtihgdjljnaekmaaGreatM17
namespace Go.Proofs.YtihgdjljnaekmaaGreat
open Go.Fid
set_option maxRecDepth 4000
set_option linter.unusedVariables false
set_option linter.unusedSimpArgs false
theorem cb109 : callB Tryz.prog 109 = true := by kernel_rfl
theorem cb130 : callB Tryz.prog 130 = true := by kernel_rfl
theorem cb160 : callB Tryz.prog 160 = true := by kernel_rfl
theorem cb164 : callB Tryz.prog 164 = true := by kernel_rfl
theorem cb188 : callB Tryz.prog 188 = true := by kernel_rfl
theorem cb189 : callB Tryz.prog 189 = true := by kernel_rfl
theorem cb190 : callB Tryz.prog 190 = true := by kernel_rfl
theorem cb191 : callB Tryz.prog 191 = true := by kernel_rfl
theorem cb192 : callB Tryz.prog 192 = true := by kernel_rfl
theorem cb199 : callB Tryz.prog 199 = true := by kernel_rfl
theorem eL : aJ Tryz.prog 49 1 = some (1, 47) := by kernel_rfl
theorem dZ (l : List Nat) (i : Nat) (hd : Dig l) : jZ Tryz.prog 191 [(.sl 135 1 (List.map jD l)), (.val (.int .i64 (((i : Nat) : Int))))] (.val (.int .u64 ((((l.getD i 0) : Nat) : Int)))) := by
 have hg := hd.getD i
 refine jL Tryz.func191 rfl cb191 rfl ?_
 show qS _ _ _ _ ⟨[(0, (vl 135 1 jD l)), (1, (jQ i))], []⟩
 refine jA <| kx [] [] (zM <| zZ) ?_
 refine jA <| jA <| kx [(8, (vb (decide (((i : Nat) : Int) < ((l.length : Nat) : Int)))))] [] (zM <| zM <| zE (xA kC) <| zE uP <| zZ) ?_
 refine jG rfl (fun h1 => ?_) (fun h1 => ?_)
 ·replace h1 := of_decide_eq_true h1
  refine jA <| kx [(4, (xX (l.getD i 0)))] [] (zM <| zM <| zE (yO kC i (0 : Nat)) <| zE (nB qD) <| zE (yV vZ xC (l.getD i 0)) <| zM <| zZ) ?_
  refine jI ⟨_, (.tmp (d := (.val (.int .u64 ((((l.getD i 0) : Nat) : Int))))) rfl .nil), ?_⟩
  rfl
 ·replace h1 := of_decide_eq_false h1
  refine jF <| jA <| kx [(4, (xX 0))] [] (zM <| zZ) ?_
  refine jI ⟨_, (.tmp (d := (.val (.int .u64 (0)))) rfl .nil), ?_⟩
  rw [show l.getD i 0 = 0 from getD_out (by omega)]; rfl
theorem yR (neg : Bool) (l : List Nat) (hd : Dig l) (hb : l.length ≤ 17592186044416) : jZ Tryz.prog 164 [(.val (.bool (neg))), (.sl 135 1 (List.map jD l))] (jJ (vH neg (val l))) := by
 refine jL Tryz.func164 rfl cb164 rfl ?_
 show qS _ _ _ _ ⟨[(0, (vb neg)), (1, (vl 135 1 jD l))], []⟩
 refine jA <| kx [(4, (.ref 0 0))] [(0, some (bx (jJ (kG.mk false []))))] (zN (uQ 0 uN uM) <| zZ) ?_
 refine jA <| kx [(5, (jQ l.length))] [] (zM <| zE (xA kC) <| zM <| zZ) ?_
 refine jA <| jH <| kH (α := Nat) (fun k => ⟨[(0, (vb neg)), (1, (vl 135 1 jD l)), (4, (.ref 0 0)), (5, (jQ k))], [(0, some (bx (jJ (kG.mk false []))))]⟩) (fun k => k ≤ l.length ∧ val (l.take k) = val l) (fun k => k) l.length wk ⟨Nat.le_refl _, by rw [List.take_length]⟩ ?_
 rintro k ⟨hk, hv⟩
 refine jA <| jA <| kx [(17, (vb (decide (0 < ((k : Nat) : Int)) && ((((l.getD (k - 1) 0) : Nat) : Int) == 0))))] [] ?_ ?_
 ·refine zM <| zE mZ <| zE (oV (vb (decide (0 < ((k : Nat) : Int)))) (kP (by kernel_rfl))) <| ?_
  rcases hb1 : (decide (0 < ((k : Nat) : Int))) with _ | _
  ·replace hb1 := of_decide_eq_false hb1
   exact zK <| zK <| zK <| zK <| zK <| zK <| zE oPf <| zZ
  ·replace hb1 := of_decide_eq_true hb1
   exact zM <| zM <| zE (oSb (k - 1)) <| zE (yO kC (k - 1) (0 : Nat)) <| zE (nB qD) <| zE gF <| zE oPa <| zZ
 refine jG rfl (fun h2 => ?_) (fun h2 => ?_)
 ·have hm := r_made_step hk hv h2
  have hm0 := hm.1
  refine jF <| jH <| kx [(5, (jQ (k - 1)))] [] (zM <| zE (oSb (k - 1)) <| zM <| zZ) ?_
  exact ⟨(k - 1), wk, ⟨by omega, hm.2⟩, (by first | omega | (dsimp only; omega))⟩
 ·refine jW <| jA <| kx [] [(0, some (bx (jJ (kG.mk (neg && decide (0 < ((k : Nat) : Int))) (List.take k l)))))] ?_ ?_
  ·refine zM <| zE (oV (vb neg) (kP (by kernel_rfl))) <| ?_
   rcases hb3 : neg with _ | _
   ·exact zK <| zK <| zE oPf <| zE (oBe kC) <| zM <| zM <| zE (e_slc (l := 0) (h := k) (kl := .i64) (kh := .i64) (es' := List.map jD (List.take k l)) (by exact rfl) kC (by exact rfl) (by exact rfl) (by exact rfl) (Nat.zero_le _) (by simp only [List.length_map]; omega) (by rw [List.drop_zero, List.map_take])) <| zE (e_appe (by exact rfl) kC uU (by kernel_rfl) gB (by exact rfl) (by exact rfl) (by simp only [List.length_map, List.length_take, List.length_drop, List.length_append, List.length_cons, List.length_nil, maxLen]; omega) (by simp only [List.length_map, List.length_take, List.length_drop, List.length_append, List.length_cons, List.length_nil]; omega)) <| zE (eQ pl49 uN uM) <| zT (kZ jM) <| zZ
   ·exact zM <| zE mZ <| zE oPa <| zE (oBe kC) <| zM <| zM <| zE (e_slc (l := 0) (h := k) (kl := .i64) (kh := .i64) (es' := List.map jD (List.take k l)) (by exact rfl) kC (by exact rfl) (by exact rfl) (by exact rfl) (Nat.zero_le _) (by simp only [List.length_map]; omega) (by rw [List.drop_zero, List.map_take])) <| zE (e_appe (by exact rfl) kC uU (by kernel_rfl) gB (by exact rfl) (by exact rfl) (by simp only [List.length_map, List.length_take, List.length_drop, List.length_append, List.length_cons, List.length_nil, maxLen]; omega) (by simp only [List.length_map, List.length_take, List.length_drop, List.length_append, List.length_cons, List.length_nil]; omega)) <| zE (eQ pl49 uN uM) <| zT (kZ jM) <| zZ
  refine jI ⟨_, (kS (cs := (bx (jJ (kG.mk (neg && decide (0 < ((k : Nat) : Int))) (List.take k l))))) (d := (jJ (kG.mk (neg && decide (0 < ((k : Nat) : Int))) (List.take k l)))) rfl rfl jM rfl rfl .nil), ?_⟩
  rw [r_made_end hd hk hv h2]; rfl
theorem r_valid (x : kG) (hb : x.gs.length ≤ 17592186044416) : jZ Tryz.prog 130 [(jJ x)] (.val (.bool ((uI x)))) := by
 refine jL Tryz.func130 rfl cb130 rfl ?_
 show qS _ _ _ _ ⟨[(0, (.d (jJ x)))], []⟩
 refine jA <| kx [(1, (.ref 0 0))] [(0, some (bx (jJ x)))] (zN (zL 0) <| zM <| zZ) ?_
 refine jA <| kx [(3, (jQ x.gs.length))] [] (zE (kQ vD) <| zR (kM xE) <| zE (xA kC) <| zM <| zZ) ?_
 refine jA <| jA <| kx [(4, (jQ 0))] [] (zM <| zZ) ?_
 refine jH <| kH (α := Nat) (fun i => ⟨[(1, (.ref 0 0)), (3, (jQ x.gs.length)), (4, (jQ i))], [(0, some (bx (jJ x)))]⟩) (fun i => i ≤ x.gs.length ∧ Dig (x.gs.take i)) (fun i => x.gs.length - i) 0 wk ⟨Nat.zero_le _, by rw [List.take_zero]; exact zY⟩ ?_
 rintro i ⟨hi, hd⟩
 refine jA <| jA <| kx [(10, (vb (decide (((i : Nat) : Int) < ((x.gs.length : Nat) : Int)))))] [] (zM <| zM <| zE uP <| zZ) ?_
 refine jG rfl (fun h1 => ?_) (fun h1 => ?_)
 ·replace h1 := of_decide_eq_true h1
  refine jF <| jA <| jH <| jA <| kx [(18, (vb (decide (1000000000 ≤ (((x.gs.getD i 0) : Nat) : Int)))))] [] (zE (kQ vD) <| zR (kM xE) <| zM <| zE (yO kC i (0 : Nat)) <| zE (nB qD) <| zE oGe <| zZ) ?_
  refine jG rfl (fun h2 => ?_) (fun h2 => ?_)
  ·replace h2 := of_decide_eq_true h2
   refine jA <| kx [(2, (vb false))] [] (zM <| zZ) ?_
   refine jI ⟨_, (.tmp (d := (.val (.bool (false)))) rfl .nil), ?_⟩
   rw [validI_big (i := i) (by omega) (by omega)]; rfl
  ·replace h2 := of_decide_eq_false h2
   refine jF <| kx [(4, (jQ (i + 1)))] [] (zM <| zE (qQ (i + 1)) <| zM <| zZ) ?_
   exact ⟨(i + 1), wk, ⟨by omega, dig_take_succ (by omega) hd (by omega)⟩, (by first | omega | (dsimp only; omega))⟩
 ·replace h1 := of_decide_eq_false h1
  have hie : i = x.gs.length := by omega
  rw [hie, List.take_length] at hd
  refine jW <| jA <| jA <| kx [(20, (vb (((x.gs.length : Nat) : Int) == 0)))] [] (zM <| zE gF <| zZ) ?_
  refine jG (b := (((x.gs.length : Nat) : Int) == 0)) rfl (fun h3 => ?_) (fun h3 => ?_)
  ·replace h3 := eq_of_beq h3
   refine jA <| kx [(2, (vb (!x.neg)))] [] (zE (kQ uW) <| zR (kM cZ) <| zE oNt <| zM <| zZ) ?_
   refine jI ⟨_, (.tmp (d := (.val (.bool (!x.neg)))) rfl .nil), ?_⟩
   rw [validI_nil (by omega)]; rfl
  ·replace h3 := ne_of_beq_false h3
   refine jF <| jA <| kx [(2, (vb ((((x.gs.getD (x.gs.length - 1) 0) : Nat) : Int) != 0)))] [] (zE (kQ vD) <| zR (kM xE) <| zM <| zE (oSb (x.gs.length - 1)) <| zE (yO kC (x.gs.length - 1) (0 : Nat)) <| zE (nB qD) <| zE cG <| zM <| zZ) ?_
   refine jI ⟨_, (.tmp (d := (.val (.bool (((((x.gs.getD (x.gs.length - 1) 0) : Nat) : Int) != 0))))) rfl .nil), ?_⟩
   rw [validI_dig hd (by omega)]; rfl
theorem nH (x : kG) (hb : x.gs.length ≤ 17592186044416) : jZ Tryz.prog 109 [(jJ x)] (jJ (jR (jS x))) := by
 refine jL Tryz.func109 rfl cb109 rfl ?_
 show qS _ _ _ _ ⟨[(0, (.d (jJ x)))], []⟩
 refine jA <| kx [(1, (.ref 0 0)), (2, (.ref 1 0))] [(0, some (bx (jJ x))), (1, some (bx (jJ (kG.mk false []))))] (zN (zL 0) <| zN (uQ 1 uN uM) <| zZ) ?_
 refine jA <| jA <| kx [(5, (vb (!(uI x))))] [] (zR (kT jM) <| zE (kD (r_valid x (by omega))) <| zE oNt <| zZ) ?_
 refine jG (b := !(uI x)) rfl (fun h1 => ?_) (fun h1 => ?_)
 ·refine jA <| kx [] [(1, some (bx (jJ (kG.mk false []))))] (zE (eQ pl49 uN uM) <| zT (kZ jM) <| zZ) ?_
  refine jI ⟨_, (kS (cs := (bx (jJ (kG.mk false [])))) (d := (jJ (kG.mk false []))) rfl rfl jM rfl rfl .nil), ?_⟩
  rw [toZ_bad (by rw [Bool.not_eq_true'] at h1; exact h1), ofZ_zero]; rfl
 ·refine jF <| jA <| kd [] [(1, some (bx (jJ (kG.mk x.neg x.gs))))] mo (wE (kQ uW) <| wR (kM cZ) <| wE (oBe kC) <| wE (kQ vD) <| wR (kM xE) <| wE (e_appe (by exact rfl) kC uU (by kernel_rfl) gB (by exact rfl) (by exact rfl) (by simp only [List.length_map, List.length_take, List.length_drop, List.length_append, List.length_cons, List.length_nil, maxLen]; omega) (by simp only [List.length_map, List.length_take, List.length_drop, List.length_append, List.length_cons, List.length_nil]; omega)) <| wE (eQ pl49 uN uM) <| wT (kZ jM) <| wZ) ?_
  refine jI ⟨_, (kS (cs := (bx (jJ (kG.mk x.neg x.gs)))) (d := (jJ (kG.mk x.neg x.gs))) rfl rfl jM rfl rfl .nil), ?_⟩
  rw [ofZ_toZ (by simpa using h1)]; rfl
theorem r_of (n : Int) (hlo : -9223372036854775808 ≤ n) (hhi : n ≤ 9223372036854775807) : jZ Tryz.prog 160 [(.val (.int .i64 (n)))] (jJ (jR n)) := by
 refine jL Tryz.func160 rfl cb160 rfl ?_
 show qS _ _ _ _ ⟨[(0, (vi n))], []⟩
 refine jA <| kx [(2, (.ref 0 0))] [(0, some (bx (jJ (kG.mk false []))))] (zN (uQ 0 uN uM) <| zZ) ?_
 refine jA <| kx [(3, (xX ((n % 18446744073709551616).toNat)))] [] (zM <| zE (yV un3 xC ((n % 18446744073709551616).toNat) (hr := by exact (conv_u64 _))) <| zM <| zZ) ?_
 refine jA <| jA <| kx [(8, (vb (decide (n < 0))))] [] (zM <| zE uP <| zZ) ?_
 refine jG (b := decide (n < 0)) rfl (fun h1 => ?_) (fun h1 => ?_)
 ·replace h1 := of_decide_eq_true h1
  refine kx [(3, (xX n.natAbs))] [] (zM <| zE (zAd (n + 1)) <| zE (oNg (-(n + 1))) <| zE (yV un3 xC ((-n - 1).toNat) (hr := by exact (wu64 (by omega) (by omega) (by omega)))) <| zE (qQ n.natAbs) <| zM <| zZ) ?_
  refine jA <| kx [(4, (.own 1 135 1 0))] [(1, some (bm jD []))] (zN (oBo 1 kC uU xP) <| zM <| zZ) ?_
  refine jA <| jH <| kH (α := List Nat × Nat) (fun (o, m) => ⟨[(0, (vi n)), (2, (.ref 0 0)), (3, (xX m)), (4, (.own 1 135 1 o.length))], [(0, some (bx (jJ (kG.mk false [])))), (1, some (bm jD o))]⟩) (fun (o, m) => m ≤ 9223372036854775808 ∧ o ++ ofNat m = ofNat n.natAbs) (fun (o, m) => m) ([], n.natAbs) wk ⟨by omega, by rw [List.nil_append]⟩ ?_
  rintro ⟨o, m⟩ ⟨hm, hg⟩
  have hl := split_len hg (by omega)
  refine jA <| jA <| kx [(16, (vb (decide (0 < ((m : Nat) : Int)))))] [] (zM <| zE mZ <| zZ) ?_
  refine jG (b := decide (0 < ((m : Nat) : Int))) rfl (fun h2 => ?_) (fun h2 => ?_)
  ·replace h2 := of_decide_eq_true h2
   refine jF <| jH <| jA <| kf [(4, (.own 1 135 1 ((o ++ [(m % 1000000000)]).length)))] [(1, some (bm jD (o ++ [(m % 1000000000)])))] (zM <| zM <| zE (oRe (m % 1000000000)) <| zE (yV zU zP (m % 1000000000)) <| zE (aA kC uU xP) <| zA jD o [(m % 1000000000)] rfl kC uU gB <| zM <| zF) ?_
   refine kx [(3, (xX (m / 1000000000)))] [] (zM <| zE (oQu (m / 1000000000)) <| zM <| zZ) ?_
   exact ⟨(o ++ [m % 1000000000], m / 1000000000), wk, ⟨by omega, split_step hg h2⟩, (by first | omega | (dsimp only; omega))⟩
  ·replace h2 := of_decide_eq_false h2
   have hdo : Dig o := split_dig hg h2
   have hvo := split_val hg h2
   refine jW <| jA <| kY (vV (t := 4) (k := 1) (es := List.map jD o) rfl rfl (uO _ _ (fun _ => rfl)) (uS _ _ rfl) (vE _ _ (fun _ => rfl) rfl)) ?_
   refine kx [] [(0, some (bx (jJ (vH (decide (n < 0)) (val o)))))] (zM <| zE uP <| zM <| zE (kD (yR (decide (n < 0)) o hdo (by omega))) <| zT (kZ jM) <| zZ) ?_
   refine jI ⟨_, (kS (cs := (bx (jJ (vH (decide (n < 0)) (val o))))) (d := (jJ (vH (decide (n < 0)) (val o)))) rfl rfl jM rfl rfl .nil), ?_⟩
   rw [hvo]; rfl
 ·replace h1 := of_decide_eq_false h1
  rw [show (n % 18446744073709551616).toNat = n.natAbs from by omega]
  refine jF <| jA <| kx [(3, (xX n.natAbs)), (4, (.own 2 135 1 0))] [(2, some (bm jD []))] (zN (oBo 2 kC uU xP) <| zM <| zZ) ?_
  refine jA <| jH <| kH (α := List Nat × Nat) (fun (o, m) => ⟨[(0, (vi n)), (2, (.ref 0 0)), (3, (xX m)), (4, (.own 2 135 1 o.length))], [(0, some (bx (jJ (kG.mk false [])))), (2, some (bm jD o))]⟩) (fun (o, m) => m ≤ 9223372036854775808 ∧ o ++ ofNat m = ofNat n.natAbs) (fun (o, m) => m) ([], n.natAbs) wk ⟨by omega, by rw [List.nil_append]⟩ ?_
  rintro ⟨o, m⟩ ⟨hm, hg⟩
  have hl := split_len hg (by omega)
  refine jA <| jA <| kx [(16, (vb (decide (0 < ((m : Nat) : Int)))))] [] (zM <| zE mZ <| zZ) ?_
  refine jG (b := decide (0 < ((m : Nat) : Int))) rfl (fun h3 => ?_) (fun h3 => ?_)
  ·replace h3 := of_decide_eq_true h3
   refine jF <| jH <| jA <| kf [(4, (.own 2 135 1 ((o ++ [(m % 1000000000)]).length)))] [(2, some (bm jD (o ++ [(m % 1000000000)])))] (zM <| zM <| zE (oRe (m % 1000000000)) <| zE (yV zU zP (m % 1000000000)) <| zE (aA kC uU xP) <| zA jD o [(m % 1000000000)] rfl kC uU gB <| zM <| zF) ?_
   refine kx [(3, (xX (m / 1000000000)))] [] (zM <| zE (oQu (m / 1000000000)) <| zM <| zZ) ?_
   exact ⟨(o ++ [m % 1000000000], m / 1000000000), wk, ⟨by omega, split_step hg h3⟩, (by first | omega | (dsimp only; omega))⟩
  ·replace h3 := of_decide_eq_false h3
   have hdo : Dig o := split_dig hg h3
   have hvo := split_val hg h3
   refine jW <| jA <| kY (vV (t := 4) (k := 2) (es := List.map jD o) rfl rfl (uO _ _ (fun _ => rfl)) (uS _ _ rfl) (vE _ _ (fun _ => rfl) rfl)) ?_
   refine kx [] [(0, some (bx (jJ (vH (decide (n < 0)) (val o)))))] (zM <| zE uP <| zM <| zE (kD (yR (decide (n < 0)) o hdo (by omega))) <| zT (kZ jM) <| zZ) ?_
   refine jI ⟨_, (kS (cs := (bx (jJ (vH (decide (n < 0)) (val o))))) (d := (jJ (vH (decide (n < 0)) (val o)))) rfl rfl jM rfl rfl .nil), ?_⟩
   rw [hvo]; rfl
theorem r_size (a b : List Nat) (ha : zC a) (hb : zC b) (hla : a.length ≤ 17592186044416) (hlb : b.length ≤ 17592186044416) : jZ Tryz.prog 188 [(.sl 135 1 (List.map jD a)), (.sl 135 1 (List.map jD b))] (.val (.int .i64 ((qY ((val a : Nat) : Int) ((val b : Nat) : Int))))) := by
 refine jL Tryz.func188 rfl cb188 rfl ?_
 show qS _ _ _ _ ⟨[(0, (vl 135 1 jD a)), (1, (vl 135 1 jD b))], []⟩
 refine jA <| kx [] [] (zM <| zZ) ?_
 refine jA <| jA <| kx [(10, (vb (((a.length : Nat) : Int) != ((b.length : Nat) : Int))))] [] (zM <| zE (xA kC) <| zM <| zE (xA kC) <| zE cG <| zZ) ?_
 refine jG rfl (fun h1 => ?_) (fun h1 => ?_)
 ·replace h1 := bne_iff_ne.1 h1
  refine jA <| jA <| kx [(15, (vb (decide (((a.length : Nat) : Int) < ((b.length : Nat) : Int)))))] [] (zM <| zE (xA kC) <| zM <| zE (xA kC) <| zE uP <| zZ) ?_
  refine jG rfl (fun h2 => ?_) (fun h2 => ?_)
  ·replace h2 := of_decide_eq_true h2
   refine jA <| kx [(4, (vi (-1)))] [] (zM <| zZ) ?_
   refine jI ⟨_, (.tmp (d := (.val (.int .i64 (-1)))) rfl .nil), ?_⟩
   rw [← cmpI_len ha hb h1]; unfold qY; rw [if_pos (by omega)]; rfl
  ·replace h2 := of_decide_eq_false h2
   refine jF <| jA <| kx [(4, (jQ 1))] [] (zM <| zZ) ?_
   refine jI ⟨_, (.tmp (d := (.val (.int .i64 (1)))) rfl .nil), ?_⟩
   rw [← cmpI_len ha hb h1, cO (by omega)]; rfl
 ·replace h1 := bne_eq_false_iff_eq.1 h1
  have hl : a.length = b.length := by omega
  refine jF <| jA <| jA <| kx [(5, (vi (((a.length : Nat) : Int) - 1)))] [] (zM <| zE (xA kC) <| zE (zSb (((a.length : Nat) : Int) - 1)) <| zM <| zZ) ?_
  refine jH <| kH (α := Nat) (fun k => ⟨[(0, (vl 135 1 jD a)), (1, (vl 135 1 jD b)), (5, (vi (((k : Nat) : Int) - 1)))], []⟩) (fun k => k ≤ a.length ∧ val (a.drop k) = val (b.drop k)) (fun k => k) a.length wk ⟨Nat.le_refl _, by rw [List.drop_length, hl, List.drop_length]⟩ ?_
  rintro k ⟨hk, he⟩
  refine jA <| jA <| kx [(20, (vb (decide (0 ≤ (((k : Nat) : Int) - 1)))))] [] (zM <| zE oGe <| zZ) ?_
  refine jG (b := decide (0 ≤ (((k : Nat) : Int) - 1))) rfl (fun h3 => ?_) (fun h3 => ?_)
  ·replace h3 := of_decide_eq_true h3
   obtain ⟨i, rfl⟩ : ∃ i, k = i + 1 := ⟨k - 1, by omega⟩
   rw [show (((i + 1 : Nat) : Int) - 1) = ((i : Nat) : Int) from by omega]
   have ht := cmpI_top ha.1 hb.1 hl (j := a.length - 1 - i) (by omega) (by rw [show a.length - (a.length - 1 - i) = i + 1 by omega]; exact he)
   rw [show a.length - 1 - (a.length - 1 - i) = i by omega] at ht
   refine jF <| jA <| jH <| jA <| jA <| kd [(5, (jQ i)), (31, (vb (decide ((((a.getD i 0) : Nat) : Int) < (((b.getD i 0) : Nat) : Int)))))] [] mo (wM <| wM <| wE (yO kC i (0 : Nat)) <| wE (nB qD) <| wM <| wM <| wE (yO kC i (0 : Nat)) <| wE (nB qD) <| wE uP <| wZ) ?_
   refine jG rfl (fun h4 => ?_) (fun h4 => ?_)
   ·replace h4 := of_decide_eq_true h4
    refine jA <| kx [(4, (vi (-1)))] [] (zM <| zZ) ?_
    refine jI ⟨_, (.tmp (d := (.val (.int .i64 (-1)))) rfl .nil), ?_⟩
    rw [← ht (by omega)]; unfold qY; rw [if_pos (by omega)]; rfl
   ·replace h4 := of_decide_eq_false h4
    refine jF <| jA <| kd [(40, (vb (decide ((((b.getD i 0) : Nat) : Int) < (((a.getD i 0) : Nat) : Int)))))] [] mo (wM <| wM <| wE (yO kC i (0 : Nat)) <| wE (nB qD) <| wM <| wM <| wE (yO kC i (0 : Nat)) <| wE (nB qD) <| wE mZ <| wZ) ?_
    refine jG rfl (fun h5 => ?_) (fun h5 => ?_)
    ·replace h5 := of_decide_eq_true h5
     refine jA <| kx [(4, (jQ 1))] [] (zM <| zZ) ?_
     refine jI ⟨_, (.tmp (d := (.val (.int .i64 (1)))) rfl .nil), ?_⟩
     rw [← ht (by omega), cO (by omega)]; rfl
    ·replace h5 := of_decide_eq_false h5
     refine jF <| kx [(5, (vi (((i : Nat) : Int) - 1)))] [] (zM <| zE (zSb (((i : Nat) : Int) - 1)) <| zM <| zZ) ?_
     exact ⟨i, wk, ⟨by omega, by rw [uK a i, uK b i, he]; omega⟩, (by first | omega | (dsimp only; omega))⟩
  ·replace h3 := of_decide_eq_false h3
   obtain rfl : k = 0 := by omega
   rw [List.drop_zero, List.drop_zero] at he
   refine jW <| jA <| kx [(4, (jQ 0))] [] (zM <| zZ) ?_
   refine jI ⟨_, (.tmp (d := (.val (.int .i64 (0)))) rfl .nil), ?_⟩
   rw [cmpI_same he]; rfl
theorem r_plus (a b : List Nat) (hda : Dig a) (hdb : Dig b) (hla : a.length ≤ 8796093022208) (hlb : b.length ≤ 8796093022208) : jZ Tryz.prog 199 [(.sl 135 1 (List.map jD a)), (.sl 135 1 (List.map jD b))] (.sl 135 1 (List.map jD (ofNat (val a + val b)))) := by
 refine jL Tryz.func199 rfl cb199 rfl ?_
 show qS _ _ _ _ ⟨[(0, (vl 135 1 jD a)), (1, (vl 135 1 jD b))], []⟩
 refine jA <| kx [] [] (zE (oNl 135 1) <| zZ) ?_
 refine jA <| kx [(5, (.own 0 135 1 0))] [(0, some (bm jD []))] (zN (oBo 0 kC uU xP) <| zM <| zZ) ?_
 refine jA <| kx [(6, (xX 0))] [] (zM <| zZ) ?_
 refine jA <| jA <| kx [(7, (jQ 0))] [] (zM <| zZ) ?_
 refine jH <| kH (α := Nat × List Nat × Nat) (fun (i, o, c) => ⟨[(0, (vl 135 1 jD a)), (1, (vl 135 1 jD b)), (5, (.own 0 135 1 o.length)), (6, (xX c)), (7, (jQ i))], [(0, some (bm jD o))]⟩) (fun (i, o, c) => o.length = i ∧ Dig o ∧ i ≤ max a.length b.length ∧ c ≤ 1 ∧ val o + pw i * c = val (a.take i) + val (b.take i)) (fun (i, o, c) => max a.length b.length - i) (0, [], 0) wk ⟨rfl, zY, Nat.zero_le _, Nat.zero_le _, by simp [val]⟩ ?_
 rintro ⟨i, o, c⟩ ⟨hl, hd, hi, hc, hv⟩
 have hai := hda.getD i
 have hbi := hdb.getD i
 refine jA <| jA <| kx [(19, (vb (decide (((i : Nat) : Int) < ((a.length : Nat) : Int)) || decide (((i : Nat) : Int) < ((b.length : Nat) : Int)))))] [] ?_ ?_
 ·refine zM <| zM <| zE (xA kC) <| zE uP <| zE (oV (vb (decide (((i : Nat) : Int) < ((a.length : Nat) : Int)))) (kP (by kernel_rfl))) <| ?_
  rcases hb1 : (decide (((i : Nat) : Int) < ((a.length : Nat) : Int))) with _ | _
  ·replace hb1 := of_decide_eq_false hb1
   exact zM <| zM <| zE (xA kC) <| zE uP <| zE nI <| zZ
  ·replace hb1 := of_decide_eq_true hb1
   exact zK <| zK <| zK <| zK <| zE vR <| zZ
 refine jG rfl (fun h2 => ?_) (fun h2 => ?_)
 ·rw [Bool.or_eq_true, decide_eq_true_eq, decide_eq_true_eq] at h2
  refine jF <| jA <| jH <| jA <| kx [(8, (xX (((a.getD i 0) + (b.getD i 0)) + c)))] [] (zM <| zM <| zE (kD (dZ a i (by first | assumption | exact jY _ | exact (kO _).1 | exact (kR _).1))) <| zM <| zM <| zE (kD (dZ b i (by first | assumption | exact jY _ | exact (kO _).1 | exact (kR _).1))) <| zE (qQ ((a.getD i 0) + (b.getD i 0))) <| zM <| zE (qQ (((a.getD i 0) + (b.getD i 0)) + c)) <| zM <| zZ) ?_
  refine jA <| kf [(5, (.own 0 135 1 ((o ++ [((((a.getD i 0) + (b.getD i 0)) + c) % 1000000000)]).length)))] [(0, some (bm jD (o ++ [((((a.getD i 0) + (b.getD i 0)) + c) % 1000000000)])))] (zM <| zM <| zE (oRe ((((a.getD i 0) + (b.getD i 0)) + c) % 1000000000)) <| zE (yV zU zP ((((a.getD i 0) + (b.getD i 0)) + c) % 1000000000)) <| zE (aA kC uU xP) <| zA jD o [((((a.getD i 0) + (b.getD i 0)) + c) % 1000000000)] rfl kC uU gB <| zM <| zF) ?_
  refine kx [(6, (xX ((((a.getD i 0) + (b.getD i 0)) + c) / 1000000000)))] [] (zM <| zE (oQu ((((a.getD i 0) + (b.getD i 0)) + c) / 1000000000)) <| zM <| zZ) ?_
  refine kx [(7, (jQ (i + 1)))] [] (zM <| zE (qQ (i + 1)) <| zM <| zZ) ?_
  exact ⟨(i + 1, o ++ [(a.getD i 0 + b.getD i 0 + c) % 1000000000], (a.getD i 0 + b.getD i 0 + c) / 1000000000), wk, ⟨by simp [hl], dig_push hd (Nat.mod_lt _ (by decide)), by omega, by omega, rplus_step hl hv rfl⟩, (by first | omega | (dsimp only; omega))⟩
 ·rw [Bool.or_eq_false_iff, decide_eq_false_iff_not, decide_eq_false_iff_not] at h2
  rw [take_all (by omega), take_all (by omega)] at hv
  have hp := val_push (c := c) hl
  refine jW <| jA <| kf [(4, (vl 135 1 jD (ofNat (val (o ++ [c]))))), (5, .junk)] [(0, none)] (zM <| zM <| zE (yV zU zP c) <| zE (aA kC uU xP) <| zAQ jD o [c] rfl kC uU gB <| zE (kD (yR false (o ++ [c]) (dig_push hd (by omega)) (by simp only [List.length_append, List.length_cons, List.length_nil]; omega))) <| zE (oF1 eL xE) <| zM <| zF) ?_
  refine jI ⟨_, (.tmp (d := (.sl 135 1 (List.map jD (ofNat (val (o ++ [c])))))) rfl .nil), ?_⟩
  rw [hp, hv]; rfl
theorem r_minus (a b : List Nat) (hda : Dig a) (hdb : Dig b) (hba : val b ≤ val a) (hla : a.length ≤ 8796093022208) : jZ Tryz.prog 192 [(.sl 135 1 (List.map jD a)), (.sl 135 1 (List.map jD b))] (.sl 135 1 (List.map jD (ofNat (val a - val b)))) := by
 refine jL Tryz.func192 rfl cb192 rfl ?_
 show qS _ _ _ _ ⟨[(0, (vl 135 1 jD a)), (1, (vl 135 1 jD b))], []⟩
 refine jA <| kx [] [] (zE (oNl 135 1) <| zZ) ?_
 refine jA <| kx [(5, (.own 0 135 1 0))] [(0, some (bm jD []))] (zN (oBo 0 kC uU xP) <| zM <| zZ) ?_
 refine jA <| kx [(6, (xX 0))] [] (zM <| zZ) ?_
 refine jA <| jA <| kx [(7, (jQ 0))] [] (zM <| zZ) ?_
 refine jH <| kH (α := Nat × List Nat × Nat) (fun (i, o, c) => ⟨[(0, (vl 135 1 jD a)), (1, (vl 135 1 jD b)), (5, (.own 0 135 1 o.length)), (6, (xX c)), (7, (jQ i))], [(0, some (bm jD o))]⟩) (fun (i, o, c) => o.length = i ∧ Dig o ∧ i ≤ a.length ∧ c ≤ 1 ∧ val o + val (b.take i) = val (a.take i) + pw i * c) (fun (i, o, c) => a.length - i) (0, [], 0) wk ⟨rfl, zY, Nat.zero_le _, Nat.zero_le _, by simp [val]⟩ ?_
 rintro ⟨i, o, c⟩ ⟨hl, hd, hi, hc, hv⟩
 have hai := hda.getD i
 have hbi := hdb.getD i
 refine jA <| jA <| kx [(13, (vb (decide (((i : Nat) : Int) < ((a.length : Nat) : Int)))))] [] (zM <| zM <| zE (xA kC) <| zE uP <| zZ) ?_
 refine jG rfl (fun h1 => ?_) (fun h1 => ?_)
 ·replace h1 := of_decide_eq_true h1
  refine jF <| jA <| jH <| jA <| kx [(8, (xX (((1000000000 + (a.getD i 0)) - (b.getD i 0)) - c)))] [] (zM <| zM <| zE (kD (dZ a i (by first | assumption | exact jY _ | exact (kO _).1 | exact (kR _).1))) <| zE (qQ (1000000000 + (a.getD i 0))) <| zM <| zM <| zE (kD (dZ b i (by first | assumption | exact jY _ | exact (kO _).1 | exact (kR _).1))) <| zE (oSb ((1000000000 + (a.getD i 0)) - (b.getD i 0))) <| zM <| zE (oSb (((1000000000 + (a.getD i 0)) - (b.getD i 0)) - c)) <| zM <| zZ) ?_
  refine jA <| kf [(5, (.own 0 135 1 ((o ++ [((((1000000000 + (a.getD i 0)) - (b.getD i 0)) - c) % 1000000000)]).length)))] [(0, some (bm jD (o ++ [((((1000000000 + (a.getD i 0)) - (b.getD i 0)) - c) % 1000000000)])))] (zM <| zM <| zE (oRe ((((1000000000 + (a.getD i 0)) - (b.getD i 0)) - c) % 1000000000)) <| zE (yV zU zP ((((1000000000 + (a.getD i 0)) - (b.getD i 0)) - c) % 1000000000)) <| zE (aA kC uU xP) <| zA jD o [((((1000000000 + (a.getD i 0)) - (b.getD i 0)) - c) % 1000000000)] rfl kC uU gB <| zM <| zF) ?_
  refine kx [(6, (xX (1 - ((((1000000000 + (a.getD i 0)) - (b.getD i 0)) - c) / 1000000000))))] [] (zM <| zE (oQu ((((1000000000 + (a.getD i 0)) - (b.getD i 0)) - c) / 1000000000)) <| zE (oSb (1 - ((((1000000000 + (a.getD i 0)) - (b.getD i 0)) - c) / 1000000000))) <| zM <| zZ) ?_
  refine kx [(7, (jQ (i + 1)))] [] (zM <| zE (qQ (i + 1)) <| zM <| zZ) ?_
  exact ⟨(i + 1, o ++ [(1000000000 + a.getD i 0 - b.getD i 0 - c) % 1000000000], 1 - (1000000000 + a.getD i 0 - b.getD i 0 - c) / 1000000000), wk, ⟨by simp [hl], dig_push hd (Nat.mod_lt _ (by decide)), by omega, by omega, rminus_step hl hv (by omega) (by omega)⟩, (by first | omega | (dsimp only; omega))⟩
 ·replace h1 := of_decide_eq_false h1
  have hie : i = a.length := by omega
  refine jW <| jA <| kY (vV (t := 5) (k := 0) (es := List.map jD o) rfl rfl (uO _ _ (fun _ => rfl)) (uS _ _ rfl) (vE _ _ (fun _ => rfl) rfl)) ?_
  refine kx [(4, (vl 135 1 jD (ofNat (val o))))] [] (zM <| zE (kD (yR false o hd (by omega))) <| zE (oF1 eL xE) <| zM <| zZ) ?_
  refine jI ⟨_, (.tmp (d := (.sl 135 1 (List.map jD (ofNat (val o))))) rfl .nil), ?_⟩
  rw [rminus_end hda hdb hd hie hl hba hv]; rfl
theorem r_scaled (a : List Nat) (d : Nat) (hda : Dig a) (hd1 : d ≤ 1000000000) (hla : a.length ≤ 8796093022208) : jZ Tryz.prog 189 [(.sl 135 1 (List.map jD a)), (.val (.int .u64 (((d : Nat) : Int))))] (.sl 135 1 (List.map jD (ofNat (val a * d)))) := by
 refine jL Tryz.func189 rfl cb189 rfl ?_
 show qS _ _ _ _ ⟨[(0, (vl 135 1 jD a)), (1, (xX d))], []⟩
 refine jA <| kx [] [] (zE (oNl 135 1) <| zZ) ?_
 refine jA <| kx [(5, (.own 0 135 1 0))] [(0, some (bm jD []))] (zN (oBo 0 kC uU xP) <| zM <| zZ) ?_
 refine jA <| kx [(6, (xX 0))] [] (zM <| zZ) ?_
 refine jA <| jA <| kx [(7, (jQ 0))] [] (zM <| zZ) ?_
 refine jH <| kH (α := Nat × List Nat × Nat) (fun (i, o, c) => ⟨[(0, (vl 135 1 jD a)), (1, (xX d)), (5, (.own 0 135 1 o.length)), (6, (xX c)), (7, (jQ i))], [(0, some (bm jD o))]⟩) (fun (i, o, c) => o.length = i ∧ Dig o ∧ i ≤ a.length ∧ c ≤ 999999999 ∧ val o + pw i * c = val (a.take i) * d) (fun (i, o, c) => a.length - i) (0, [], 0) wk ⟨rfl, zY, Nat.zero_le _, Nat.zero_le _, by simp [val]⟩ ?_
 rintro ⟨i, o, c⟩ ⟨hl, hd, hi, hc, hv⟩
 have hai := hda.getD i
 have hpq : a.getD i 0 * d ≤ 999999999 * 1000000000 := Nat.mul_le_mul (by omega) hd1
 refine jA <| jA <| kx [(13, (vb (decide (((i : Nat) : Int) < ((a.length : Nat) : Int)))))] [] (zM <| zM <| zE (xA kC) <| zE uP <| zZ) ?_
 refine jG rfl (fun h1 => ?_) (fun h1 => ?_)
 ·replace h1 := of_decide_eq_true h1
  refine jF <| jA <| jH <| jA <| kx [(8, (xX (((a.getD i 0) * d) + c)))] [] (zM <| zM <| zE (yO kC i (0 : Nat)) <| zE (nB qD) <| zE (yV vZ xC (a.getD i 0)) <| zM <| zE (oMl ((a.getD i 0) * d)) <| zM <| zE (qQ (((a.getD i 0) * d) + c)) <| zM <| zZ) ?_
  refine jA <| kf [(5, (.own 0 135 1 ((o ++ [((((a.getD i 0) * d) + c) % 1000000000)]).length)))] [(0, some (bm jD (o ++ [((((a.getD i 0) * d) + c) % 1000000000)])))] (zM <| zM <| zE (oRe ((((a.getD i 0) * d) + c) % 1000000000)) <| zE (yV zU zP ((((a.getD i 0) * d) + c) % 1000000000)) <| zE (aA kC uU xP) <| zA jD o [((((a.getD i 0) * d) + c) % 1000000000)] rfl kC uU gB <| zM <| zF) ?_
  refine kx [(6, (xX ((((a.getD i 0) * d) + c) / 1000000000)))] [] (zM <| zE (oQu ((((a.getD i 0) * d) + c) / 1000000000)) <| zM <| zZ) ?_
  refine kx [(7, (jQ (i + 1)))] [] (zM <| zE (qQ (i + 1)) <| zM <| zZ) ?_
  exact ⟨(i + 1, o ++ [(a.getD i 0 * d + c) % 1000000000], (a.getD i 0 * d + c) / 1000000000), wk, ⟨by simp [hl], dig_push hd (Nat.mod_lt _ (by decide)), by omega, by omega, rscaled_step hl hv rfl⟩, (by first | omega | (dsimp only; omega))⟩
 ·replace h1 := of_decide_eq_false h1
  have hie : i = a.length := by omega
  rw [take_all (by omega)] at hv
  have hp := val_push (c := c) hl
  refine jW <| jA <| kf [(4, (vl 135 1 jD (ofNat (val (o ++ [c]))))), (5, .junk)] [(0, none)] (zM <| zM <| zE (yV zU zP c) <| zE (aA kC uU xP) <| zAQ jD o [c] rfl kC uU gB <| zE (kD (yR false (o ++ [c]) (dig_push hd (by omega)) (by simp only [List.length_append, List.length_cons, List.length_nil]; omega))) <| zE (oF1 eL xE) <| zM <| zF) ?_
  refine jI ⟨_, (.tmp (d := (.sl 135 1 (List.map jD (ofNat (val (o ++ [c])))))) rfl .nil), ?_⟩
  rw [hp, hv]; rfl
theorem r_shifted (a : List Nat) (d : Nat) (hda : Dig a) (hd1 : d < 1000000000) (hla : a.length ≤ 8796093022208) : jZ Tryz.prog 190 [(.sl 135 1 (List.map jD a)), (.val (.int .u32 (((d : Nat) : Int))))] (.sl 135 1 (List.map jD (ofNat (d + 1000000000 * val a)))) := by
 refine jL Tryz.func190 rfl cb190 rfl ?_
 show qS _ _ _ _ ⟨[(0, (vl 135 1 jD a)), (1, (dC d))], []⟩
 refine jA <| kx [] [] (zE (oNl 135 1) <| zZ) ?_
 refine jA <| kf [(4, (vl 135 1 jD (ofNat (val ([d] ++ a)))))] [(0, none)] (zM <| zN (oBo 0 kC uU xP) <| zM <| zAQ jD [d] a rfl kC uU gB <| zE (kD (yR false ([d] ++ a) (fQ.2 ⟨xQ.2 ⟨hd1, zY⟩, hda⟩) (by simp only [List.length_append, List.length_cons, List.length_nil]; omega))) <| zE (oF1 eL xE) <| zM <| zF) ?_
 refine jI ⟨_, (.tmp (d := (.sl 135 1 (List.map jD (ofNat (val ([d] ++ a)))))) rfl .nil), ?_⟩
 rfl
end Go.Proofs.YtihgdjljnaekmaaGreat
