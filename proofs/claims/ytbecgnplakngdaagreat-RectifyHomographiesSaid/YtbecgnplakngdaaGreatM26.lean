/- Part 26 of a proof: rules, plain facts, and functions walked. -/
import Derived.Test.YtbecgnplakngdaaGreatM25
import Derived.Test.YtbecgnplakngdaaGreatM20
import Derived.Test.YtbecgnplakngdaaGreatM23
namespace Go.Proofs.YtbecgnplakngdaaGreat
open Go.Fid
set_option maxRecDepth 4000
set_option linter.unusedVariables false
set_option linter.unusedSimpArgs false
theorem by40 : nQ Tryz.prog 40 = some 32 := by kernel_rfl
theorem cb113 : callB Tryz.prog 113 = true := by kernel_rfl
theorem cb115 : callB Tryz.prog 115 = true := by kernel_rfl
theorem cb156 : callB Tryz.prog 156 = true := by kernel_rfl
theorem cb157 : callB Tryz.prog 157 = true := by kernel_rfl
theorem cb158 : callB Tryz.prog 158 = true := by kernel_rfl
theorem cb160 : callB Tryz.prog 160 = true := by kernel_rfl
theorem cb198 : callB Tryz.prog 198 = true := by kernel_rfl
theorem cb199 : callB Tryz.prog 199 = true := by kernel_rfl
theorem cb216 : callB Tryz.prog 216 = true := by kernel_rfl
theorem r_same (x y : jF) (hx : x.gs.length ≤ 1099511627776) (hy : y.gs.length ≤ 1099511627776) : kF Tryz.prog 199 [(jH x), (jH y)] (.val (.bool ((sameI x y)))) := by
 refine jL Tryz.func199 rfl cb199 rfl ?_
 show uK _ _ _ _ ⟨[(0, (.d (jH x))), (1, (.d (jH y)))], []⟩
 refine jA <| kx [(2, (.ref 0 0)), (3, (.ref 1 0))] [(0, some (bx (jH x))), (1, some (bx (jH y)))] (zN (uX 0) <| zN (uX 1) <| zM <| zZ) ?_
 refine jA <| jA <| kx [(19, (vb (!(x.neg == y.neg) || (((x.gs.length : Nat) : Int) != ((y.gs.length : Nat) : Int)))))] [] ?_ ?_
 ·refine zE (kU uS) <| zR (uM eI) <| zE (kU uS) <| zR (uM eI) <| zE (oNb bo4) <| zE (oV (vb (!(x.neg == y.neg))) (xD (by kernel_rfl))) <| ?_
  rcases hb1 : (!(x.neg == y.neg)) with _ | _
  ·exact zE (kU uT) <| zR (uM xI) <| zE (nC kV) <| zE (kU uT) <| zR (uM xI) <| zE (nC kV) <| zE mR <| zE oPo <| zZ
  ·exact zK <| zK <| zK <| zK <| zK <| zK <| zK <| zE bG <| zZ
 refine jQ rfl (fun h2 => ?_) (fun h2 => ?_)
 ·refine jA <| kx [(4, (vb false))] [] (zM <| zZ) ?_
  refine jG ⟨_, (.tmp (d := (.val (.bool (false)))) rfl .nil), ?_⟩
  rw [same_no1 h2]; rfl
 ·obtain ⟨hn1, hn2⟩ := same_head h2
  refine jD <| jA <| jA <| kx [(5, (kE 0))] [] (zM <| zZ) ?_
  refine jE <| uA (α := Nat) (fun i => ⟨[(2, (.ref 0 0)), (3, (.ref 1 0)), (5, (kE i))], [(0, some (bx (jH x))), (1, some (bx (jH y)))]⟩) (fun i => i ≤ x.gs.length ∧ x.gs.take i = y.gs.take i) (fun i => x.gs.length - i) 0 wk ⟨Nat.zero_le _, by simp⟩ ?_
  rintro i ⟨hi, hv⟩
  refine jA <| jA <| kx [(24, (vb (decide (((i : Nat) : Int) < ((x.gs.length : Nat) : Int)))))] [] (zM <| zE (kU uT) <| zR (uM xI) <| zE (nC kV) <| zE qS <| zZ) ?_
  refine jQ rfl (fun h3 => ?_) (fun h3 => ?_)
  ·replace h3 := of_decide_eq_true h3
   refine jD <| jA <| jE <| jA <| kd [(37, (vb ((((x.gs.getD i 0) : Nat) : Int) != (((y.gs.getD i 0) : Nat) : Int))))] [] mo (wE (kU uT) <| wR (uM xI) <| wM <| wE (eP kV i (0 : Nat)) <| wE (yN uR) <| wE (kU uT) <| wR (uM xI) <| wM <| wE (eP kV i (0 : Nat)) <| wE (yN uR) <| wE mR <| wZ) ?_
   refine jQ rfl (fun h4 => ?_) (fun h4 => ?_)
   ·replace h4 := bne_iff_ne.1 h4
    refine jA <| kx [(4, (vb false))] [] (zM <| zZ) ?_
    refine jG ⟨_, (.tmp (d := (.val (.bool (false)))) rfl .nil), ?_⟩
    rw [same_no2 (by omega) h4]; rfl
   ·replace h4 := bne_eq_false_iff_eq.1 h4
    refine jD <| kx [(5, (kE (i + 1)))] [] (zM <| zE (qQ (i + 1)) <| zM <| zZ) ?_
    exact ⟨(i + 1), wk, ⟨by omega, take_same (by omega) (by omega) hv h4⟩, (by first | omega | (dsimp only; omega))⟩
  ·replace h3 := of_decide_eq_false h3
   have hie : i = x.gs.length := by omega
   rw [hie, List.take_length] at hv
   rw [List.take_of_length_le (by omega)] at hv
   refine kQ <| jA <| kx [(4, (vb true))] [] (zM <| zZ) ?_
   refine jG ⟨_, (.tmp (d := (.val (.bool (true)))) rfl .nil), ?_⟩
   rw [same_yes hn1 hv]; rfl
theorem l_wholeI (n : Int) (hlo : -9223372036854775808 ≤ n) (hhi : n ≤ 9223372036854775807) : kF Tryz.prog 216 [(.val (.int .i64 (n)))] (jH (jK n)) := by
 refine jL Tryz.func216 rfl cb216 rfl ?_
 show uK _ _ _ _ ⟨[(0, (vi n))], []⟩
 refine jA <| kx [(2, (.ref 0 0))] [(0, some (bx (jH (jF.mk false []))))] (zN (qH 0 uD uE) <| zZ) ?_
 refine jA <| kx [] [(0, some (bx (jH (jK n))))] (zM <| zE (kC (r_of n (by omega) (by omega))) <| zT (kR jI) <| zZ) ?_
 refine jG ⟨_, (qB (cs := (bx (jH (jK n)))) (d := (jH (jK n))) rfl rfl jI rfl rfl .nil), ?_⟩
 rfl
theorem l_zero (x : jF) (a : Int) (hx : kZ x a 5000000000) : kF Tryz.prog 157 [(jH x)] (.val (.bool ((qX a == 0)))) := by
 refine jL Tryz.func157 rfl cb157 rfl ?_
 show uK _ _ _ _ ⟨[(0, (.d (jH x)))], []⟩
 refine jA <| kx [(1, (.ref 0 0))] [(0, some (bx (jH x)))] (zN (uX 0) <| zM <| zZ) ?_
 refine jA <| kx [(2, (vb ((qX a) == 0)))] [] (zR (kA jI) <| zE (kC (aK hx (by decide))) <| zE aO <| zM <| zZ) ?_
 refine jG ⟨_, (.tmp (d := (.val (.bool (((qX a) == 0))))) rfl .nil), ?_⟩
 rfl
theorem l_det (p : A3 jF) (p0 p1 p2 : Int) (hp0 : kZ p.a0 p0 1000000) (hp1 : kZ p.a1 p1 1000000) (hp2 : kZ p.a2 p2 1000000) (q : A3 jF) (q0 q1 q2 : Int) (hq0 : kZ q.a0 q0 1000000) (hq1 : kZ q.a1 q1 1000000) (hq2 : kZ q.a2 q2 1000000) (r : A3 jF) (r0 r1 r2 : Int) (hr0 : kZ r.a0 r0 1000000) (hr1 : kZ r.a1 r1 1000000) (hr2 : kZ r.a2 r2 1000000) : kF Tryz.prog 158 [(kS p), (kS q), (kS r)] (jH (jK (gN p0 p1 p2 q0 q1 q2 r0 r1 r2))) := by
 refine jL Tryz.func158 rfl cb158 rfl ?_
 show uK _ _ _ _ ⟨[(0, (.d (kS p))), (1, (.d (kS q))), (2, (.d (kS r)))], []⟩
 refine jA <| kx [(3, (.ref 0 0)), (4, (.ref 1 0)), (5, (.ref 2 0)), (6, (.ref 3 0))] [(0, some (bx (kS p))), (1, some (bx (kS q))), (2, some (bx (kS r))), (3, some (bx (jH (jF.mk false []))))] (zN (uX 0) <| zN (uX 1) <| zN (uX 2) <| zN (qH 3 uD uE) <| zZ) ?_
 refine jA ?_
 have bn1 : kZ (jK ((q1 * r2) - (q2 * r1))) ((q1 * r2) - (q2 * r1)) 2000001 := (lE (k := 2000001) (jP (k := 2000000) hq1 hr2 (by decide)) (jP (k := 2000000) hq2 hr1 (by decide)) (by decide))
 have bn2 : kZ (jK ((q2 * r0) - (q0 * r2))) ((q2 * r0) - (q0 * r2)) 2000001 := (lE (k := 2000001) (jP (k := 2000000) hq2 hr0 (by decide)) (jP (k := 2000000) hq0 hr2 (by decide)) (by decide))
 have bn3 : kZ (jK ((q0 * r1) - (q1 * r0))) ((q0 * r1) - (q1 * r0)) 2000001 := (lE (k := 2000001) (jP (k := 2000000) hq0 hr1 (by decide)) (jP (k := 2000000) hq1 hr0 (by decide)) (by decide))
 have bn4 : kZ (jK (((p0 * ((q1 * r2) - (q2 * r1))) + (p1 * ((q2 * r0) - (q0 * r2)))) + (p2 * ((q0 * r1) - (q1 * r0))))) (((p0 * ((q1 * r2) - (q2 * r1))) + (p1 * ((q2 * r0) - (q0 * r2)))) + (p2 * ((q0 * r1) - (q1 * r0)))) 3000003 := (xO (k := 3000003) (xO (k := 3000002) (jP (k := 3000001) hp0 bn1 (by decide)) (jP (k := 3000001) hp1 bn2 (by decide)) (by decide)) (jP (k := 3000001) hp2 bn3 (by decide)) (by decide))
 refine kd [] [(3, some (bx (jH (jK (((p0 * ((q1 * r2) - (q2 * r1))) + (p1 * ((q2 * r0) - (q0 * r2)))) + (p2 * ((q0 * r1) - (q1 * r0))))))))] mo (wR (kA yD) <| wR (kA yD) <| wR (kA yD) <| wE (kC (l_cross q q0 q1 q2 (iu hq0) (iu hq1) (iu hq2) r r0 r1 r2 (iu hr0) (iu hr1) (iu hr2))) <| wE (kC (l_dot p p0 p1 p2 (iu hp0) (iu hp1) (iu hp2) (A3.mk (jK ((q1 * r2) - (q2 * r1))) (jK ((q2 * r0) - (q0 * r2))) (jK ((q0 * r1) - (q1 * r0)))) ((q1 * r2) - (q2 * r1)) ((q2 * r0) - (q0 * r2)) ((q0 * r1) - (q1 * r0)) (iu bn1) (iu bn2) (iu bn3))) <| wT (kR jI) <| wZ) ?_
 refine jG ⟨_, (qB (cs := (bx (jH (jK (((p0 * ((q1 * r2) - (q2 * r1))) + (p1 * ((q2 * r0) - (q0 * r2)))) + (p2 * ((q0 * r1) - (q1 * r0)))))))) (d := (jH (jK (((p0 * ((q1 * r2) - (q2 * r1))) + (p1 * ((q2 * r0) - (q0 * r2)))) + (p2 * ((q0 * r1) - (q1 * r0))))))) rfl rfl jI rfl rfl .nil), ?_⟩
 rfl
theorem l_redN (tau : Nat) (l : List jF) (zs : List Int) (hl : LOk 1000000 l zs) (hb : l.length ≤ 1000000) (hnz : vK zs = 0) : kF Tryz.prog 198 [(.sl tau 2 (List.map jH l))] (.val (.slice none 0 0)) := by
 have vD := hl.len
 refine jL Tryz.func198 rfl cb198 rfl ?_
 show uK _ _ _ _ ⟨[(0, (vl tau 2 jH l))], []⟩
 refine jA <| kx [] [] (zM <| zZ) ?_
 refine jA <| kx [(3, (.ref 0 0))] [(0, some (bx (jH (jK 0))))] (zE (kC (l_wholeI 0 (by decide) (by decide))) <| zN (qH 0 uD uE) <| zT (kR jI) <| zZ) ?_
 refine jA <| kx [(4, (kE 0))] [] (zM <| zZ) ?_
 refine jA <| jA <| kx [(14, (vl tau 2 jH l)), (15, (kE l.length)), (16, (kE 0))] [] (zM <| zE (nC vP) <| zM <| zZ) ?_
 refine jE <| uA (α := Nat × Nat × Int) (fun (i, g, s) => ⟨[(0, (vl tau 2 jH l)), (3, (.ref 0 0)), (4, (vi s)), (14, (vl tau 2 jH l)), (15, (kE l.length)), (16, (kE i))], [(0, some (bx (jH (jK ((g : Nat) : Int)))))]⟩) (fun (i, g, s) => i ≤ l.length ∧ g = gcdL (zs.take i) ∧ s = vK (zs.take i)) (fun (i, g, s) => l.length - i) (0, 0, 0) wk ⟨Nat.zero_le _, rfl, rfl⟩ ?_
 rintro ⟨i, g, s⟩ ⟨hi, hgv, hsv⟩
 have hg : kZ (jK ((g : Nat) : Int)) ((g : Nat) : Int) 1000000 := by rw [hgv]; exact iU hl.all i
 refine jA <| kx [(17, (vb (decide (((i : Nat) : Int) < ((l.length : Nat) : Int)))))] [] (zE qS <| zZ) ?_
 refine jA <| jQ rfl (fun h1 => ?_) (fun h1 => ?_)
 ·replace h1 := of_decide_eq_true h1
  refine jD <| jA <| jE <| jA <| kx [(6, (.ref 1 0))] [(1, some (bx (jH (l.getD i (jF.mk false [])))))] (zE (eP vP i (jF.mk false [])) <| zE (gZ jI) <| zN (qH 1 uD uE) <| zT (kR jI) <| zZ) ?_
  refine jA <| kx [] [(0, some (bx (jH (jK ((Int.gcd ((g : Nat) : Int) (zs.getD i 0) : Nat) : Int)))))] (zR (kA jI) <| zR (kA jI) <| zE (kC (rs_gcd hg (hl.get i) (by decide) (by decide))) <| zT (kR jI) <| zZ) ?_
  refine jA <| kx [(24, (vb (s == 0)))] [] (zM <| zE aO <| zZ) ?_
  refine jQ (b := (s == 0)) rfl (fun h2 => ?_) (fun h2 => ?_)
  ·replace h2 := eq_of_beq h2
   refine kx [(4, (vi (qX (zs.getD i 0))))] [] (zR (kA jI) <| zE (kC (aK (hl.get i) (by decide))) <| zM <| zZ) ?_
   refine kx [(16, (kE (i + 1)))] [] (zE (qQ (i + 1)) <| zM <| zZ) ?_
   exact ⟨(i + 1, Int.gcd ((g : Nat) : Int) (zs.getD i 0), qX (zs.getD i 0)), wk, ⟨by omega, by rw [hgv]; exact (fY (by omega)).symm, sgnL_step0 (by omega) hsv h2⟩, (by first | omega | (dsimp only; omega))⟩
  ·replace h2 := ne_of_beq_false h2
   refine jD <| kx [(16, (kE (i + 1)))] [] (zE (qQ (i + 1)) <| zM <| zZ) ?_
   exact ⟨(i + 1, Int.gcd ((g : Nat) : Int) (zs.getD i 0), s), wk, ⟨by omega, by rw [hgv]; exact (fY (by omega)).symm, sgnL_step1 (by omega) hsv h2⟩, (by first | omega | (dsimp only; omega))⟩
 ·replace h1 := of_decide_eq_false h1
  have hie : i = l.length := by omega
  rw [hie, vD, List.take_length] at hgv hsv
  refine kQ <| jA <| jA <| kx [(29, (vb (s == 0)))] [] (zM <| zE aO <| zZ) ?_
  refine jQ (b := (s == 0)) rfl (fun h3 => ?_) (fun h3 => ?_)
  ·replace h3 := eq_of_beq h3
   refine jA <| kx [(2, (.d (.val (.slice none 0 0))))] [] (zM <| zZ) ?_
   refine jG ⟨_, (.tmp (d := (.val (.slice none 0 0))) rfl .nil), ?_⟩
   rfl
  ·replace h3 := ne_of_beq_false h3
   exact absurd (hsv.trans hnz) h3
theorem l_red (tau : Nat) (l : List jF) (zs : List Int) (hl : LOk 1000000 l zs) (hb : l.length ≤ 1000000) (hnz : vK zs ≠ 0) : kF Tryz.prog 198 [(.sl tau 2 (List.map jH l))] (.sl 40 2 (List.map jH (List.map jK (xB zs)))) := by
 have vD := hl.len
 refine jL Tryz.func198 rfl cb198 rfl ?_
 show uK _ _ _ _ ⟨[(0, (vl tau 2 jH l))], []⟩
 refine jA <| kx [] [] (zE (oNl 40 2) <| zZ) ?_
 refine jA <| kx [(3, (.ref 0 0))] [(0, some (bx (jH (jK 0))))] (zE (kC (l_wholeI 0 (by decide) (by decide))) <| zN (qH 0 uD uE) <| zT (kR jI) <| zZ) ?_
 refine jA <| kx [(4, (kE 0))] [] (zM <| zZ) ?_
 refine jA <| jA <| kx [(14, (vl tau 2 jH l)), (15, (kE l.length)), (16, (kE 0))] [] (zM <| zE (nC vP) <| zM <| zZ) ?_
 refine jE <| uA (α := Nat × Nat × Int) (fun (i, g, s) => ⟨[(0, (vl tau 2 jH l)), (3, (.ref 0 0)), (4, (vi s)), (14, (vl tau 2 jH l)), (15, (kE l.length)), (16, (kE i))], [(0, some (bx (jH (jK ((g : Nat) : Int)))))]⟩) (fun (i, g, s) => i ≤ l.length ∧ g = gcdL (zs.take i) ∧ s = vK (zs.take i)) (fun (i, g, s) => l.length - i) (0, 0, 0) wk ⟨Nat.zero_le _, rfl, rfl⟩ ?_
 rintro ⟨i, g, s⟩ ⟨hi, hgv, hsv⟩
 have hg : kZ (jK ((g : Nat) : Int)) ((g : Nat) : Int) 1000000 := by rw [hgv]; exact iU hl.all i
 refine jA <| kx [(17, (vb (decide (((i : Nat) : Int) < ((l.length : Nat) : Int)))))] [] (zE qS <| zZ) ?_
 refine jA <| jQ rfl (fun h1 => ?_) (fun h1 => ?_)
 ·replace h1 := of_decide_eq_true h1
  refine jD <| jA <| jE <| jA <| kx [(6, (.ref 1 0))] [(1, some (bx (jH (l.getD i (jF.mk false [])))))] (zE (eP vP i (jF.mk false [])) <| zE (gZ jI) <| zN (qH 1 uD uE) <| zT (kR jI) <| zZ) ?_
  refine jA <| kx [] [(0, some (bx (jH (jK ((Int.gcd ((g : Nat) : Int) (zs.getD i 0) : Nat) : Int)))))] (zR (kA jI) <| zR (kA jI) <| zE (kC (rs_gcd hg (hl.get i) (by decide) (by decide))) <| zT (kR jI) <| zZ) ?_
  refine jA <| kx [(24, (vb (s == 0)))] [] (zM <| zE aO <| zZ) ?_
  refine jQ (b := (s == 0)) rfl (fun h2 => ?_) (fun h2 => ?_)
  ·replace h2 := eq_of_beq h2
   refine kx [(4, (vi (qX (zs.getD i 0))))] [] (zR (kA jI) <| zE (kC (aK (hl.get i) (by decide))) <| zM <| zZ) ?_
   refine kx [(16, (kE (i + 1)))] [] (zE (qQ (i + 1)) <| zM <| zZ) ?_
   exact ⟨(i + 1, Int.gcd ((g : Nat) : Int) (zs.getD i 0), qX (zs.getD i 0)), wk, ⟨by omega, by rw [hgv]; exact (fY (by omega)).symm, sgnL_step0 (by omega) hsv h2⟩, (by first | omega | (dsimp only; omega))⟩
  ·replace h2 := ne_of_beq_false h2
   refine jD <| kx [(16, (kE (i + 1)))] [] (zE (qQ (i + 1)) <| zM <| zZ) ?_
   exact ⟨(i + 1, Int.gcd ((g : Nat) : Int) (zs.getD i 0), s), wk, ⟨by omega, by rw [hgv]; exact (fY (by omega)).symm, sgnL_step1 (by omega) hsv h2⟩, (by first | omega | (dsimp only; omega))⟩
 ·replace h1 := of_decide_eq_false h1
  have hie : i = l.length := by omega
  rw [hie, vD, List.take_length] at hgv hsv
  refine kQ <| jA <| jA <| kx [(29, (vb (s == 0)))] [] (zM <| zE aO <| zZ) ?_
  refine jQ (b := (s == 0)) rfl (fun h3 => ?_) (fun h3 => ?_)
  ·replace h3 := eq_of_beq h3
   exact absurd (hsv.symm.trans h3) hnz
  ·replace h3 := ne_of_beq_false h3
   refine jD <| jA <| jA <| kx [(31, (vb (decide (s < 0))))] [] (zM <| zE qS <| zZ) ?_
   refine jQ (b := decide (s < 0)) rfl (fun h4 => ?_) (fun h4 => ?_)
   ·replace h4 := of_decide_eq_true h4
    have hdv := dv_neg hsv hgv h4
    have hd0 : (-((g : Nat) : Int)) ≠ 0 := by rw [← hdv]; exact iR hnz
    refine kx [] [(0, some (bx (jH (jK (-((g : Nat) : Int))))))] (zR (kA jI) <| zE (kC (rs_neg hg (by decide))) <| zT (kR jI) <| zZ) ?_
    refine jA <| kx [(7, (.own 2 40 2 0))] [(2, some (aH jH []))] (zN (oBo 2 vP uD uE) <| zM <| zZ) ?_
    refine jA <| jA <| kx [(35, (vl tau 2 jH l)), (36, (kE l.length)), (37, (kE 0))] [] (zM <| zE (nC vP) <| zM <| zZ) ?_
    refine jE <| uA (α := Nat × List jF) (fun (j, o) => ⟨[(3, (.ref 0 0)), (7, (.own 2 40 2 o.length)), (35, (vl tau 2 jH l)), (36, (kE l.length)), (37, (kE j))], [(0, some (bx (jH (jK (-((g : Nat) : Int)))))), (2, some (aH jH o))]⟩) (fun (j, o) => j ≤ l.length ∧ o = List.map jK ((xB zs).take j)) (fun (j, o) => l.length - j) (0, []) wk ⟨Nat.zero_le _, rfl⟩ ?_
    rintro ⟨j, o⟩ ⟨hj, hov⟩
    have hol : o.length = j := by rw [hov]; simp [xB]; omega
    refine jA <| kx [(38, (vb (decide (((j : Nat) : Int) < ((l.length : Nat) : Int)))))] [] (zE qS <| zZ) ?_
    refine jA <| jQ rfl (fun h5 => ?_) (fun h5 => ?_)
    ·replace h5 := of_decide_eq_true h5
     refine jD <| jA <| jE <| jA <| kx [(9, (.ref 3 0))] [(3, some (bx (jH (l.getD j (jF.mk false [])))))] (zE (eP vP j (jF.mk false [])) <| zE (gZ jI) <| zH (qH 3 uD uE) <| zT (kR jI) <| zZ) ?_
     refine jA <| kx [(10, (.ref 4 0))] [(4, some (bx (jH (jK ((zs.getD j 0).fdiv (-((g : Nat) : Int))))))), (5, none)] (zR (kA jI) <| zR (kA jI) <| zE (kC (fW (hl.get j) (mK hg) (by decide) (by decide) hd0)) <| zM <| zE uH <| zE uH <| zE uH <| zH (qH 4 uD uE) <| zH (qH 5 uD uE) <| zT (kR jI) <| zT (kR jI) <| zM <| zZ) ?_
     refine kf [(7, (.own 2 40 2 ((o ++ [(jK ((zs.getD j 0).fdiv (-((g : Nat) : Int))))]).length)))] [(2, some (aH jH (o ++ [(jK ((zs.getD j 0).fdiv (-((g : Nat) : Int))))])))] (zM <| zR (kA jI) <| zE (cP vP uD uE) <| zAS jH o [(jK ((zs.getD j 0).fdiv (-((g : Nat) : Int))))] rfl vP uD by40 <| zM <| zF) ?_
     refine kx [(37, (kE (j + 1)))] [] (zE (qQ (j + 1)) <| zM <| zZ) ?_
     exact ⟨(j + 1, o ++ [jK ((zs.getD j 0).fdiv (-((g : Nat) : Int)))]), wk, ⟨by omega, redL_push (by omega) hov hdv⟩, (by first | omega | (dsimp only; omega))⟩
    ·replace h5 := of_decide_eq_false h5
     have hje : j = zs.length := by omega
     rw [hje, show zs.length = (xB zs).length from (gW zs).symm, List.take_length] at hov
     subst hov
     refine kQ <| jA <| kX (xY (t := 7) (k := 2) (es := List.map jH (List.map jK (xB zs))) rfl rfl (xZ _ _ (fun _ => rfl)) (xU _ _ rfl) (cI jH (List.map jK (xB zs)) (fun _ => rfl) rfl)) ?_
     refine kx [(2, (vl 40 2 jH (List.map jK (xB zs))))] [] (zM <| zM <| zZ) ?_
     refine jG ⟨_, (.tmp (d := (.sl 40 2 (List.map jH (List.map jK (xB zs))))) rfl .nil), ?_⟩
     rfl
   ·replace h4 := of_decide_eq_false h4
    have hdv := dv_pos hsv hgv h4
    have hd0 : ((g : Nat) : Int) ≠ 0 := by rw [← hdv]; exact iR hnz
    refine jD <| jA <| kx [(7, (.own 6 40 2 0))] [(6, some (aH jH []))] (zN (oBo 6 vP uD uE) <| zM <| zZ) ?_
    refine jA <| jA <| kx [(35, (vl tau 2 jH l)), (36, (kE l.length)), (37, (kE 0))] [] (zM <| zE (nC vP) <| zM <| zZ) ?_
    refine jE <| uA (α := Nat × List jF) (fun (j, o) => ⟨[(3, (.ref 0 0)), (7, (.own 6 40 2 o.length)), (35, (vl tau 2 jH l)), (36, (kE l.length)), (37, (kE j))], [(0, some (bx (jH (jK ((g : Nat) : Int))))), (6, some (aH jH o))]⟩) (fun (j, o) => j ≤ l.length ∧ o = List.map jK ((xB zs).take j)) (fun (j, o) => l.length - j) (0, []) wk ⟨Nat.zero_le _, rfl⟩ ?_
    rintro ⟨j, o⟩ ⟨hj, hov⟩
    have hol : o.length = j := by rw [hov]; simp [xB]; omega
    refine jA <| kx [(38, (vb (decide (((j : Nat) : Int) < ((l.length : Nat) : Int)))))] [] (zE qS <| zZ) ?_
    refine jA <| jQ rfl (fun h6 => ?_) (fun h6 => ?_)
    ·replace h6 := of_decide_eq_true h6
     refine jD <| jA <| jE <| jA <| kx [(9, (.ref 7 0))] [(7, some (bx (jH (l.getD j (jF.mk false [])))))] (zE (eP vP j (jF.mk false [])) <| zE (gZ jI) <| zH (qH 7 uD uE) <| zT (kR jI) <| zZ) ?_
     refine jA <| kx [(10, (.ref 8 0))] [(8, some (bx (jH (jK ((zs.getD j 0).fdiv ((g : Nat) : Int)))))), (9, none)] (zR (kA jI) <| zR (kA jI) <| zE (kC (fW (hl.get j) hg (by decide) (by decide) hd0)) <| zM <| zE uH <| zE uH <| zE uH <| zH (qH 8 uD uE) <| zH (qH 9 uD uE) <| zT (kR jI) <| zT (kR jI) <| zM <| zZ) ?_
     refine kf [(7, (.own 6 40 2 ((o ++ [(jK ((zs.getD j 0).fdiv ((g : Nat) : Int)))]).length)))] [(6, some (aH jH (o ++ [(jK ((zs.getD j 0).fdiv ((g : Nat) : Int)))])))] (zM <| zR (kA jI) <| zE (cP vP uD uE) <| zAS jH o [(jK ((zs.getD j 0).fdiv ((g : Nat) : Int)))] rfl vP uD by40 <| zM <| zF) ?_
     refine kx [(37, (kE (j + 1)))] [] (zE (qQ (j + 1)) <| zM <| zZ) ?_
     exact ⟨(j + 1, o ++ [jK ((zs.getD j 0).fdiv ((g : Nat) : Int))]), wk, ⟨by omega, redL_push (by omega) hov hdv⟩, (by first | omega | (dsimp only; omega))⟩
    ·replace h6 := of_decide_eq_false h6
     have hje : j = zs.length := by omega
     rw [hje, show zs.length = (xB zs).length from (gW zs).symm, List.take_length] at hov
     subst hov
     refine kQ <| jA <| kX (xY (t := 7) (k := 6) (es := List.map jH (List.map jK (xB zs))) rfl rfl (xZ _ _ (fun _ => rfl)) (xU _ _ rfl) (cI jH (List.map jK (xB zs)) (fun _ => rfl) rfl)) ?_
     refine kx [(2, (vl 40 2 jH (List.map jK (xB zs))))] [] (zM <| zM <| zZ) ?_
     refine jG ⟨_, (.tmp (d := (.sl 40 2 (List.map jH (List.map jK (xB zs))))) rfl .nil), ?_⟩
     rfl
theorem l_trip (p : A3 jF) (p0 p1 p2 : Int) (hp0 : kZ p.a0 p0 1000000) (hp1 : kZ p.a1 p1 1000000) (hp2 : kZ p.a2 p2 1000000) (c0 c1 c2 : Int) (hc : xB [p0, p1, p2] = [c0, c1, c2]) (hnz : vK [p0, p1, p2] ≠ 0) : kF Tryz.prog 160 [(kS p)] (.tup [(kS (A3.mk (jK c0) (jK c1) (jK c2))), (.val (.bool (true)))]) := by
 refine jL Tryz.func160 rfl cb160 rfl ?_
 show uK _ _ _ _ ⟨[(0, (.d (kS p)))], []⟩
 refine jA <| kx [(1, (.ref 0 0)), (2, (.ref 1 0))] [(0, some (bx (kS p))), (1, some (bx (kS (A3.mk (jF.mk false []) (jF.mk false []) (jF.mk false [])))))] (zN (uX 0) <| zN (qH 1 nU nS) <| zM <| zZ) ?_
 refine jA ?_
 have bn1 : ∀ c ∈ [c0, c1, c2], kZ (jK c) c 1000000 := mZ (n := 1000000) (.cons hp0 (.cons hp1 (.cons hp2 .nil))) hc
 refine kx [(4, (vl 40 2 jH [(jK c0), (jK c1), (jK c2)]))] [] (zE (e_slv (by exact rfl) vQ (by exact rfl) (by kernel_rfl) (by kernel_rfl)) <| zR ⟨(bx (kS p)), e_clv (es := List.map jH [p.a0, p.a1, p.a2]) (by have h := l_red 1000000 [p.a0, p.a1, p.a2] [p0, p1, p2] (.cons hp0 (.cons hp1 (.cons hp2 .nil))) (Nat.le_of_ble_eq_true rfl) hnz; rw [hc] at h; exact h) (by exact rfl) (by kernel_rfl) (by exact rfl) (.v .nil) (xZ _ _ (fun _ => rfl)) (by kernel_rfl) (by kernel_rfl) (avo_sl_40 (by decide) (by decide) _), by kernel_rfl⟩ <| zM <| zZ) ?_
 refine jA <| jA <| kx [(8, (vb false))] [] (zM <| zE (oNf vP) <| zZ) ?_
 refine kO ?_
 refine jD <| jA <| kx [(3, (vb true))] [(1, some (bx (kS (A3.mk (jK c0) (jK c1) (jK c2)))))] (zM <| zE (e_sap (cs := (qF.cells (kS (A3.mk (jK c0) (jK c1) (jK c2))))) (by exact rfl) vQ (by exact rfl) (by kernel_rfl) (by kernel_rfl) (by kernel_rfl)) <| zE (gZ yD) <| zT (kR yD) <| zM <| zZ) ?_
 refine jG ⟨_, (qB (cs := (bx (kS (A3.mk (jK c0) (jK c1) (jK c2))))) (d := (kS (A3.mk (jK c0) (jK c1) (jK c2)))) rfl rfl yD rfl rfl (.tmp (d := (.val (.bool (true)))) rfl .nil)), ?_⟩
 rfl
theorem l_plainV (tau : Nat) (l : List jF) (zs : List Int) (hl : LOk 1000000 l zs) (hb : l.length ≤ 1000000) (hv : List.all l uG = false) : kF Tryz.prog 156 [(.sl tau 2 (List.map jH l))] (.val (.bool (false))) := by
 refine jL Tryz.func156 rfl cb156 rfl ?_
 show uK _ _ _ _ ⟨[(0, (vl tau 2 jH l))], []⟩
 refine jA <| kx [] [] (zM <| zZ) ?_
 refine jA <| jA <| kx [(7, (vl tau 2 jH l)), (8, (kE l.length)), (9, (kE 0))] [] (zM <| zE (nC vP) <| zM <| zZ) ?_
 refine jE <| uA (α := Nat) (fun i => ⟨[(0, (vl tau 2 jH l)), (7, (vl tau 2 jH l)), (8, (kE l.length)), (9, (kE i))], []⟩) (fun i => i ≤ l.length ∧ (l.take i).all uG = true) (fun i => l.length - i) 0 wk ⟨Nat.zero_le _, by simp⟩ ?_
 rintro i ⟨hi, hal⟩
 refine jA <| kx [(10, (vb (decide (((i : Nat) : Int) < ((l.length : Nat) : Int)))))] [] (zE qS <| zZ) ?_
 refine jA <| jQ rfl (fun h1 => ?_) (fun h1 => ?_)
 ·replace h1 := of_decide_eq_true h1
  refine jD <| jA <| jE <| jA <| kx [(4, (.ref 0 0))] [(0, some (bx (jH (l.getD i (jF.mk false [])))))] (zE (eP vP i (jF.mk false [])) <| zE (gZ jI) <| zN (qH 0 uD uE) <| zT (kR jI) <| zZ) ?_
  refine jA <| kx [(15, (vb (!(uG (l.getD i (jF.mk false []))))))] [] (zR (kA jI) <| zE (kC (lD (l.getD i (jF.mk false [])) (Nat.le_trans (hl.get i).l (by decide)))) <| zE eX <| zZ) ?_
  refine jQ (b := !(uG (l.getD i (jF.mk false [])))) rfl (fun h2 => ?_) (fun h2 => ?_)
  ·refine jA <| kx [(2, (vb false))] [] (zM <| zZ) ?_
   refine jG ⟨_, (.tmp (d := (.val (.bool (false)))) rfl .nil), ?_⟩
   rfl
  ·refine jD <| kx [(9, (kE (i + 1)))] [] (zE (qQ (i + 1)) <| zM <| zZ) ?_
   exact ⟨(i + 1), wk, ⟨by omega, all_take (d := ⟨false, []⟩) (by omega) hal (by simpa using h2)⟩, (by first | omega | (dsimp only; omega))⟩
 ·replace h1 := of_decide_eq_false h1
  exfalso; have hie : i = l.length := (by omega); rw [hie, List.take_length, hv] at hal; cases hal
theorem l_plain0 (tau : Nat) (l : List jF) (zs : List Int) (hl : LOk 1000000 l zs) (hb : l.length ≤ 1000000) (hv : List.all l uG = true) (hz : vK zs = 0) : kF Tryz.prog 156 [(.sl tau 2 (List.map jH l))] (.val (.bool (false))) := by
 refine jL Tryz.func156 rfl cb156 rfl ?_
 show uK _ _ _ _ ⟨[(0, (vl tau 2 jH l))], []⟩
 refine jA <| kx [] [] (zM <| zZ) ?_
 refine jA <| jA <| kx [(7, (vl tau 2 jH l)), (8, (kE l.length)), (9, (kE 0))] [] (zM <| zE (nC vP) <| zM <| zZ) ?_
 refine jE <| uA (α := Nat) (fun i => ⟨[(0, (vl tau 2 jH l)), (7, (vl tau 2 jH l)), (8, (kE l.length)), (9, (kE i))], []⟩) (fun i => i ≤ l.length) (fun i => l.length - i) 0 wk (Nat.zero_le _) ?_
 rintro i hi
 refine jA <| kx [(10, (vb (decide (((i : Nat) : Int) < ((l.length : Nat) : Int)))))] [] (zE qS <| zZ) ?_
 refine jA <| jQ rfl (fun h1 => ?_) (fun h1 => ?_)
 ·replace h1 := of_decide_eq_true h1
  refine jD <| jA <| jE <| jA <| kx [(4, (.ref 0 0))] [(0, some (bx (jH (l.getD i (jF.mk false [])))))] (zE (eP vP i (jF.mk false [])) <| zE (gZ jI) <| zN (qH 0 uD uE) <| zT (kR jI) <| zZ) ?_
  refine jA <| kx [(15, (vb false))] [] (zR (kA jI) <| zE (qY true (kC (lD (l.getD i (jF.mk false [])) (Nat.le_trans (hl.get i).l (by decide)))) (by exact (all_getD hv (by omega)))) <| zE eX <| zZ) ?_
  refine kO ?_
  refine jD <| kx [(9, (kE (i + 1)))] [] (zE (qQ (i + 1)) <| zM <| zZ) ?_
  exact ⟨(i + 1), wk, (by show i + 1 ≤ l.length; omega), (by first | omega | (dsimp only; omega))⟩
 ·replace h1 := of_decide_eq_false h1
  refine kQ <| jA <| kx [(5, (.d (.val (.slice none 0 0))))] [] (zM <| zE (kC (l_redN tau l zs hl hb hz)) <| zM <| zZ) ?_
  refine jA <| jA <| kx [(20, (vb true))] [] (zM <| zE (oNu vP) <| zZ) ?_
  refine kD ?_
  refine jA <| kx [(2, (vb false))] [] (zM <| zZ) ?_
  refine jG ⟨_, (.tmp (d := (.val (.bool (false)))) rfl .nil), ?_⟩
  rfl
theorem l_plainT (tau : Nat) (l : List jF) (zs : List Int) (hl : LOk 1000000 l zs) (hb : l.length ≤ 1000000) (hv : List.all l uG = true) (hnz : vK zs ≠ 0) (hd : nF zs = 1) : kF Tryz.prog 156 [(.sl tau 2 (List.map jH l))] (.val (.bool (true))) := by
 have vD := hl.len
 have hpos := sgnL_pos hnz
 refine jL Tryz.func156 rfl cb156 rfl ?_
 show uK _ _ _ _ ⟨[(0, (vl tau 2 jH l))], []⟩
 refine jA <| kx [] [] (zM <| zZ) ?_
 refine jA <| jA <| kx [(7, (vl tau 2 jH l)), (8, (kE l.length)), (9, (kE 0))] [] (zM <| zE (nC vP) <| zM <| zZ) ?_
 refine jE <| uA (α := Nat) (fun i => ⟨[(0, (vl tau 2 jH l)), (7, (vl tau 2 jH l)), (8, (kE l.length)), (9, (kE i))], []⟩) (fun i => i ≤ l.length) (fun i => l.length - i) 0 wk (Nat.zero_le _) ?_
 rintro i hi
 refine jA <| kx [(10, (vb (decide (((i : Nat) : Int) < ((l.length : Nat) : Int)))))] [] (zE qS <| zZ) ?_
 refine jA <| jQ rfl (fun h1 => ?_) (fun h1 => ?_)
 ·replace h1 := of_decide_eq_true h1
  refine jD <| jA <| jE <| jA <| kx [(4, (.ref 0 0))] [(0, some (bx (jH (l.getD i (jF.mk false [])))))] (zE (eP vP i (jF.mk false [])) <| zE (gZ jI) <| zN (qH 0 uD uE) <| zT (kR jI) <| zZ) ?_
  refine jA <| kx [(15, (vb false))] [] (zR (kA jI) <| zE (qY true (kC (lD (l.getD i (jF.mk false [])) (Nat.le_trans (hl.get i).l (by decide)))) (by exact (all_getD hv (by omega)))) <| zE eX <| zZ) ?_
  refine kO ?_
  refine jD <| kx [(9, (kE (i + 1)))] [] (zE (qQ (i + 1)) <| zM <| zZ) ?_
  exact ⟨(i + 1), wk, (by show i + 1 ≤ l.length; omega), (by first | omega | (dsimp only; omega))⟩
 ·replace h1 := of_decide_eq_false h1
  refine kQ <| jA <| kx [(5, (vl 40 2 jH (List.map jK (xB zs))))] [] (zM <| zE (kC (l_red tau l zs hl hb hnz)) <| zM <| zZ) ?_
  refine jA <| jA <| kx [(20, (vb false))] [] (zM <| zE (oNf vP (hl := by exact (by simp [xB]; omega))) <| zZ) ?_
  refine kO ?_
  refine jD <| jA <| jA <| kx [(22, (kE l.length)), (23, (kE 0))] [] (zM <| zE (nC vP) <| zM <| zZ) ?_
  refine jE <| uA (α := Nat) (fun i => ⟨[(0, (vl tau 2 jH l)), (5, (vl 40 2 jH (List.map jK (xB zs)))), (22, (kE l.length)), (23, (kE i))], []⟩) (fun i => i ≤ l.length) (fun i => l.length - i) 0 wk (Nat.zero_le _) ?_
  rintro i hi
  refine jA <| kx [(24, (vb (decide (((i : Nat) : Int) < ((l.length : Nat) : Int)))))] [] (zE qS <| zZ) ?_
  refine jA <| jQ rfl (fun h2 => ?_) (fun h2 => ?_)
  ·replace h2 := of_decide_eq_true h2
   refine jD <| jA <| jE <| jA <| kx [(6, (kE i))] [] (zM <| zM <| zZ) ?_
   refine jA <| kd [(35, (vb false))] [] mo (wM <| wM <| wE (eP vP i (jF.mk false [])) <| wE (gZ jI) <| wM <| wM <| wE (eP vP i (jF.mk false []) (L := (List.map jK (xB zs))) (hj := by first | omega | (rw [List.length_map, gW]; omega)) (h1 := by first | omega | (rw [List.length_map, gW]; omega))) <| wE (gZ jI) <| wE (qY true (kC (r_same (l.getD i (jF.mk false [])) ((List.map jK (xB zs)).getD i (jF.mk false [])) (Nat.le_trans (hl.get i).l (by decide)) (Nat.le_trans (redL_iok hl i).l (by decide)))) (by exact (plain_same hl hv hd (by omega)))) <| wE eX <| wZ) ?_
   refine kO ?_
   refine jD <| kx [(23, (kE (i + 1)))] [] (zE (qQ (i + 1)) <| zM <| zZ) ?_
   exact ⟨(i + 1), wk, (by show i + 1 ≤ l.length; omega), (by first | omega | (dsimp only; omega))⟩
  ·replace h2 := of_decide_eq_false h2
   refine kQ <| jA <| kx [(2, (vb true))] [] (zM <| zZ) ?_
   refine jG ⟨_, (.tmp (d := (.val (.bool (true)))) rfl .nil), ?_⟩
   rfl
theorem l_plainF (tau : Nat) (l : List jF) (zs : List Int) (hl : LOk 1000000 l zs) (hb : l.length ≤ 1000000) (hv : List.all l uG = true) (hnz : vK zs ≠ 0) (hd : nF zs ≠ 1) : kF Tryz.prog 156 [(.sl tau 2 (List.map jH l))] (.val (.bool (false))) := by
 have vD := hl.len
 have hpos := sgnL_pos hnz
 refine jL Tryz.func156 rfl cb156 rfl ?_
 show uK _ _ _ _ ⟨[(0, (vl tau 2 jH l))], []⟩
 refine jA <| kx [] [] (zM <| zZ) ?_
 refine jA <| jA <| kx [(7, (vl tau 2 jH l)), (8, (kE l.length)), (9, (kE 0))] [] (zM <| zE (nC vP) <| zM <| zZ) ?_
 refine jE <| uA (α := Nat) (fun i => ⟨[(0, (vl tau 2 jH l)), (7, (vl tau 2 jH l)), (8, (kE l.length)), (9, (kE i))], []⟩) (fun i => i ≤ l.length) (fun i => l.length - i) 0 wk (Nat.zero_le _) ?_
 rintro i hi
 refine jA <| kx [(10, (vb (decide (((i : Nat) : Int) < ((l.length : Nat) : Int)))))] [] (zE qS <| zZ) ?_
 refine jA <| jQ rfl (fun h1 => ?_) (fun h1 => ?_)
 ·replace h1 := of_decide_eq_true h1
  refine jD <| jA <| jE <| jA <| kx [(4, (.ref 0 0))] [(0, some (bx (jH (l.getD i (jF.mk false [])))))] (zE (eP vP i (jF.mk false [])) <| zE (gZ jI) <| zN (qH 0 uD uE) <| zT (kR jI) <| zZ) ?_
  refine jA <| kx [(15, (vb false))] [] (zR (kA jI) <| zE (qY true (kC (lD (l.getD i (jF.mk false [])) (Nat.le_trans (hl.get i).l (by decide)))) (by exact (all_getD hv (by omega)))) <| zE eX <| zZ) ?_
  refine kO ?_
  refine jD <| kx [(9, (kE (i + 1)))] [] (zE (qQ (i + 1)) <| zM <| zZ) ?_
  exact ⟨(i + 1), wk, (by show i + 1 ≤ l.length; omega), (by first | omega | (dsimp only; omega))⟩
 ·replace h1 := of_decide_eq_false h1
  refine kQ <| jA <| kx [(5, (vl 40 2 jH (List.map jK (xB zs))))] [] (zM <| zE (kC (l_red tau l zs hl hb hnz)) <| zM <| zZ) ?_
  refine jA <| jA <| kx [(20, (vb false))] [] (zM <| zE (oNf vP (hl := by exact (by simp [xB]; omega))) <| zZ) ?_
  refine kO ?_
  refine jD <| jA <| jA <| kx [(22, (kE l.length)), (23, (kE 0))] [] (zM <| zE (nC vP) <| zM <| zZ) ?_
  refine jE <| uA (α := Nat) (fun i => ⟨[(0, (vl tau 2 jH l)), (5, (vl 40 2 jH (List.map jK (xB zs)))), (22, (kE l.length)), (23, (kE i))], []⟩) (fun i => i ≤ l.length ∧ l.take i = (List.map jK (xB zs)).take i) (fun i => l.length - i) 0 wk ⟨Nat.zero_le _, by simp⟩ ?_
  rintro i ⟨hi, hal⟩
  refine jA <| kx [(24, (vb (decide (((i : Nat) : Int) < ((l.length : Nat) : Int)))))] [] (zE qS <| zZ) ?_
  refine jA <| jQ rfl (fun h2 => ?_) (fun h2 => ?_)
  ·replace h2 := of_decide_eq_true h2
   refine jD <| jA <| jE <| jA <| kx [(6, (kE i))] [] (zM <| zM <| zZ) ?_
   refine jA <| kd [(35, (vb (!(sameI (l.getD i (jF.mk false [])) ((List.map jK (xB zs)).getD i (jF.mk false []))))))] [] mo (wM <| wM <| wE (eP vP i (jF.mk false [])) <| wE (gZ jI) <| wM <| wM <| wE (eP vP i (jF.mk false []) (L := (List.map jK (xB zs))) (hj := by first | omega | (rw [List.length_map, gW]; omega)) (h1 := by first | omega | (rw [List.length_map, gW]; omega))) <| wE (gZ jI) <| wE (kC (r_same (l.getD i (jF.mk false [])) ((List.map jK (xB zs)).getD i (jF.mk false [])) (Nat.le_trans (hl.get i).l (by decide)) (Nat.le_trans (redL_iok hl i).l (by decide)))) <| wE eX <| wZ) ?_
   refine jQ rfl (fun h3 => ?_) (fun h3 => ?_)
   ·refine jA <| kx [(2, (vb false))] [] (zM <| zZ) ?_
    refine jG ⟨_, (.tmp (d := (.val (.bool (false)))) rfl .nil), ?_⟩
    rfl
   ·refine jD <| kx [(23, (kE (i + 1)))] [] (zE (qQ (i + 1)) <| zM <| zZ) ?_
    exact ⟨(i + 1), wk, ⟨by omega, plain_step (by omega) (by rw [List.length_map, gW]; omega) hal (by simpa using h3)⟩, (by first | omega | (dsimp only; omega))⟩
  ·replace h2 := of_decide_eq_false h2
   exfalso; have hie : i = l.length := (by omega); exact hd (plain_end hl hnz (by rw [hie] at hal; exact hal))
theorem l_plain (tau : Nat) (l : List jF) (zs : List Int) (hl : LOk 1000000 l zs) (hb : l.length ≤ 1000000) : kF Tryz.prog 156 [.sl tau 2 (List.map jH l)] (.val (.bool (bZ l))) := by
 rcases hv : List.all l uG with _ | _
 ·have h := l_plainV tau l zs hl hb hv
  rw [show bZ l = false from by unfold bZ; rw [hv]; rfl]; exact h
 by_cases hz : vK zs = 0
 ·rw [show bZ l = false from by rw [redB_eq hl hv, hz]; rfl]; exact l_plain0 tau l zs hl hb hv hz
 by_cases hd : nF zs = 1
 ·rw [show bZ l = true from redB_yes hl hv hz hd]; exact l_plainT tau l zs hl hb hv hz hd
 ·rw [show bZ l = false from redB_no hl hd]; exact l_plainF tau l zs hl hb hv hz hd
theorem l_valid (h : A9 jF) (h0 h1 h2 h3 h4 h5 h6 h7 h8 : Int) (hh0 : kZ h.a0 h0 1000000) (hh1 : kZ h.a1 h1 1000000) (hh2 : kZ h.a2 h2 1000000) (hh3 : kZ h.a3 h3 1000000) (hh4 : kZ h.a4 h4 1000000) (hh5 : kZ h.a5 h5 1000000) (hh6 : kZ h.a6 h6 1000000) (hh7 : kZ h.a7 h7 1000000) (hh8 : kZ h.a8 h8 1000000) : kF Tryz.prog 113 [(qL h)] (.val (.bool ((valH [h.a0, h.a1, h.a2, h.a3, h.a4, h.a5, h.a6, h.a7, h.a8] (gN h0 h1 h2 h3 h4 h5 h6 h7 h8))))) := by
 refine jL Tryz.func113 rfl cb113 rfl ?_
 show uK _ _ _ _ ⟨[(0, (.d (qL h)))], []⟩
 refine jA <| kx [(1, (.ref 0 0))] [(0, some (bx (qL h)))] (zN (uX 0) <| zM <| zZ) ?_
 refine jA ?_
 have bn1 : kZ (jK (gN h0 h1 h2 h3 h4 h5 h6 h7 h8)) (gN h0 h1 h2 h3 h4 h5 h6 h7 h8) 3000003 := (iok_det3 (n := 1000000) (k := 3000003) hh0 hh1 hh2 hh3 hh4 hh5 hh6 hh7 hh8 (by decide))
 refine kd [(2, (vb ((bZ [h.a0, h.a1, h.a2, h.a3, h.a4, h.a5, h.a6, h.a7, h.a8]) && !(qX (gN h0 h1 h2 h3 h4 h5 h6 h7 h8) == 0))))] [] mo ?_ ?_
 ·refine wE (e_slv (by exact rfl) yY (by exact rfl) (by kernel_rfl) (by kernel_rfl)) <| wR ⟨(bx (qL h)), e_clv (es := List.map jH [h.a0, h.a1, h.a2, h.a3, h.a4, h.a5, h.a6, h.a7, h.a8]) (l_plain 1000000 [h.a0, h.a1, h.a2, h.a3, h.a4, h.a5, h.a6, h.a7, h.a8] [h0, h1, h2, h3, h4, h5, h6, h7, h8] (.cons hh0 (.cons hh1 (.cons hh2 (.cons hh3 (.cons hh4 (.cons hh5 (.cons hh6 (.cons hh7 (.cons hh8 .nil))))))))) (Nat.le_of_ble_eq_true rfl)) (by exact rfl) (by kernel_rfl) (by exact rfl) (.v .nil) (xZ _ _ (fun _ => rfl)) (by kernel_rfl) (by kernel_rfl) (.val _), by kernel_rfl⟩ <| wE (oV (vb (bZ [h.a0, h.a1, h.a2, h.a3, h.a4, h.a5, h.a6, h.a7, h.a8])) (xD (by kernel_rfl))) <| ?_
  rcases hb1 : (bZ [h.a0, h.a1, h.a2, h.a3, h.a4, h.a5, h.a6, h.a7, h.a8]) with _ | _
  ·exact wK <| wK <| wK <| wK <| wK <| wK <| wK <| wK <| wK <| wE fC <| wM <| wZ
  ·exact wR (kA mI) <| wE (kC (l_row0 h h0 h1 h2 h3 h4 h5 h6 h7 h8 (iu hh0) (iu hh1) (iu hh2) (iu hh3) (iu hh4) (iu hh5) (iu hh6) (iu hh7) (iu hh8))) <| wR (kA mI) <| wE (kC (l_row1 h h0 h1 h2 h3 h4 h5 h6 h7 h8 (iu hh0) (iu hh1) (iu hh2) (iu hh3) (iu hh4) (iu hh5) (iu hh6) (iu hh7) (iu hh8))) <| wR (kA mI) <| wE (kC (l_row2 h h0 h1 h2 h3 h4 h5 h6 h7 h8 (iu hh0) (iu hh1) (iu hh2) (iu hh3) (iu hh4) (iu hh5) (iu hh6) (iu hh7) (iu hh8))) <| wE (kC (l_det (A3.mk h.a0 h.a1 h.a2) h0 h1 h2 hh0 hh1 hh2 (A3.mk h.a3 h.a4 h.a5) h3 h4 h5 hh3 hh4 hh5 (A3.mk h.a6 h.a7 h.a8) h6 h7 h8 hh6 hh7 hh8)) <| wE (kC (l_zero (jK (gN h0 h1 h2 h3 h4 h5 h6 h7 h8)) (gN h0 h1 h2 h3 h4 h5 h6 h7 h8) (iu bn1))) <| wE eX <| wE oPa <| wM <| wZ
 refine jG ⟨_, (.tmp (d := (.val (.bool (((bZ [h.a0, h.a1, h.a2, h.a3, h.a4, h.a5, h.a6, h.a7, h.a8]) && !(qX (gN h0 h1 h2 h3 h4 h5 h6 h7 h8) == 0)))))) rfl .nil), ?_⟩
 rfl
end Go.Proofs.YtbecgnplakngdaaGreat
set_option linter.unusedVariables false
set_option linter.unusedSimpArgs false
namespace Go.Fid
theorem sgnL_zero {zs : List Int} : vK zs = 0 ↔ ∀ z ∈ zs, z = 0 := by
  constructor
  · intro h z hz
    rcases Int.decEq z 0 with h0 | h0
    · exact absurd h (sgnL_of hz h0)
    · exact h0
  · intro h
    rcases Int.decEq (vK zs) 0 with h0 | h0
    · obtain ⟨z, hz, h1⟩ := sgnL_ne h0
      exact absurd (h z hz) h1
    · exact h0
theorem sgn3_zero {a b c : Int} : vK [a, b, c] = 0 ↔ a = 0 ∧ b = 0 ∧ c = 0 := by rw [sgnL_zero]; simp
theorem mul_zero_of {d z : Int} (hd : d ≠ 0) (h : d * z = 0) : z = 0 := by
  rcases Int.mul_eq_zero.1 h with h | h
  · exact absurd h hd
  · exact h
theorem app_nz {h0 h1 h2 h3 h4 h5 h6 h7 h8 p0 p1 p2 : Int} (hd : gN h0 h1 h2 h3 h4 h5 h6 h7 h8 ≠ 0) (hp : vK [p0, p1, p2] ≠ 0) :
    vK [h0 * p0 + h1 * p1 + h2 * p2, h3 * p0 + h4 * p1 + h5 * p2, h6 * p0 + h7 * p1 + h8 * p2] ≠ 0 := fun e => by
  obtain ⟨e0, e1, e2⟩ := sgn3_zero.1 e
  refine hp (sgn3_zero.2 ⟨mul_zero_of hd ?_, mul_zero_of hd ?_, mul_zero_of hd ?_⟩)
  · have : gN h0 h1 h2 h3 h4 h5 h6 h7 h8 * p0 = (h4 * h8 - h5 * h7) * (h0 * p0 + h1 * p1 + h2 * p2) + (h2 * h7 - h1 * h8) * (h3 * p0 + h4 * p1 + h5 * p2) + (h1 * h5 - h2 * h4) * (h6 * p0 + h7 * p1 + h8 * p2) := by unfold gN; grind
    rw [this, e0, e1, e2]; simp
  · have : gN h0 h1 h2 h3 h4 h5 h6 h7 h8 * p1 = (h5 * h6 - h3 * h8) * (h0 * p0 + h1 * p1 + h2 * p2) + (h0 * h8 - h2 * h6) * (h3 * p0 + h4 * p1 + h5 * p2) + (h2 * h3 - h0 * h5) * (h6 * p0 + h7 * p1 + h8 * p2) := by unfold gN; grind
    rw [this, e0, e1, e2]; simp
  · have : gN h0 h1 h2 h3 h4 h5 h6 h7 h8 * p2 = (h3 * h7 - h4 * h6) * (h0 * p0 + h1 * p1 + h2 * p2) + (h1 * h6 - h0 * h7) * (h3 * p0 + h4 * p1 + h5 * p2) + (h0 * h4 - h1 * h3) * (h6 * p0 + h7 * p1 + h8 * p2) := by unfold gN; grind
    rw [this, e0, e1, e2]; simp
theorem red3_back {z0 z1 z2 c0 c1 c2 : Int} (hnz : vK [z0, z1, z2] ≠ 0) (hc : xB [z0, z1, z2] = [c0, c1, c2]) : ∃ d : Int, d ≠ 0 ∧ z0 = d * c0 ∧ z1 = d * c1 ∧ z2 = d * c2 ∧ vK [c0, c1, c2] ≠ 0 ∧ nF [c0, c1, c2] = 1 := by
  refine ⟨nF [z0, z1, z2], iR hnz, ?_⟩
  have h1 := redL_back hnz
  rw [hc] at h1
  simp only [List.map_cons, List.map_nil, List.cons.injEq, and_true] at h1
  exact ⟨h1.1.symm, h1.2.1.symm, h1.2.2.symm, hc ▸ redL_ne hnz, hc ▸ dvL_red hnz⟩
end Go.Fid
set_option linter.unusedVariables false
set_option linter.unusedSimpArgs false
namespace Go.Fid
theorem red_back {zs cs : List Int} (hnz : vK zs ≠ 0) (hc : xB zs = cs) : ∃ d : Int, d ≠ 0 ∧ cs.map (d * ·) = zs ∧ vK cs ≠ 0 ∧ nF cs = 1 :=
  ⟨nF zs, iR hnz, hc ▸ redL_back hnz, hc ▸ redL_ne hnz, hc ▸ dvL_red hnz⟩
theorem det_nz9 {z0 z1 z2 z3 z4 z5 z6 z7 z8 : Int} (hd : gN z0 z1 z2 z3 z4 z5 z6 z7 z8 ≠ 0) : vK [z0, z1, z2, z3, z4, z5, z6, z7, z8] ≠ 0 := fun e => by
  have h := sgnL_zero.1 e
  simp only [List.mem_cons, List.not_mem_nil, or_false, forall_eq_or_imp, forall_eq] at h
  obtain ⟨a0, a1, a2, a3, a4, a5, a6, a7, a8⟩ := h
  exact hd (by rw [a0, a1, a2]; simp [gN])
theorem red9 {z0 z1 z2 z3 z4 z5 z6 z7 z8 c0 c1 c2 c3 c4 c5 c6 c7 c8 : Int} (hd : gN z0 z1 z2 z3 z4 z5 z6 z7 z8 ≠ 0) (hc : xB [z0, z1, z2, z3, z4, z5, z6, z7, z8] = [c0, c1, c2, c3, c4, c5, c6, c7, c8]) :
    ∃ d : Int, d ≠ 0 ∧ (d * c0 = z0 ∧ d * c1 = z1 ∧ d * c2 = z2 ∧ d * c3 = z3 ∧ d * c4 = z4 ∧ d * c5 = z5 ∧ d * c6 = z6 ∧ d * c7 = z7 ∧ d * c8 = z8) ∧ gN c0 c1 c2 c3 c4 c5 c6 c7 c8 ≠ 0 ∧
      valH [jK c0, jK c1, jK c2, jK c3, jK c4, jK c5, jK c6, jK c7, jK c8] (gN c0 c1 c2 c3 c4 c5 c6 c7 c8) = true := by
  obtain ⟨d, h0, h1, h2, h3⟩ := red_back (det_nz9 hd) hc
  simp only [List.map_cons, List.map_nil, List.cons.injEq, and_true] at h1
  obtain ⟨a0, a1, a2, a3, a4, a5, a6, a7, a8⟩ := h1
  have hn : gN c0 c1 c2 c3 c4 c5 c6 c7 c8 ≠ 0 := fun e => hd (by
    rw [← a0, ← a1, ← a2, ← a3, ← a4, ← a5, ← a6, ← a7, ← a8]
    have : gN (d * c0) (d * c1) (d * c2) (d * c3) (d * c4) (d * c5) (d * c6) (d * c7) (d * c8) = d * d * d * gN c0 c1 c2 c3 c4 c5 c6 c7 c8 := by unfold gN; grind
    rw [this, e, Int.mul_zero])
  exact ⟨d, h0, ⟨a0, a1, a2, a3, a4, a5, a6, a7, a8⟩, hn, valH_closed [c0, c1, c2, c3, c4, c5, c6, c7, c8] _ ⟨⟨h2, h3⟩, eK hn⟩⟩
end Go.Fid
set_option linter.unusedVariables false
set_option linter.unusedSimpArgs false
namespace Go.Fid
theorem den_pos (u : Rat) : ((u.den : Nat) : Int) ≠ 0 := by have := u.den_pos; omega
theorem point_nz (u v : Rat) : vK [u.num * (v.den : Int), v.num * (u.den : Int), (u.den : Int) * (v.den : Int)] ≠ 0 :=
  sgnL_of (z := (u.den : Int) * (v.den : Int)) (by simp) (Int.mul_ne_zero (den_pos u) (den_pos v))
end Go.Fid
