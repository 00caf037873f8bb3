/- Part 11 of a proof: rules, plain facts, and functions walked. -/
import Derived.Test.YtbecgnplakngdaaGreatM10
import Derived.Test.YtbecgnplakngdaaGreatM8
import Derived.Test.YtbecgnplakngdaaGreatM9
import Derived.Test.YtbecgnplakngdaaGreatM4
namespace Go.Proofs.YtbecgnplakngdaaGreat
open Go.Fid
set_option maxRecDepth 4000
set_option linter.unusedVariables false
set_option linter.unusedSimpArgs false
theorem by40 : nO Tryz.prog 40 = some 32 := by kernel_rfl
theorem cb113 : callB Tryz.prog 113 = true := by kernel_rfl
theorem cb115 : callB Tryz.prog 115 = true := by kernel_rfl
theorem cb156 : callB Tryz.prog 156 = true := by kernel_rfl
theorem cb157 : callB Tryz.prog 157 = true := by kernel_rfl
theorem cb158 : callB Tryz.prog 158 = true := by kernel_rfl
theorem cb160 : callB Tryz.prog 160 = true := by kernel_rfl
theorem cb198 : callB Tryz.prog 198 = true := by kernel_rfl
theorem cb199 : callB Tryz.prog 199 = true := by kernel_rfl
theorem cb216 : callB Tryz.prog 216 = true := by kernel_rfl
theorem r_same (x y : jF) (hx : x.gs.length ≤ 1099511627776) (hy : y.gs.length ≤ 1099511627776) : kF Tryz.prog 199 [(jH x), (jH y)] (.val (.bool ((sameI x y)))) := by
 refine jL Tryz.func199 rfl cb199 rfl ?_
 show uK _ _ _ _ ⟨[(0, (.d (jH x))), (1, (.d (jH y)))], []⟩
 refine jA <| kx [(2, (.ref 0 0)), (3, (.ref 1 0))] [(0, some (bx (jH x))), (1, some (bx (jH y)))] (zN (uX 0) <| zN (uX 1) <| zM <| zZ) ?_
 refine jA <| jA <| kx [(19, (vb (!(x.neg == y.neg) || (((x.gs.length : Nat) : Int) != ((y.gs.length : Nat) : Int)))))] [] ?_ ?_
 ·refine zE (kU uT) <| zR (uM eL) <| zE (kU uT) <| zR (uM eL) <| zE (oNb bo4) <| zE (oV (vb (!(x.neg == y.neg))) (xD (by kernel_rfl))) <| ?_
  rcases hb1 : (!(x.neg == y.neg)) with _ | _
  ·exact zE (kU uS) <| zR (uM xI) <| zE (nC kV) <| zE (kU uS) <| zR (uM xI) <| zE (nC kV) <| zE mR <| zE oPo <| zZ
  ·exact zK <| zK <| zK <| zK <| zK <| zK <| zK <| zE bD <| zZ
 refine jQ rfl (fun h2 => ?_) (fun h2 => ?_)
 ·refine jA <| kx [(4, (vb false))] [] (zM <| zZ) ?_
  refine jG ⟨_, (.tmp (d := (.val (.bool (false)))) rfl .nil), ?_⟩
  rw [same_no1 h2]; rfl
 ·obtain ⟨hn1, hn2⟩ := same_head h2
  refine jD <| jA <| jA <| kx [(5, (kE 0))] [] (zM <| zZ) ?_
  refine jE <| uB (α := Nat) (fun i => ⟨[(2, (.ref 0 0)), (3, (.ref 1 0)), (5, (kE i))], [(0, some (bx (jH x))), (1, some (bx (jH y)))]⟩) (fun i => i ≤ x.gs.length ∧ x.gs.take i = y.gs.take i) (fun i => x.gs.length - i) 0 wk ⟨Nat.zero_le _, by simp⟩ ?_
  rintro i ⟨hi, hv⟩
  refine jA <| jA <| kx [(24, (vb (decide (((i : Nat) : Int) < ((x.gs.length : Nat) : Int)))))] [] (zM <| zE (kU uS) <| zR (uM xI) <| zE (nC kV) <| zE qS <| zZ) ?_
  refine jQ rfl (fun h3 => ?_) (fun h3 => ?_)
  ·replace h3 := of_decide_eq_true h3
   refine jD <| jA <| jE <| jA <| kd [(37, (vb ((((x.gs.getD i 0) : Nat) : Int) != (((y.gs.getD i 0) : Nat) : Int))))] [] mo (wE (kU uS) <| wR (uM xI) <| wM <| wE (eK kV i (0 : Nat)) <| wE (yL uR) <| wE (kU uS) <| wR (uM xI) <| wM <| wE (eK kV i (0 : Nat)) <| wE (yL uR) <| wE mR <| wZ) ?_
   refine jQ rfl (fun h4 => ?_) (fun h4 => ?_)
   ·replace h4 := bne_iff_ne.1 h4
    refine jA <| kx [(4, (vb false))] [] (zM <| zZ) ?_
    refine jG ⟨_, (.tmp (d := (.val (.bool (false)))) rfl .nil), ?_⟩
    rw [same_no2 (by omega) h4]; rfl
   ·replace h4 := bne_eq_false_iff_eq.1 h4
    refine jD <| kx [(5, (kE (i + 1)))] [] (zM <| zE (qQ (i + 1)) <| zM <| zZ) ?_
    exact ⟨(i + 1), wk, ⟨by omega, take_same (by omega) (by omega) hv h4⟩, (by first | omega | (dsimp only; omega))⟩
  ·replace h3 := of_decide_eq_false h3
   have hie : i = x.gs.length := by omega
   rw [hie, List.take_length] at hv
   rw [List.take_of_length_le (by omega)] at hv
   refine kQ <| jA <| kx [(4, (vb true))] [] (zM <| zZ) ?_
   refine jG ⟨_, (.tmp (d := (.val (.bool (true)))) rfl .nil), ?_⟩
   rw [same_yes hn1 hv]; rfl
theorem l_wholeI (n : Int) (hlo : -9223372036854775808 ≤ n) (hhi : n ≤ 9223372036854775807) : kF Tryz.prog 216 [(.val (.int .i64 (n)))] (jH (jK n)) := by
 refine jL Tryz.func216 rfl cb216 rfl ?_
 show uK _ _ _ _ ⟨[(0, (vi n))], []⟩
 refine jA <| kx [(2, (.ref 0 0))] [(0, some (bx (jH (jF.mk false []))))] (zN (qI 0 uD uE) <| zZ) ?_
 refine jA <| kx [] [(0, some (bx (jH (jK n))))] (zM <| zE (kC (r_of n (by omega) (by omega))) <| zT (kR jI) <| zZ) ?_
 refine jG ⟨_, (qB (cs := (bx (jH (jK n)))) (d := (jH (jK n))) rfl rfl jI rfl rfl .nil), ?_⟩
 rfl
theorem l_zero (x : jF) (a : Int) (hx : kZ x a 5000000000) : kF Tryz.prog 157 [(jH x)] (.val (.bool ((qX a == 0)))) := by
 refine jL Tryz.func157 rfl cb157 rfl ?_
 show uK _ _ _ _ ⟨[(0, (.d (jH x)))], []⟩
 refine jA <| kx [(1, (.ref 0 0))] [(0, some (bx (jH x)))] (zN (uX 0) <| zM <| zZ) ?_
 refine jA <| kx [(2, (vb ((qX a) == 0)))] [] (zR (kA jI) <| zE (kC (aO hx (by decide))) <| zE aL <| zM <| zZ) ?_
 refine jG ⟨_, (.tmp (d := (.val (.bool (((qX a) == 0))))) rfl .nil), ?_⟩
 rfl
theorem l_det (p : A3 jF) (p0 p1 p2 : Int) (hp0 : kZ p.a0 p0 1000000) (hp1 : kZ p.a1 p1 1000000) (hp2 : kZ p.a2 p2 1000000) (q : A3 jF) (q0 q1 q2 : Int) (hq0 : kZ q.a0 q0 1000000) (hq1 : kZ q.a1 q1 1000000) (hq2 : kZ q.a2 q2 1000000) (r : A3 jF) (r0 r1 r2 : Int) (hr0 : kZ r.a0 r0 1000000) (hr1 : kZ r.a1 r1 1000000) (hr2 : kZ r.a2 r2 1000000) : kF Tryz.prog 158 [(kS p), (kS q), (kS r)] (jH (jK (gM p0 p1 p2 q0 q1 q2 r0 r1 r2))) := by
 refine jL Tryz.func158 rfl cb158 rfl ?_
 show uK _ _ _ _ ⟨[(0, (.d (kS p))), (1, (.d (kS q))), (2, (.d (kS r)))], []⟩
 refine jA <| kx [(3, (.ref 0 0)), (4, (.ref 1 0)), (5, (.ref 2 0)), (6, (.ref 3 0))] [(0, some (bx (kS p))), (1, some (bx (kS q))), (2, some (bx (kS r))), (3, some (bx (jH (jF.mk false []))))] (zN (uX 0) <| zN (uX 1) <| zN (uX 2) <| zN (qI 3 uD uE) <| zZ) ?_
 refine jA ?_
 have bn1 : kZ (jK ((q1 * r2) - (q2 * r1))) ((q1 * r2) - (q2 * r1)) 2000001 := (iZ (k := 2000001) (jP (k := 2000000) hq1 hr2 (by decide)) (jP (k := 2000000) hq2 hr1 (by decide)) (by decide))
 have bn2 : kZ (jK ((q2 * r0) - (q0 * r2))) ((q2 * r0) - (q0 * r2)) 2000001 := (iZ (k := 2000001) (jP (k := 2000000) hq2 hr0 (by decide)) (jP (k := 2000000) hq0 hr2 (by decide)) (by decide))
 have bn3 : kZ (jK ((q0 * r1) - (q1 * r0))) ((q0 * r1) - (q1 * r0)) 2000001 := (iZ (k := 2000001) (jP (k := 2000000) hq0 hr1 (by decide)) (jP (k := 2000000) hq1 hr0 (by decide)) (by decide))
 have bn4 : kZ (jK (((p0 * ((q1 * r2) - (q2 * r1))) + (p1 * ((q2 * r0) - (q0 * r2)))) + (p2 * ((q0 * r1) - (q1 * r0))))) (((p0 * ((q1 * r2) - (q2 * r1))) + (p1 * ((q2 * r0) - (q0 * r2)))) + (p2 * ((q0 * r1) - (q1 * r0)))) 3000003 := (xO (k := 3000003) (xO (k := 3000002) (jP (k := 3000001) hp0 bn1 (by decide)) (jP (k := 3000001) hp1 bn2 (by decide)) (by decide)) (jP (k := 3000001) hp2 bn3 (by decide)) (by decide))
 refine kd [] [(3, some (bx (jH (jK (((p0 * ((q1 * r2) - (q2 * r1))) + (p1 * ((q2 * r0) - (q0 * r2)))) + (p2 * ((q0 * r1) - (q1 * r0))))))))] mo (wR (kA yD) <| wR (kA yD) <| wR (kA yD) <| wE (kC (l_cross q q0 q1 q2 (iu hq0) (iu hq1) (iu hq2) r r0 r1 r2 (iu hr0) (iu hr1) (iu hr2))) <| wE (kC (l_dot p p0 p1 p2 (iu hp0) (iu hp1) (iu hp2) (A3.mk (jK ((q1 * r2) - (q2 * r1))) (jK ((q2 * r0) - (q0 * r2))) (jK ((q0 * r1) - (q1 * r0)))) ((q1 * r2) - (q2 * r1)) ((q2 * r0) - (q0 * r2)) ((q0 * r1) - (q1 * r0)) (iu bn1) (iu bn2) (iu bn3))) <| wT (kR jI) <| wZ) ?_
 refine jG ⟨_, (qB (cs := (bx (jH (jK (((p0 * ((q1 * r2) - (q2 * r1))) + (p1 * ((q2 * r0) - (q0 * r2)))) + (p2 * ((q0 * r1) - (q1 * r0)))))))) (d := (jH (jK (((p0 * ((q1 * r2) - (q2 * r1))) + (p1 * ((q2 * r0) - (q0 * r2)))) + (p2 * ((q0 * r1) - (q1 * r0))))))) rfl rfl jI rfl rfl .nil), ?_⟩
 rfl
theorem l_redN (tau : Nat) (l : List jF) (zs : List Int) (hl : LOk 1000000 l zs) (hb : l.length ≤ 1000000) (hnz : vK zs = 0) : kF Tryz.prog 198 [(.sl tau 2 (List.map jH l))] (.val (.slice none 0 0)) := by
 have vD := hl.len
 refine jL Tryz.func198 rfl cb198 rfl ?_
 show uK _ _ _ _ ⟨[(0, (vl tau 2 jH l))], []⟩
 refine jA <| kx [] [] (zM <| zZ) ?_
 refine jA <| kx [(3, (.ref 0 0))] [(0, some (bx (jH (jK 0))))] (zE (kC (l_wholeI 0 (by decide) (by decide))) <| zN (qI 0 uD uE) <| zT (kR jI) <| zZ) ?_
 refine jA <| kx [(4, (kE 0))] [] (zM <| zZ) ?_
 refine jA <| jA <| kx [(14, (vl tau 2 jH l)), (15, (kE l.length)), (16, (kE 0))] [] (zM <| zE (nC vP) <| zM <| zZ) ?_
 refine jE <| uB (α := Nat × Nat × Int) (fun (i, g, s) => ⟨[(0, (vl tau 2 jH l)), (3, (.ref 0 0)), (4, (vi s)), (14, (vl tau 2 jH l)), (15, (kE l.length)), (16, (kE i))], [(0, some (bx (jH (jK ((g : Nat) : Int)))))]⟩) (fun (i, g, s) => i ≤ l.length ∧ g = gcdL (zs.take i) ∧ s = vK (zs.take i)) (fun (i, g, s) => l.length - i) (0, 0, 0) wk ⟨Nat.zero_le _, rfl, rfl⟩ ?_
 rintro ⟨i, g, s⟩ ⟨hi, hgv, hsv⟩
 have hg : kZ (jK ((g : Nat) : Int)) ((g : Nat) : Int) 1000000 := by rw [hgv]; exact iJ hl.all i
 refine jA <| kx [(17, (vb (decide (((i : Nat) : Int) < ((l.length : Nat) : Int)))))] [] (zE qS <| zZ) ?_
 refine jA <| jQ rfl (fun h1 => ?_) (fun h1 => ?_)
 ·replace h1 := of_decide_eq_true h1
  refine jD <| jA <| jE <| jA <| kx [(6, (.ref 1 0))] [(1, some (bx (jH (l.getD i (jF.mk false [])))))] (zE (eK vP i (jF.mk false [])) <| zE (gY jI) <| zN (qI 1 uD uE) <| zT (kR jI) <| zZ) ?_
  refine jA <| kx [] [(0, some (bx (jH (jK ((Int.gcd ((g : Nat) : Int) (zs.getD i 0) : Nat) : Int)))))] (zR (kA jI) <| zR (kA jI) <| zE (kC (rs_gcd hg (hl.get i) (by decide) (by decide))) <| zT (kR jI) <| zZ) ?_
  refine jA <| kx [(24, (vb (s == 0)))] [] (zM <| zE aL <| zZ) ?_
  refine jQ (b := (s == 0)) rfl (fun h2 => ?_) (fun h2 => ?_)
  ·replace h2 := eq_of_beq h2
   refine kx [(4, (vi (qX (zs.getD i 0))))] [] (zR (kA jI) <| zE (kC (aO (hl.get i) (by decide))) <| zM <| zZ) ?_
   refine kx [(16, (kE (i + 1)))] [] (zE (qQ (i + 1)) <| zM <| zZ) ?_
   exact ⟨(i + 1, Int.gcd ((g : Nat) : Int) (zs.getD i 0), qX (zs.getD i 0)), wk, ⟨by omega, by rw [hgv]; exact (fW (by omega)).symm, sgnL_step0 (by omega) hsv h2⟩, (by first | omega | (dsimp only; omega))⟩
  ·replace h2 := ne_of_beq_false h2
   refine jD <| kx [(16, (kE (i + 1)))] [] (zE (qQ (i + 1)) <| zM <| zZ) ?_
   exact ⟨(i + 1, Int.gcd ((g : Nat) : Int) (zs.getD i 0), s), wk, ⟨by omega, by rw [hgv]; exact (fW (by omega)).symm, sgnL_step1 (by omega) hsv h2⟩, (by first | omega | (dsimp only; omega))⟩
 ·replace h1 := of_decide_eq_false h1
  have hie : i = l.length := by omega
  rw [hie, vD, List.take_length] at hgv hsv
  refine kQ <| jA <| jA <| kx [(29, (vb (s == 0)))] [] (zM <| zE aL <| zZ) ?_
  refine jQ (b := (s == 0)) rfl (fun h3 => ?_) (fun h3 => ?_)
  ·replace h3 := eq_of_beq h3
   refine jA <| kx [(2, (.d (.val (.slice none 0 0))))] [] (zM <| zZ) ?_
   refine jG ⟨_, (.tmp (d := (.val (.slice none 0 0))) rfl .nil), ?_⟩
   rfl
  ·replace h3 := ne_of_beq_false h3
   exact absurd (hsv.trans hnz) h3
theorem l_red (tau : Nat) (l : List jF) (zs : List Int) (hl : LOk 1000000 l zs) (hb : l.length ≤ 1000000) (hnz : vK zs ≠ 0) : kF Tryz.prog 198 [(.sl tau 2 (List.map jH l))] (.sl 40 2 (List.map jH (List.map jK (xB zs)))) := by
 have vD := hl.len
 refine jL Tryz.func198 rfl cb198 rfl ?_
 show uK _ _ _ _ ⟨[(0, (vl tau 2 jH l))], []⟩
 refine jA <| kx [] [] (zE (oNl 40 2) <| zZ) ?_
 refine jA <| kx [(3, (.ref 0 0))] [(0, some (bx (jH (jK 0))))] (zE (kC (l_wholeI 0 (by decide) (by decide))) <| zN (qI 0 uD uE) <| zT (kR jI) <| zZ) ?_
 refine jA <| kx [(4, (kE 0))] [] (zM <| zZ) ?_
 refine jA <| jA <| kx [(14, (vl tau 2 jH l)), (15, (kE l.length)), (16, (kE 0))] [] (zM <| zE (nC vP) <| zM <| zZ) ?_
 refine jE <| uB (α := Nat × Nat × Int) (fun (i, g, s) => ⟨[(0, (vl tau 2 jH l)), (3, (.ref 0 0)), (4, (vi s)), (14, (vl tau 2 jH l)), (15, (kE l.length)), (16, (kE i))], [(0, some (bx (jH (jK ((g : Nat) : Int)))))]⟩) (fun (i, g, s) => i ≤ l.length ∧ g = gcdL (zs.take i) ∧ s = vK (zs.take i)) (fun (i, g, s) => l.length - i) (0, 0, 0) wk ⟨Nat.zero_le _, rfl, rfl⟩ ?_
 rintro ⟨i, g, s⟩ ⟨hi, hgv, hsv⟩
 have hg : kZ (jK ((g : Nat) : Int)) ((g : Nat) : Int) 1000000 := by rw [hgv]; exact iJ hl.all i
 refine jA <| kx [(17, (vb (decide (((i : Nat) : Int) < ((l.length : Nat) : Int)))))] [] (zE qS <| zZ) ?_
 refine jA <| jQ rfl (fun h1 => ?_) (fun h1 => ?_)
 ·replace h1 := of_decide_eq_true h1
  refine jD <| jA <| jE <| jA <| kx [(6, (.ref 1 0))] [(1, some (bx (jH (l.getD i (jF.mk false [])))))] (zE (eK vP i (jF.mk false [])) <| zE (gY jI) <| zN (qI 1 uD uE) <| zT (kR jI) <| zZ) ?_
  refine jA <| kx [] [(0, some (bx (jH (jK ((Int.gcd ((g : Nat) : Int) (zs.getD i 0) : Nat) : Int)))))] (zR (kA jI) <| zR (kA jI) <| zE (kC (rs_gcd hg (hl.get i) (by decide) (by decide))) <| zT (kR jI) <| zZ) ?_
  refine jA <| kx [(24, (vb (s == 0)))] [] (zM <| zE aL <| zZ) ?_
  refine jQ (b := (s == 0)) rfl (fun h2 => ?_) (fun h2 => ?_)
  ·replace h2 := eq_of_beq h2
   refine kx [(4, (vi (qX (zs.getD i 0))))] [] (zR (kA jI) <| zE (kC (aO (hl.get i) (by decide))) <| zM <| zZ) ?_
   refine kx [(16, (kE (i + 1)))] [] (zE (qQ (i + 1)) <| zM <| zZ) ?_
   exact ⟨(i + 1, Int.gcd ((g : Nat) : Int) (zs.getD i 0), qX (zs.getD i 0)), wk, ⟨by omega, by rw [hgv]; exact (fW (by omega)).symm, sgnL_step0 (by omega) hsv h2⟩, (by first | omega | (dsimp only; omega))⟩
  ·replace h2 := ne_of_beq_false h2
   refine jD <| kx [(16, (kE (i + 1)))] [] (zE (qQ (i + 1)) <| zM <| zZ) ?_
   exact ⟨(i + 1, Int.gcd ((g : Nat) : Int) (zs.getD i 0), s), wk, ⟨by omega, by rw [hgv]; exact (fW (by omega)).symm, sgnL_step1 (by omega) hsv h2⟩, (by first | omega | (dsimp only; omega))⟩
 ·replace h1 := of_decide_eq_false h1
  have hie : i = l.length := by omega
  rw [hie, vD, List.take_length] at hgv hsv
  refine kQ <| jA <| jA <| kx [(29, (vb (s == 0)))] [] (zM <| zE aL <| zZ) ?_
  refine jQ (b := (s == 0)) rfl (fun h3 => ?_) (fun h3 => ?_)
  ·replace h3 := eq_of_beq h3
   exact absurd (hsv.symm.trans h3) hnz
  ·replace h3 := ne_of_beq_false h3
   refine jD <| jA <| jA <| kx [(31, (vb (decide (s < 0))))] [] (zM <| zE qS <| zZ) ?_
   refine jQ (b := decide (s < 0)) rfl (fun h4 => ?_) (fun h4 => ?_)
   ·replace h4 := of_decide_eq_true h4
    have hdv := dv_neg hsv hgv h4
    have hd0 : (-((g : Nat) : Int)) ≠ 0 := by rw [← hdv]; exact lC hnz
    refine kx [] [(0, some (bx (jH (jK (-((g : Nat) : Int))))))] (zR (kA jI) <| zE (kC (rs_neg hg (by decide))) <| zT (kR jI) <| zZ) ?_
    refine jA <| kx [(7, (.own 2 40 2 0))] [(2, some (aF jH []))] (zN (oBo 2 vP uD uE) <| zM <| zZ) ?_
    refine jA <| jA <| kx [(35, (vl tau 2 jH l)), (36, (kE l.length)), (37, (kE 0))] [] (zM <| zE (nC vP) <| zM <| zZ) ?_
    refine jE <| uB (α := Nat × List jF) (fun (j, o) => ⟨[(3, (.ref 0 0)), (7, (.own 2 40 2 o.length)), (35, (vl tau 2 jH l)), (36, (kE l.length)), (37, (kE j))], [(0, some (bx (jH (jK (-((g : Nat) : Int)))))), (2, some (aF jH o))]⟩) (fun (j, o) => j ≤ l.length ∧ o = List.map jK ((xB zs).take j)) (fun (j, o) => l.length - j) (0, []) wk ⟨Nat.zero_le _, rfl⟩ ?_
    rintro ⟨j, o⟩ ⟨hj, hov⟩
    have hol : o.length = j := by rw [hov]; simp [xB]; omega
    refine jA <| kx [(38, (vb (decide (((j : Nat) : Int) < ((l.length : Nat) : Int)))))] [] (zE qS <| zZ) ?_
    refine jA <| jQ rfl (fun h5 => ?_) (fun h5 => ?_)
    ·replace h5 := of_decide_eq_true h5
     refine jD <| jA <| jE <| jA <| kx [(9, (.ref 3 0))] [(3, some (bx (jH (l.getD j (jF.mk false [])))))] (zE (eK vP j (jF.mk false [])) <| zE (gY jI) <| zH (qI 3 uD uE) <| zT (kR jI) <| zZ) ?_
     refine jA <| kx [(10, (.ref 4 0))] [(4, some (bx (jH (jK ((zs.getD j 0).fdiv (-((g : Nat) : Int))))))), (5, none)] (zR (kA jI) <| zR (kA jI) <| zE (kC (fV (hl.get j) (mF hg) (by decide) (by decide) hd0)) <| zM <| zE uH <| zE uH <| zE uH <| zH (qI 4 uD uE) <| zH (qI 5 uD uE) <| zT (kR jI) <| zT (kR jI) <| zM <| zZ) ?_
     refine kf [(7, (.own 2 40 2 ((o ++ [(jK ((zs.getD j 0).fdiv (-((g : Nat) : Int))))]).length)))] [(2, some (aF jH (o ++ [(jK ((zs.getD j 0).fdiv (-((g : Nat) : Int))))])))] (zM <| zR (kA jI) <| zE (cX vP uD uE) <| zAS jH o [(jK ((zs.getD j 0).fdiv (-((g : Nat) : Int))))] rfl vP uD by40 <| zM <| zF) ?_
     refine kx [(37, (kE (j + 1)))] [] (zE (qQ (j + 1)) <| zM <| zZ) ?_
     exact ⟨(j + 1, o ++ [jK ((zs.getD j 0).fdiv (-((g : Nat) : Int)))]), wk, ⟨by omega, redL_push (by omega) hov hdv⟩, (by first | omega | (dsimp only; omega))⟩
    ·replace h5 := of_decide_eq_false h5
     have hje : j = zs.length := by omega
     rw [hje, show zs.length = (xB zs).length from (gU zs).symm, List.take_length] at hov
     subst hov
     refine kQ <| jA <| kX (xY (t := 7) (k := 2) (es := List.map jH (List.map jK (xB zs))) rfl rfl (xZ _ _ (fun _ => rfl)) (xU _ _ rfl) (cH jH (List.map jK (xB zs)) (fun _ => rfl) rfl)) ?_
     refine kx [(2, (vl 40 2 jH (List.map jK (xB zs))))] [] (zM <| zM <| zZ) ?_
     refine jG ⟨_, (.tmp (d := (.sl 40 2 (List.map jH (List.map jK (xB zs))))) rfl .nil), ?_⟩
     rfl
   ·replace h4 := of_decide_eq_false h4
    have hdv := dv_pos hsv hgv h4
    have hd0 : ((g : Nat) : Int) ≠ 0 := by rw [← hdv]; exact lC hnz
    refine jD <| jA <| kx [(7, (.own 6 40 2 0))] [(6, some (aF jH []))] (zN (oBo 6 vP uD uE) <| zM <| zZ) ?_
    refine jA <| jA <| kx [(35, (vl tau 2 jH l)), (36, (kE l.length)), (37, (kE 0))] [] (zM <| zE (nC vP) <| zM <| zZ) ?_
    refine jE <| uB (α := Nat × List jF) (fun (j, o) => ⟨[(3, (.ref 0 0)), (7, (.own 6 40 2 o.length)), (35, (vl tau 2 jH l)), (36, (kE l.length)), (37, (kE j))], [(0, some (bx (jH (jK ((g : Nat) : Int))))), (6, some (aF jH o))]⟩) (fun (j, o) => j ≤ l.length ∧ o = List.map jK ((xB zs).take j)) (fun (j, o) => l.length - j) (0, []) wk ⟨Nat.zero_le _, rfl⟩ ?_
    rintro ⟨j, o⟩ ⟨hj, hov⟩
    have hol : o.length = j := by rw [hov]; simp [xB]; omega
    refine jA <| kx [(38, (vb (decide (((j : Nat) : Int) < ((l.length : Nat) : Int)))))] [] (zE qS <| zZ) ?_
    refine jA <| jQ rfl (fun h6 => ?_) (fun h6 => ?_)
    ·replace h6 := of_decide_eq_true h6
     refine jD <| jA <| jE <| jA <| kx [(9, (.ref 7 0))] [(7, some (bx (jH (l.getD j (jF.mk false [])))))] (zE (eK vP j (jF.mk false [])) <| zE (gY jI) <| zH (qI 7 uD uE) <| zT (kR jI) <| zZ) ?_
     refine jA <| kx [(10, (.ref 8 0))] [(8, some (bx (jH (jK ((zs.getD j 0).fdiv ((g : Nat) : Int)))))), (9, none)] (zR (kA jI) <| zR (kA jI) <| zE (kC (fV (hl.get j) hg (by decide) (by decide) hd0)) <| zM <| zE uH <| zE uH <| zE uH <| zH (qI 8 uD uE) <| zH (qI 9 uD uE) <| zT (kR jI) <| zT (kR jI) <| zM <| zZ) ?_
     refine kf [(7, (.own 6 40 2 ((o ++ [(jK ((zs.getD j 0).fdiv ((g : Nat) : Int)))]).length)))] [(6, some (aF jH (o ++ [(jK ((zs.getD j 0).fdiv ((g : Nat) : Int)))])))] (zM <| zR (kA jI) <| zE (cX vP uD uE) <| zAS jH o [(jK ((zs.getD j 0).fdiv ((g : Nat) : Int)))] rfl vP uD by40 <| zM <| zF) ?_
     refine kx [(37, (kE (j + 1)))] [] (zE (qQ (j + 1)) <| zM <| zZ) ?_
     exact ⟨(j + 1, o ++ [jK ((zs.getD j 0).fdiv ((g : Nat) : Int))]), wk, ⟨by omega, redL_push (by omega) hov hdv⟩, (by first | omega | (dsimp only; omega))⟩
    ·replace h6 := of_decide_eq_false h6
     have hje : j = zs.length := by omega
     rw [hje, show zs.length = (xB zs).length from (gU zs).symm, List.take_length] at hov
     subst hov
     refine kQ <| jA <| kX (xY (t := 7) (k := 6) (es := List.map jH (List.map jK (xB zs))) rfl rfl (xZ _ _ (fun _ => rfl)) (xU _ _ rfl) (cH jH (List.map jK (xB zs)) (fun _ => rfl) rfl)) ?_
     refine kx [(2, (vl 40 2 jH (List.map jK (xB zs))))] [] (zM <| zM <| zZ) ?_
     refine jG ⟨_, (.tmp (d := (.sl 40 2 (List.map jH (List.map jK (xB zs))))) rfl .nil), ?_⟩
     rfl
theorem l_trip (p : A3 jF) (p0 p1 p2 : Int) (hp0 : kZ p.a0 p0 1000000) (hp1 : kZ p.a1 p1 1000000) (hp2 : kZ p.a2 p2 1000000) (c0 c1 c2 : Int) (hc : xB [p0, p1, p2] = [c0, c1, c2]) (hnz : vK [p0, p1, p2] ≠ 0) : kF Tryz.prog 160 [(kS p)] (.tup [(kS (A3.mk (jK c0) (jK c1) (jK c2))), (.val (.bool (true)))]) := by
 refine jL Tryz.func160 rfl cb160 rfl ?_
 show uK _ _ _ _ ⟨[(0, (.d (kS p)))], []⟩
 refine jA <| kx [(1, (.ref 0 0)), (2, (.ref 1 0))] [(0, some (bx (kS p))), (1, some (bx (kS (A3.mk (jF.mk false []) (jF.mk false []) (jF.mk false [])))))] (zN (uX 0) <| zN (qI 1 nS nV) <| zM <| zZ) ?_
 refine jA ?_
 have bn1 : ∀ c ∈ [c0, c1, c2], kZ (jK c) c 1000000 := mZ (n := 1000000) (.cons hp0 (.cons hp1 (.cons hp2 .nil))) hc
 refine kx [(4, (vl 40 2 jH [(jK c0), (jK c1), (jK c2)]))] [] (zE (e_slv (by exact rfl) vQ (by exact rfl) (by kernel_rfl) (by kernel_rfl)) <| zR ⟨(bx (kS p)), e_clv (es := List.map jH [p.a0, p.a1, p.a2]) (by have h := l_red 1000000 [p.a0, p.a1, p.a2] [p0, p1, p2] (.cons hp0 (.cons hp1 (.cons hp2 .nil))) (Nat.le_of_ble_eq_true rfl) hnz; rw [hc] at h; exact h) (by exact rfl) (by kernel_rfl) (by exact rfl) (.v .nil) (xZ _ _ (fun _ => rfl)) (by kernel_rfl) (by kernel_rfl) (avo_sl_40 (by decide) (by decide) _), by kernel_rfl⟩ <| zM <| zZ) ?_
 refine jA <| jA <| kx [(8, (vb false))] [] (zM <| zE (oNf vP) <| zZ) ?_
 refine kO ?_
 refine jD <| jA <| kx [(3, (vb true))] [(1, some (bx (kS (A3.mk (jK c0) (jK c1) (jK c2)))))] (zM <| zE (e_sap (cs := (qF.cells (kS (A3.mk (jK c0) (jK c1) (jK c2))))) (by exact rfl) vQ (by exact rfl) (by kernel_rfl) (by kernel_rfl) (by kernel_rfl)) <| zE (gY yD) <| zT (kR yD) <| zM <| zZ) ?_
 refine jG ⟨_, (qB (cs := (bx (kS (A3.mk (jK c0) (jK c1) (jK c2))))) (d := (kS (A3.mk (jK c0) (jK c1) (jK c2)))) rfl rfl yD rfl rfl (.tmp (d := (.val (.bool (true)))) rfl .nil)), ?_⟩
 rfl
theorem l_plainV (tau : Nat) (l : List jF) (zs : List Int) (hl : LOk 1000000 l zs) (hb : l.length ≤ 1000000) (hv : List.all l uF = false) : kF Tryz.prog 156 [(.sl tau 2 (List.map jH l))] (.val (.bool (false))) := by
 refine jL Tryz.func156 rfl cb156 rfl ?_
 show uK _ _ _ _ ⟨[(0, (vl tau 2 jH l))], []⟩
 refine jA <| kx [] [] (zM <| zZ) ?_
 refine jA <| jA <| kx [(7, (vl tau 2 jH l)), (8, (kE l.length)), (9, (kE 0))] [] (zM <| zE (nC vP) <| zM <| zZ) ?_
 refine jE <| uB (α := Nat) (fun i => ⟨[(0, (vl tau 2 jH l)), (7, (vl tau 2 jH l)), (8, (kE l.length)), (9, (kE i))], []⟩) (fun i => i ≤ l.length ∧ (l.take i).all uF = true) (fun i => l.length - i) 0 wk ⟨Nat.zero_le _, by simp⟩ ?_
 rintro i ⟨hi, hal⟩
 refine jA <| kx [(10, (vb (decide (((i : Nat) : Int) < ((l.length : Nat) : Int)))))] [] (zE qS <| zZ) ?_
 refine jA <| jQ rfl (fun h1 => ?_) (fun h1 => ?_)
 ·replace h1 := of_decide_eq_true h1
  refine jD <| jA <| jE <| jA <| kx [(4, (.ref 0 0))] [(0, some (bx (jH (l.getD i (jF.mk false [])))))] (zE (eK vP i (jF.mk false [])) <| zE (gY jI) <| zN (qI 0 uD uE) <| zT (kR jI) <| zZ) ?_
  refine jA <| kx [(15, (vb (!(uF (l.getD i (jF.mk false []))))))] [] (zR (kA jI) <| zE (kC (iH (l.getD i (jF.mk false [])) (Nat.le_trans (hl.get i).l (by decide)))) <| zE eX <| zZ) ?_
  refine jQ (b := !(uF (l.getD i (jF.mk false [])))) rfl (fun h2 => ?_) (fun h2 => ?_)
  ·refine jA <| kx [(2, (vb false))] [] (zM <| zZ) ?_
   refine jG ⟨_, (.tmp (d := (.val (.bool (false)))) rfl .nil), ?_⟩
   rfl
  ·refine jD <| kx [(9, (kE (i + 1)))] [] (zE (qQ (i + 1)) <| zM <| zZ) ?_
   exact ⟨(i + 1), wk, ⟨by omega, all_take (d := ⟨false, []⟩) (by omega) hal (by simpa using h2)⟩, (by first | omega | (dsimp only; omega))⟩
 ·replace h1 := of_decide_eq_false h1
  exfalso; have hie : i = l.length := (by omega); rw [hie, List.take_length, hv] at hal; cases hal
theorem l_plain0 (tau : Nat) (l : List jF) (zs : List Int) (hl : LOk 1000000 l zs) (hb : l.length ≤ 1000000) (hv : List.all l uF = true) (hz : vK zs = 0) : kF Tryz.prog 156 [(.sl tau 2 (List.map jH l))] (.val (.bool (false))) := by
 refine jL Tryz.func156 rfl cb156 rfl ?_
 show uK _ _ _ _ ⟨[(0, (vl tau 2 jH l))], []⟩
 refine jA <| kx [] [] (zM <| zZ) ?_
 refine jA <| jA <| kx [(7, (vl tau 2 jH l)), (8, (kE l.length)), (9, (kE 0))] [] (zM <| zE (nC vP) <| zM <| zZ) ?_
 refine jE <| uB (α := Nat) (fun i => ⟨[(0, (vl tau 2 jH l)), (7, (vl tau 2 jH l)), (8, (kE l.length)), (9, (kE i))], []⟩) (fun i => i ≤ l.length) (fun i => l.length - i) 0 wk (Nat.zero_le _) ?_
 rintro i hi
 refine jA <| kx [(10, (vb (decide (((i : Nat) : Int) < ((l.length : Nat) : Int)))))] [] (zE qS <| zZ) ?_
 refine jA <| jQ rfl (fun h1 => ?_) (fun h1 => ?_)
 ·replace h1 := of_decide_eq_true h1
  refine jD <| jA <| jE <| jA <| kx [(4, (.ref 0 0))] [(0, some (bx (jH (l.getD i (jF.mk false [])))))] (zE (eK vP i (jF.mk false [])) <| zE (gY jI) <| zN (qI 0 uD uE) <| zT (kR jI) <| zZ) ?_
  refine jA <| kx [(15, (vb false))] [] (zR (kA jI) <| zE (qY true (kC (iH (l.getD i (jF.mk false [])) (Nat.le_trans (hl.get i).l (by decide)))) (by exact (all_getD hv (by omega)))) <| zE eX <| zZ) ?_
  refine kO ?_
  refine jD <| kx [(9, (kE (i + 1)))] [] (zE (qQ (i + 1)) <| zM <| zZ) ?_
  exact ⟨(i + 1), wk, (by show i + 1 ≤ l.length; omega), (by first | omega | (dsimp only; omega))⟩
 ·replace h1 := of_decide_eq_false h1
  refine kQ <| jA <| kx [(5, (.d (.val (.slice none 0 0))))] [] (zM <| zE (kC (l_redN tau l zs hl hb hz)) <| zM <| zZ) ?_
  refine jA <| jA <| kx [(20, (vb true))] [] (zM <| zE (oNu vP) <| zZ) ?_
  refine kD ?_
  refine jA <| kx [(2, (vb false))] [] (zM <| zZ) ?_
  refine jG ⟨_, (.tmp (d := (.val (.bool (false)))) rfl .nil), ?_⟩
  rfl
theorem l_plainT (tau : Nat) (l : List jF) (zs : List Int) (hl : LOk 1000000 l zs) (hb : l.length ≤ 1000000) (hv : List.all l uF = true) (hnz : vK zs ≠ 0) (hd : nF zs = 1) : kF Tryz.prog 156 [(.sl tau 2 (List.map jH l))] (.val (.bool (true))) := by
 have vD := hl.len
 have hpos := sgnL_pos hnz
 refine jL Tryz.func156 rfl cb156 rfl ?_
 show uK _ _ _ _ ⟨[(0, (vl tau 2 jH l))], []⟩
 refine jA <| kx [] [] (zM <| zZ) ?_
 refine jA <| jA <| kx [(7, (vl tau 2 jH l)), (8, (kE l.length)), (9, (kE 0))] [] (zM <| zE (nC vP) <| zM <| zZ) ?_
 refine jE <| uB (α := Nat) (fun i => ⟨[(0, (vl tau 2 jH l)), (7, (vl tau 2 jH l)), (8, (kE l.length)), (9, (kE i))], []⟩) (fun i => i ≤ l.length) (fun i => l.length - i) 0 wk (Nat.zero_le _) ?_
 rintro i hi
 refine jA <| kx [(10, (vb (decide (((i : Nat) : Int) < ((l.length : Nat) : Int)))))] [] (zE qS <| zZ) ?_
 refine jA <| jQ rfl (fun h1 => ?_) (fun h1 => ?_)
 ·replace h1 := of_decide_eq_true h1
  refine jD <| jA <| jE <| jA <| kx [(4, (.ref 0 0))] [(0, some (bx (jH (l.getD i (jF.mk false [])))))] (zE (eK vP i (jF.mk false [])) <| zE (gY jI) <| zN (qI 0 uD uE) <| zT (kR jI) <| zZ) ?_
  refine jA <| kx [(15, (vb false))] [] (zR (kA jI) <| zE (qY true (kC (iH (l.getD i (jF.mk false [])) (Nat.le_trans (hl.get i).l (by decide)))) (by exact (all_getD hv (by omega)))) <| zE eX <| zZ) ?_
  refine kO ?_
  refine jD <| kx [(9, (kE (i + 1)))] [] (zE (qQ (i + 1)) <| zM <| zZ) ?_
  exact ⟨(i + 1), wk, (by show i + 1 ≤ l.length; omega), (by first | omega | (dsimp only; omega))⟩
 ·replace h1 := of_decide_eq_false h1
  refine kQ <| jA <| kx [(5, (vl 40 2 jH (List.map jK (xB zs))))] [] (zM <| zE (kC (l_red tau l zs hl hb hnz)) <| zM <| zZ) ?_
  refine jA <| jA <| kx [(20, (vb false))] [] (zM <| zE (oNf vP (hl := by exact (by simp [xB]; omega))) <| zZ) ?_
  refine kO ?_
  refine jD <| jA <| jA <| kx [(22, (kE l.length)), (23, (kE 0))] [] (zM <| zE (nC vP) <| zM <| zZ) ?_
  refine jE <| uB (α := Nat) (fun i => ⟨[(0, (vl tau 2 jH l)), (5, (vl 40 2 jH (List.map jK (xB zs)))), (22, (kE l.length)), (23, (kE i))], []⟩) (fun i => i ≤ l.length) (fun i => l.length - i) 0 wk (Nat.zero_le _) ?_
  rintro i hi
  refine jA <| kx [(24, (vb (decide (((i : Nat) : Int) < ((l.length : Nat) : Int)))))] [] (zE qS <| zZ) ?_
  refine jA <| jQ rfl (fun h2 => ?_) (fun h2 => ?_)
  ·replace h2 := of_decide_eq_true h2
   refine jD <| jA <| jE <| jA <| kx [(6, (kE i))] [] (zM <| zM <| zZ) ?_
   refine jA <| kd [(35, (vb false))] [] mo (wM <| wM <| wE (eK vP i (jF.mk false [])) <| wE (gY jI) <| wM <| wM <| wE (eK vP i (jF.mk false []) (L := (List.map jK (xB zs))) (hj := by first | omega | (rw [List.length_map, gU]; omega)) (h1 := by first | omega | (rw [List.length_map, gU]; omega))) <| wE (gY jI) <| wE (qY true (kC (r_same (l.getD i (jF.mk false [])) ((List.map jK (xB zs)).getD i (jF.mk false [])) (Nat.le_trans (hl.get i).l (by decide)) (Nat.le_trans (redL_iok hl i).l (by decide)))) (by exact (plain_same hl hv hd (by omega)))) <| wE eX <| wZ) ?_
   refine kO ?_
   refine jD <| kx [(23, (kE (i + 1)))] [] (zE (qQ (i + 1)) <| zM <| zZ) ?_
   exact ⟨(i + 1), wk, (by show i + 1 ≤ l.length; omega), (by first | omega | (dsimp only; omega))⟩
  ·replace h2 := of_decide_eq_false h2
   refine kQ <| jA <| kx [(2, (vb true))] [] (zM <| zZ) ?_
   refine jG ⟨_, (.tmp (d := (.val (.bool (true)))) rfl .nil), ?_⟩
   rfl
theorem l_plainF (tau : Nat) (l : List jF) (zs : List Int) (hl : LOk 1000000 l zs) (hb : l.length ≤ 1000000) (hv : List.all l uF = true) (hnz : vK zs ≠ 0) (hd : nF zs ≠ 1) : kF Tryz.prog 156 [(.sl tau 2 (List.map jH l))] (.val (.bool (false))) := by
 have vD := hl.len
 have hpos := sgnL_pos hnz
 refine jL Tryz.func156 rfl cb156 rfl ?_
 show uK _ _ _ _ ⟨[(0, (vl tau 2 jH l))], []⟩
 refine jA <| kx [] [] (zM <| zZ) ?_
 refine jA <| jA <| kx [(7, (vl tau 2 jH l)), (8, (kE l.length)), (9, (kE 0))] [] (zM <| zE (nC vP) <| zM <| zZ) ?_
 refine jE <| uB (α := Nat) (fun i => ⟨[(0, (vl tau 2 jH l)), (7, (vl tau 2 jH l)), (8, (kE l.length)), (9, (kE i))], []⟩) (fun i => i ≤ l.length) (fun i => l.length - i) 0 wk (Nat.zero_le _) ?_
 rintro i hi
 refine jA <| kx [(10, (vb (decide (((i : Nat) : Int) < ((l.length : Nat) : Int)))))] [] (zE qS <| zZ) ?_
 refine jA <| jQ rfl (fun h1 => ?_) (fun h1 => ?_)
 ·replace h1 := of_decide_eq_true h1
  refine jD <| jA <| jE <| jA <| kx [(4, (.ref 0 0))] [(0, some (bx (jH (l.getD i (jF.mk false [])))))] (zE (eK vP i (jF.mk false [])) <| zE (gY jI) <| zN (qI 0 uD uE) <| zT (kR jI) <| zZ) ?_
  refine jA <| kx [(15, (vb false))] [] (zR (kA jI) <| zE (qY true (kC (iH (l.getD i (jF.mk false [])) (Nat.le_trans (hl.get i).l (by decide)))) (by exact (all_getD hv (by omega)))) <| zE eX <| zZ) ?_
  refine kO ?_
  refine jD <| kx [(9, (kE (i + 1)))] [] (zE (qQ (i + 1)) <| zM <| zZ) ?_
  exact ⟨(i + 1), wk, (by show i + 1 ≤ l.length; omega), (by first | omega | (dsimp only; omega))⟩
 ·replace h1 := of_decide_eq_false h1
  refine kQ <| jA <| kx [(5, (vl 40 2 jH (List.map jK (xB zs))))] [] (zM <| zE (kC (l_red tau l zs hl hb hnz)) <| zM <| zZ) ?_
  refine jA <| jA <| kx [(20, (vb false))] [] (zM <| zE (oNf vP (hl := by exact (by simp [xB]; omega))) <| zZ) ?_
  refine kO ?_
  refine jD <| jA <| jA <| kx [(22, (kE l.length)), (23, (kE 0))] [] (zM <| zE (nC vP) <| zM <| zZ) ?_
  refine jE <| uB (α := Nat) (fun i => ⟨[(0, (vl tau 2 jH l)), (5, (vl 40 2 jH (List.map jK (xB zs)))), (22, (kE l.length)), (23, (kE i))], []⟩) (fun i => i ≤ l.length ∧ l.take i = (List.map jK (xB zs)).take i) (fun i => l.length - i) 0 wk ⟨Nat.zero_le _, by simp⟩ ?_
  rintro i ⟨hi, hal⟩
  refine jA <| kx [(24, (vb (decide (((i : Nat) : Int) < ((l.length : Nat) : Int)))))] [] (zE qS <| zZ) ?_
  refine jA <| jQ rfl (fun h2 => ?_) (fun h2 => ?_)
  ·replace h2 := of_decide_eq_true h2
   refine jD <| jA <| jE <| jA <| kx [(6, (kE i))] [] (zM <| zM <| zZ) ?_
   refine jA <| kd [(35, (vb (!(sameI (l.getD i (jF.mk false [])) ((List.map jK (xB zs)).getD i (jF.mk false []))))))] [] mo (wM <| wM <| wE (eK vP i (jF.mk false [])) <| wE (gY jI) <| wM <| wM <| wE (eK vP i (jF.mk false []) (L := (List.map jK (xB zs))) (hj := by first | omega | (rw [List.length_map, gU]; omega)) (h1 := by first | omega | (rw [List.length_map, gU]; omega))) <| wE (gY jI) <| wE (kC (r_same (l.getD i (jF.mk false [])) ((List.map jK (xB zs)).getD i (jF.mk false [])) (Nat.le_trans (hl.get i).l (by decide)) (Nat.le_trans (redL_iok hl i).l (by decide)))) <| wE eX <| wZ) ?_
   refine jQ rfl (fun h3 => ?_) (fun h3 => ?_)
   ·refine jA <| kx [(2, (vb false))] [] (zM <| zZ) ?_
    refine jG ⟨_, (.tmp (d := (.val (.bool (false)))) rfl .nil), ?_⟩
    rfl
   ·refine jD <| kx [(23, (kE (i + 1)))] [] (zE (qQ (i + 1)) <| zM <| zZ) ?_
    exact ⟨(i + 1), wk, ⟨by omega, plain_step (by omega) (by rw [List.length_map, gU]; omega) hal (by simpa using h3)⟩, (by first | omega | (dsimp only; omega))⟩
  ·replace h2 := of_decide_eq_false h2
   exfalso; have hie : i = l.length := (by omega); exact hd (plain_end hl hnz (by rw [hie] at hal; exact hal))
theorem l_plain (tau : Nat) (l : List jF) (zs : List Int) (hl : LOk 1000000 l zs) (hb : l.length ≤ 1000000) : kF Tryz.prog 156 [.sl tau 2 (List.map jH l)] (.val (.bool (iD l))) := by
 rcases hv : List.all l uF with _ | _
 ·have h := l_plainV tau l zs hl hb hv
  rw [show iD l = false from by unfold iD; rw [hv]; rfl]; exact h
 by_cases hz : vK zs = 0
 ·rw [show iD l = false from by rw [redB_eq hl hv, hz]; rfl]; exact l_plain0 tau l zs hl hb hv hz
 by_cases hd : nF zs = 1
 ·rw [show iD l = true from redB_yes hl hv hz hd]; exact l_plainT tau l zs hl hb hv hz hd
 ·rw [show iD l = false from redB_no hl hd]; exact l_plainF tau l zs hl hb hv hz hd
theorem l_valid (h : A9 jF) (h0 h1 h2 h3 h4 h5 h6 h7 h8 : Int) (hh0 : kZ h.a0 h0 1000000) (hh1 : kZ h.a1 h1 1000000) (hh2 : kZ h.a2 h2 1000000) (hh3 : kZ h.a3 h3 1000000) (hh4 : kZ h.a4 h4 1000000) (hh5 : kZ h.a5 h5 1000000) (hh6 : kZ h.a6 h6 1000000) (hh7 : kZ h.a7 h7 1000000) (hh8 : kZ h.a8 h8 1000000) : kF Tryz.prog 113 [(qL h)] (.val (.bool ((valH [h.a0, h.a1, h.a2, h.a3, h.a4, h.a5, h.a6, h.a7, h.a8] (gM h0 h1 h2 h3 h4 h5 h6 h7 h8))))) := by
 refine jL Tryz.func113 rfl cb113 rfl ?_
 show uK _ _ _ _ ⟨[(0, (.d (qL h)))], []⟩
 refine jA <| kx [(1, (.ref 0 0))] [(0, some (bx (qL h)))] (zN (uX 0) <| zM <| zZ) ?_
 refine jA ?_
 have bn1 : kZ (jK (gM h0 h1 h2 h3 h4 h5 h6 h7 h8)) (gM h0 h1 h2 h3 h4 h5 h6 h7 h8) 3000003 := (iok_det3 (n := 1000000) (k := 3000003) hh0 hh1 hh2 hh3 hh4 hh5 hh6 hh7 hh8 (by decide))
 refine kd [(2, (vb ((iD [h.a0, h.a1, h.a2, h.a3, h.a4, h.a5, h.a6, h.a7, h.a8]) && !(qX (gM h0 h1 h2 h3 h4 h5 h6 h7 h8) == 0))))] [] mo ?_ ?_
 ·refine wE (e_slv (by exact rfl) yW (by exact rfl) (by kernel_rfl) (by kernel_rfl)) <| wR ⟨(bx (qL h)), e_clv (es := List.map jH [h.a0, h.a1, h.a2, h.a3, h.a4, h.a5, h.a6, h.a7, h.a8]) (l_plain 1000000 [h.a0, h.a1, h.a2, h.a3, h.a4, h.a5, h.a6, h.a7, h.a8] [h0, h1, h2, h3, h4, h5, h6, h7, h8] (.cons hh0 (.cons hh1 (.cons hh2 (.cons hh3 (.cons hh4 (.cons hh5 (.cons hh6 (.cons hh7 (.cons hh8 .nil))))))))) (Nat.le_of_ble_eq_true rfl)) (by exact rfl) (by kernel_rfl) (by exact rfl) (.v .nil) (xZ _ _ (fun _ => rfl)) (by kernel_rfl) (by kernel_rfl) (.val _), by kernel_rfl⟩ <| wE (oV (vb (iD [h.a0, h.a1, h.a2, h.a3, h.a4, h.a5, h.a6, h.a7, h.a8])) (xD (by kernel_rfl))) <| ?_
  rcases hb1 : (iD [h.a0, h.a1, h.a2, h.a3, h.a4, h.a5, h.a6, h.a7, h.a8]) with _ | _
  ·exact wK <| wK <| wK <| wK <| wK <| wK <| wK <| wK <| wK <| wE fC <| wM <| wZ
  ·exact wR (kA mJ) <| wE (kC (l_row0 h h0 h1 h2 h3 h4 h5 h6 h7 h8 (iu hh0) (iu hh1) (iu hh2) (iu hh3) (iu hh4) (iu hh5) (iu hh6) (iu hh7) (iu hh8))) <| wR (kA mJ) <| wE (kC (l_row1 h h0 h1 h2 h3 h4 h5 h6 h7 h8 (iu hh0) (iu hh1) (iu hh2) (iu hh3) (iu hh4) (iu hh5) (iu hh6) (iu hh7) (iu hh8))) <| wR (kA mJ) <| wE (kC (l_row2 h h0 h1 h2 h3 h4 h5 h6 h7 h8 (iu hh0) (iu hh1) (iu hh2) (iu hh3) (iu hh4) (iu hh5) (iu hh6) (iu hh7) (iu hh8))) <| wE (kC (l_det (A3.mk h.a0 h.a1 h.a2) h0 h1 h2 hh0 hh1 hh2 (A3.mk h.a3 h.a4 h.a5) h3 h4 h5 hh3 hh4 hh5 (A3.mk h.a6 h.a7 h.a8) h6 h7 h8 hh6 hh7 hh8)) <| wE (kC (l_zero (jK (gM h0 h1 h2 h3 h4 h5 h6 h7 h8)) (gM h0 h1 h2 h3 h4 h5 h6 h7 h8) (iu bn1))) <| wE eX <| wE oPa <| wM <| wZ
 refine jG ⟨_, (.tmp (d := (.val (.bool (((iD [h.a0, h.a1, h.a2, h.a3, h.a4, h.a5, h.a6, h.a7, h.a8]) && !(qX (gM h0 h1 h2 h3 h4 h5 h6 h7 h8) == 0)))))) rfl .nil), ?_⟩
 rfl
end Go.Proofs.YtbecgnplakngdaaGreat
set_option linter.unusedVariables false
set_option linter.unusedSimpArgs false
namespace Go.Fid
theorem sgnL_zero {zs : List Int} : vK zs = 0 ↔ ∀ z ∈ zs, z = 0 := by
  constructor
  · intro h z hz
    rcases Int.decEq z 0 with h0 | h0
    · exact absurd h (sgnL_of hz h0)
    · exact h0
  · intro h
    rcases Int.decEq (vK zs) 0 with h0 | h0
    · obtain ⟨z, hz, h1⟩ := sgnL_ne h0
      exact absurd (h z hz) h1
    · exact h0
theorem sgn3_zero {a b c : Int} : vK [a, b, c] = 0 ↔ a = 0 ∧ b = 0 ∧ c = 0 := by rw [sgnL_zero]; simp
theorem mul_zero_of {d z : Int} (hd : d ≠ 0) (h : d * z = 0) : z = 0 := by
  rcases Int.mul_eq_zero.1 h with h | h
  · exact absurd h hd
  · exact h
theorem app_nz {h0 h1 h2 h3 h4 h5 h6 h7 h8 p0 p1 p2 : Int} (hd : gM h0 h1 h2 h3 h4 h5 h6 h7 h8 ≠ 0) (hp : vK [p0, p1, p2] ≠ 0) :
    vK [h0 * p0 + h1 * p1 + h2 * p2, h3 * p0 + h4 * p1 + h5 * p2, h6 * p0 + h7 * p1 + h8 * p2] ≠ 0 := fun e => by
  obtain ⟨e0, e1, e2⟩ := sgn3_zero.1 e
  refine hp (sgn3_zero.2 ⟨mul_zero_of hd ?_, mul_zero_of hd ?_, mul_zero_of hd ?_⟩)
  · have : gM h0 h1 h2 h3 h4 h5 h6 h7 h8 * p0 = (h4 * h8 - h5 * h7) * (h0 * p0 + h1 * p1 + h2 * p2) + (h2 * h7 - h1 * h8) * (h3 * p0 + h4 * p1 + h5 * p2) + (h1 * h5 - h2 * h4) * (h6 * p0 + h7 * p1 + h8 * p2) := by unfold gM; grind
    rw [this, e0, e1, e2]; simp
  · have : gM h0 h1 h2 h3 h4 h5 h6 h7 h8 * p1 = (h5 * h6 - h3 * h8) * (h0 * p0 + h1 * p1 + h2 * p2) + (h0 * h8 - h2 * h6) * (h3 * p0 + h4 * p1 + h5 * p2) + (h2 * h3 - h0 * h5) * (h6 * p0 + h7 * p1 + h8 * p2) := by unfold gM; grind
    rw [this, e0, e1, e2]; simp
  · have : gM h0 h1 h2 h3 h4 h5 h6 h7 h8 * p2 = (h3 * h7 - h4 * h6) * (h0 * p0 + h1 * p1 + h2 * p2) + (h1 * h6 - h0 * h7) * (h3 * p0 + h4 * p1 + h5 * p2) + (h0 * h4 - h1 * h3) * (h6 * p0 + h7 * p1 + h8 * p2) := by unfold gM; grind
    rw [this, e0, e1, e2]; simp
theorem red3_back {z0 z1 z2 c0 c1 c2 : Int} (hnz : vK [z0, z1, z2] ≠ 0) (hc : xB [z0, z1, z2] = [c0, c1, c2]) : ∃ d : Int, d ≠ 0 ∧ z0 = d * c0 ∧ z1 = d * c1 ∧ z2 = d * c2 ∧ vK [c0, c1, c2] ≠ 0 ∧ nF [c0, c1, c2] = 1 := by
  refine ⟨nF [z0, z1, z2], lC hnz, ?_⟩
  have h1 := redL_back hnz
  rw [hc] at h1
  simp only [List.map_cons, List.map_nil, List.cons.injEq, and_true] at h1
  exact ⟨h1.1.symm, h1.2.1.symm, h1.2.2.symm, hc ▸ redL_ne hnz, hc ▸ dvL_red hnz⟩
end Go.Fid
set_option linter.unusedVariables false
set_option linter.unusedSimpArgs false
namespace Go.Fid
theorem red_back {zs cs : List Int} (hnz : vK zs ≠ 0) (hc : xB zs = cs) : ∃ d : Int, d ≠ 0 ∧ cs.map (d * ·) = zs ∧ vK cs ≠ 0 ∧ nF cs = 1 :=
  ⟨nF zs, lC hnz, hc ▸ redL_back hnz, hc ▸ redL_ne hnz, hc ▸ dvL_red hnz⟩
theorem det_nz9 {z0 z1 z2 z3 z4 z5 z6 z7 z8 : Int} (hd : gM z0 z1 z2 z3 z4 z5 z6 z7 z8 ≠ 0) : vK [z0, z1, z2, z3, z4, z5, z6, z7, z8] ≠ 0 := fun e => by
  have h := sgnL_zero.1 e
  simp only [List.mem_cons, List.not_mem_nil, or_false, forall_eq_or_imp, forall_eq] at h
  obtain ⟨a0, a1, a2, a3, a4, a5, a6, a7, a8⟩ := h
  exact hd (by rw [a0, a1, a2]; simp [gM])
theorem red9 {z0 z1 z2 z3 z4 z5 z6 z7 z8 c0 c1 c2 c3 c4 c5 c6 c7 c8 : Int} (hd : gM z0 z1 z2 z3 z4 z5 z6 z7 z8 ≠ 0) (hc : xB [z0, z1, z2, z3, z4, z5, z6, z7, z8] = [c0, c1, c2, c3, c4, c5, c6, c7, c8]) :
    ∃ d : Int, d ≠ 0 ∧ (d * c0 = z0 ∧ d * c1 = z1 ∧ d * c2 = z2 ∧ d * c3 = z3 ∧ d * c4 = z4 ∧ d * c5 = z5 ∧ d * c6 = z6 ∧ d * c7 = z7 ∧ d * c8 = z8) ∧ gM c0 c1 c2 c3 c4 c5 c6 c7 c8 ≠ 0 ∧
      valH [jK c0, jK c1, jK c2, jK c3, jK c4, jK c5, jK c6, jK c7, jK c8] (gM c0 c1 c2 c3 c4 c5 c6 c7 c8) = true := by
  obtain ⟨d, h0, h1, h2, h3⟩ := red_back (det_nz9 hd) hc
  simp only [List.map_cons, List.map_nil, List.cons.injEq, and_true] at h1
  obtain ⟨a0, a1, a2, a3, a4, a5, a6, a7, a8⟩ := h1
  have hn : gM c0 c1 c2 c3 c4 c5 c6 c7 c8 ≠ 0 := fun e => hd (by
    rw [← a0, ← a1, ← a2, ← a3, ← a4, ← a5, ← a6, ← a7, ← a8]
    have : gM (d * c0) (d * c1) (d * c2) (d * c3) (d * c4) (d * c5) (d * c6) (d * c7) (d * c8) = d * d * d * gM c0 c1 c2 c3 c4 c5 c6 c7 c8 := by unfold gM; grind
    rw [this, e, Int.mul_zero])
  exact ⟨d, h0, ⟨a0, a1, a2, a3, a4, a5, a6, a7, a8⟩, hn, valH_closed [c0, c1, c2, c3, c4, c5, c6, c7, c8] _ ⟨⟨h2, h3⟩, eN hn⟩⟩
end Go.Fid
set_option linter.unusedVariables false
set_option linter.unusedSimpArgs false
namespace Go.Fid
theorem den_pos (u : Rat) : ((u.den : Nat) : Int) ≠ 0 := by have := u.den_pos; omega
theorem point_nz (u v : Rat) : vK [u.num * (v.den : Int), v.num * (u.den : Int), (u.den : Int) * (v.den : Int)] ≠ 0 :=
  sgnL_of (z := (u.den : Int) * (v.den : Int)) (by simp) (Int.mul_ne_zero (den_pos u) (den_pos v))
end Go.Fid
namespace Go.Proofs.YtbecgnplakngdaaGreat
open Go.Fid
set_option maxRecDepth 4000
set_option linter.unusedVariables false
set_option linter.unusedSimpArgs false
theorem cb114 : callB Tryz.prog 114 = true := by kernel_rfl
theorem cb116 : callB Tryz.prog 116 = true := by kernel_rfl
theorem cb167 : callB Tryz.prog 167 = true := by kernel_rfl
theorem cb204 : callB Tryz.prog 204 = true := by kernel_rfl
theorem bA : xK Tryz.prog 56 0 = some 0 := by kernel_rfl
theorem bG : xK Tryz.prog 56 1 = some 4 := by kernel_rfl
theorem pl56 : mX Tryz.prog 56 = some [(0, 4), (4, 4)] := by kernel_rfl
theorem nH : uG Tryz.prog 56 = some (true, 8) := by kernel_rfl
theorem ze56 : xH Tryz.prog 56 = some [.bool false, .slice none 0 0, .bool false, .slice none 0 0, .bool false, .slice none 0 0, .bool false, .slice none 0 0] := by kernel_rfl
theorem zo56 : mP [.bool false, .slice none 0 0, .bool false, .slice none 0 0, .bool false, .slice none 0 0, .bool false, .slice none 0 0] [.val (.bool false), .sl 152 1 [], .val (.bool false), .sl 152 1 [], .val (.bool false), .sl 152 1 [], .val (.bool false), .sl 152 1 []] := by simp [mP, Value.oneCell']
theorem f_counted (x : jF) (a : Int) (hx : kZ x a 68719476736) : kF Tryz.prog 204 [(jH x)] (jH (jK a)) := by
 refine jL Tryz.func204 rfl cb204 rfl ?_
 show uK _ _ _ _ ⟨[(0, (.d (jH x)))], []⟩
 refine jA <| kx [(1, (.ref 0 0)), (2, (.ref 1 0))] [(0, some (bx (jH x))), (1, some (bx (jH (jF.mk false []))))] (zN (uX 0) <| zN (qI 1 uD uE) <| zZ) ?_
 refine jA <| jA <| kx [(4, (vb (uF x)))] [] (zR (kA jI) <| zE (kC (t_valid x (Nat.le_trans hx.l (by decide)))) <| zZ) ?_
 refine jQ (b := (uF x)) rfl (fun h1 => ?_) (fun h1 => ?_)
 ·refine jA <| kx [] [(1, some (bx (jH x)))] (zR (kA jI) <| zT (kR jI) <| zZ) ?_
  refine jG ⟨_, (qB (cs := (bx (jH x))) (d := (jH x)) rfl rfl jI rfl rfl .nil), ?_⟩
  rw [← hx.v, iR h1]; rfl
 ·refine jD <| jA <| kx [] [(1, some (bx (jH (jK 0))))] (zE (kC (t_of 0 (by decide) (by decide))) <| zT (kR jI) <| zZ) ?_
  refine jG ⟨_, (qB (cs := (bx (jH (jK 0)))) (d := (jH (jK 0))) rfl rfl jI rfl rfl .nil), ?_⟩
  rw [← hx.v, toZ_bad h1, ofZ_zero]; rfl
theorem f_newO (num : jF) (a : Int) (eW : kZ num a 68719476736) (den : jF) (b : Int) (cN : kZ den b 68719476736) (hb : b ≠ 0) : kF Tryz.prog 167 [(jH num), (jH den)] (.tup [(jO (jC (Rat.divInt a b))), (.val (.int .i64 (0)))]) := by
 refine jL Tryz.func167 rfl cb167 rfl ?_
 show uK _ _ _ _ ⟨[(0, (.d (jH num))), (1, (.d (jH den)))], []⟩
 refine jA <| kx [(2, (.ref 0 0)), (3, (.ref 1 0)), (4, (.ref 2 0))] [(0, some (bx (jH num))), (1, some (bx (jH den))), (2, some (bx (jO (kG.mk (jF.mk false []) (jF.mk false [])))))] (zN (uX 0) <| zN (uX 1) <| zN (qI 2 qM qR) <| zM <| zZ) ?_
 refine jA <| kd [] [(0, some (bx (jH (jK a)))), (1, some (bx (jH (jK b))))] mo (wR (kA jI) <| wE (kC (f_counted num a eW)) <| wR (kA jI) <| wE (kC (f_counted den b cN)) <| wT (kR jI) <| wT (kR jI) <| wZ) ?_
 refine jA <| jA <| kx [(12, (vb false))] [] (zR (kA jI) <| zE (kC (s_sign (nJ (kZ.ln cN)) (by decide))) <| zE (qY false aL (by exact beq_eq_false_iff_ne.2 (eN hb))) <| zZ) ?_
 refine kO ?_
 refine jD <| jA <| kx [(5, (kE 0))] [(2, some (bx (jO (jC (Rat.divInt a b)))))] (zR (kA jI) <| zR (kA jI) <| zE (kC (f_reduced (jK a) (jK b) a b (nJ (kZ.ln eW)) (nJ (kZ.ln cN)) (by assumption))) <| zT (kR jS) <| zM <| zZ) ?_
 refine jG ⟨_, (qB (cs := (bx (jO (jC (Rat.divInt a b))))) (d := (jO (jC (Rat.divInt a b)))) rfl rfl jS rfl rfl (.tmp (d := (.val (.int .i64 (0)))) rfl .nil)), ?_⟩
 rfl
theorem g_newO (num : jF) (a : Int) (eW : kZ num a 68719476736) (den : jF) (b : Int) (cN : kZ den b 68719476736) (hb : b ≠ 0) : kF Tryz.prog 26 [(jH num), (jH den)] (.tup [(jO (jC (Rat.divInt a b))), (.val (.int .i64 (0)))]) := by
 refine jL Tryz.func26 rfl cb26 rfl ?_
 show uK _ _ _ _ ⟨[(0, (.d (jH num))), (1, (.d (jH den)))], []⟩
 refine jA <| kx [(2, (.ref 0 0)), (3, (.ref 1 0)), (4, (.ref 2 0))] [(0, some (bx (jH num))), (1, some (bx (jH den))), (2, some (bx (jO (kG.mk (jF.mk false []) (jF.mk false [])))))] (zN (uX 0) <| zN (uX 1) <| zN (qI 2 qM qR) <| zM <| zZ) ?_
 refine jA <| jA <| kx [(8, (vb false))] [] (zR (kA jI) <| zE (kC (aO cN (by decide))) <| zE (qY false aL (by exact beq_eq_false_iff_ne.2 (eN hb))) <| zZ) ?_
 refine kO ?_
 refine jD <| jA <| kx [(5, (kE 0))] [(2, some (bx (jO (jC (Rat.divInt a b)))))] (zR (kA jI) <| zR (kA jI) <| zE (kC (g_reduced num den a b eW cN (by assumption))) <| zT (kR jS) <| zM <| zZ) ?_
 refine jG ⟨_, (qB (cs := (bx (jO (jC (Rat.divInt a b))))) (d := (jO (jC (Rat.divInt a b)))) rfl rfl jS rfl rfl (.tmp (d := (.val (.int .i64 (0)))) rfl .nil)), ?_⟩
 rfl
theorem l_placeO (p : A3 jF) (p0 p1 p2 : Int) (hp0 : kZ p.a0 p0 1000000) (hp1 : kZ p.a1 p1 1000000) (hp2 : kZ p.a2 p2 1000000) (hb : p2 ≠ 0) : kF Tryz.prog 114 [(kS p)] (.tup [(kI (qH.mk (jC (Rat.divInt p0 p2)) (jC (Rat.divInt p1 p2)))), (.val (.bool (true)))]) := by
 refine jL Tryz.func114 rfl cb114 rfl ?_
 show uK _ _ _ _ ⟨[(0, (.d (kS p)))], []⟩
 refine jA <| kx [(1, (.ref 0 0)), (2, (.ref 1 0))] [(0, some (bx (kS p))), (1, some (bx (kI (qH.mk (kG.mk (jF.mk false []) (jF.mk false [])) (kG.mk (jF.mk false []) (jF.mk false []))))))] (zN (uX 0) <| zN (qI 1 ze56 zo56) <| zM <| zZ) ?_
 refine jA <| kx [(4, (.ref 2 0)), (5, (vi 0))] [(2, some (bx (jO (jC (Rat.divInt p0 p2)))))] (zE (uJ vQ 0) <| zR (kA jI) <| zE (uJ vQ 2) <| zR (kA jI) <| zE (kC (g_newO p.a0 p0 (iu hp0) p.a2 p2 (iu hp2) hb)) <| zM <| zE uH <| zE uH <| zN (qI 2 qM qR) <| zT (kR jS) <| zM <| zZ) ?_
 refine jA <| kx [(6, (.ref 3 0)), (7, (vi 0))] [(3, some (bx (jO (jC (Rat.divInt p1 p2)))))] (zE (uJ vQ 1) <| zR (kA jI) <| zE (uJ vQ 2) <| zR (kA jI) <| zE (kC (g_newO p.a1 p1 (iu hp1) p.a2 p2 (iu hp2) hb)) <| zM <| zE uH <| zE uH <| zN (qI 3 qM qR) <| zT (kR jS) <| zM <| zZ) ?_
 refine jA <| jA <| kx [(29, (vb false))] [] (zM <| zE mR <| zM <| zM <| zE mR <| zE fC <| zZ) ?_
 refine kO ?_
 refine jD <| jA <| kx [(3, (vb true))] [(1, some (bx (kI (qH.mk (jC (Rat.divInt p0 p2)) (jC (Rat.divInt p1 p2))))))] (zR (kA jS) <| zR (kA jS) <| zE (oBd pl56 ze56 zo56) <| zT (kR nH) <| zM <| zZ) ?_
 refine jG ⟨_, (qB (cs := (bx (kI (qH.mk (jC (Rat.divInt p0 p2)) (jC (Rat.divInt p1 p2)))))) (d := (kI (qH.mk (jC (Rat.divInt p0 p2)) (jC (Rat.divInt p1 p2))))) rfl rfl nH rfl rfl (.tmp (d := (.val (.bool (true)))) rfl .nil)), ?_⟩
 rfl
theorem l_point (u v : Rat) (hu : QL u 1000) (hv : QL v 1000) (c0 c1 c2 : Int) (hc : xB [(u.num * (v.den : Int)), (v.num * (u.den : Int)), ((u.den : Int) * (v.den : Int))] = [c0, c1, c2]) (hnz : vK [(u.num * (v.den : Int)), (v.num * (u.den : Int)), ((u.den : Int) * (v.den : Int))] ≠ 0) : kF Tryz.prog 116 [(kI (qH.mk (jC u) (jC v)))] (kS (A3.mk (jK c0) (jK c1) (jK c2))) := by
 refine jL Tryz.func116 rfl cb116 rfl ?_
 show uK _ _ _ _ ⟨[(0, (.d (kI (qH.mk (jC u) (jC v)))))], []⟩
 refine jA <| kx [(1, (.ref 0 0)), (2, (.ref 1 0))] [(0, some (bx (kI (qH.mk (jC u) (jC v))))), (1, some (bx (kS (A3.mk (jF.mk false []) (jF.mk false []) (jF.mk false [])))))] (zN (uX 0) <| zN (qI 1 nS nV) <| zZ) ?_
 refine jA ?_
 have bn1 : kZ (jK (u.num * (v.den : Int))) (u.num * (v.den : Int)) 2000 := (jP (k := 2000) (kN hu) (jW hv) (by decide))
 have bn2 : kZ (jK (v.num * (u.den : Int))) (v.num * (u.den : Int)) 2000 := (jP (k := 2000) (kN hv) (jW hu) (by decide))
 have bn3 : kZ (jK ((u.den : Int) * (v.den : Int))) ((u.den : Int) * (v.den : Int)) 2000 := (jP (k := 2000) (jW hu) (jW hv) (by decide))
 have bn4 : ∀ c ∈ [c0, c1, c2], kZ (jK c) c 2000 := mZ (n := 2000) (.cons bn1 (.cons bn2 (.cons bn3 .nil))) hc
 refine kd [(3, (.ref 2 0))] [(2, some (bx (kS (A3.mk (jK c0) (jK c1) (jK c2)))))] mo (wE (kU bA) <| wE (kU vY) <| wR (kA jI) <| wE (kU bG) <| wE (kU uZ) <| wR (kA jI) <| wE (kC (mV ((jC u).num) u.num (qJ (kN hu) (by decide)) ((jC v).den) (v.den : Int) (qJ (jW hv) (by decide)))) <| wE (kU bG) <| wE (kU vY) <| wR (kA jI) <| wE (kU bA) <| wE (kU uZ) <| wR (kA jI) <| wE (kC (mV ((jC v).num) v.num (qJ (kN hv) (by decide)) ((jC u).den) (u.den : Int) (qJ (jW hu) (by decide)))) <| wE (kU bA) <| wE (kU uZ) <| wR (kA jI) <| wE (kU bG) <| wE (kU uZ) <| wR (kA jI) <| wE (kC (mV ((jC u).den) (u.den : Int) (qJ (jW hu) (by decide)) ((jC v).den) (v.den : Int) (qJ (jW hv) (by decide)))) <| wE (oBf vQ nS nV) <| wE (kC (l_trip (A3.mk (jK (u.num * (v.den : Int))) (jK (v.num * (u.den : Int))) (jK ((u.den : Int) * (v.den : Int)))) (u.num * (v.den : Int)) (v.num * (u.den : Int)) ((u.den : Int) * (v.den : Int)) (iu bn1) (iu bn2) (iu bn3) c0 c1 c2 hc hnz)) <| wM <| wE uH <| wE uH <| wN (qI 2 nS nV) <| wT (kR yD) <| wM <| wZ) ?_
 refine jA <| kx [] [(1, some (bx (kS (A3.mk (jK c0) (jK c1) (jK c2)))))] (zR (kA yD) <| zT (kR yD) <| zZ) ?_
 refine jG ⟨_, (qB (cs := (bx (kS (A3.mk (jK c0) (jK c1) (jK c2))))) (d := (kS (A3.mk (jK c0) (jK c1) (jK c2)))) rfl rfl yD rfl rfl .nil), ?_⟩
 rfl
end Go.Proofs.YtbecgnplakngdaaGreat
namespace Go.Fid
end Go.Fid
namespace Go.Proofs.YtbecgnplakngdaaGreat
open Go.Fid
set_option maxRecDepth 4000
set_option linter.unusedVariables false
set_option linter.unusedSimpArgs false
theorem cb63 : callB Tryz.prog 63 = true := by kernel_rfl
end Go.Proofs.YtbecgnplakngdaaGreat
namespace Go.Proofs.YtbecgnplakngdaaGreat
open Go.Fid
set_option maxRecDepth 4000
set_option linter.unusedVariables false
set_option linter.unusedSimpArgs false
theorem ar203 : dA Tryz.prog 203 = some (3, 3, 1) := by kernel_rfl
theorem ar204 : dA Tryz.prog 204 = some (3, 203, 3) := by kernel_rfl
theorem by42 : nO Tryz.prog 42 = some 64 := by kernel_rfl
theorem by52 : nO Tryz.prog 52 = some 24 := by kernel_rfl
theorem cb124 : callB Tryz.prog 124 = true := by kernel_rfl
theorem cb129 : callB Tryz.prog 129 = true := by kernel_rfl
theorem cb132 : callB Tryz.prog 132 = true := by kernel_rfl
theorem yN : vX Tryz.prog 34 = some (52, 1) := by kernel_rfl
theorem el109 : vX Tryz.prog 109 = some (74, 1) := by kernel_rfl
theorem sh74 : uG Tryz.prog 74 = some (false, 1) := by kernel_rfl
theorem sh203 : uG Tryz.prog 203 = some (true, 3) := by kernel_rfl
theorem sh204 : uG Tryz.prog 204 = some (true, 9) := by kernel_rfl
theorem iN : xH Tryz.prog 52 = some [.slice none 0 0] := by kernel_rfl
theorem ze74 : xH Tryz.prog 74 = some [.slice none 0 0] := by kernel_rfl
theorem ze203 : xH Tryz.prog 203 = some [.int .i64 0, .int .i64 0, .int .i64 0] := by kernel_rfl
theorem ze204 : xH Tryz.prog 204 = some [.int .i64 0, .int .i64 0, .int .i64 0, .int .i64 0, .int .i64 0, .int .i64 0, .int .i64 0, .int .i64 0, .int .i64 0] := by kernel_rfl
theorem zo52 : mP [.slice none 0 0] [.sl 42 4 []] := by simp [mP, Value.oneCell']
theorem zo74 : mP [.slice none 0 0] [.sl 3 1 []] := by simp [mP, Value.oneCell']
theorem zo203 : mP [.int .i64 0, .int .i64 0, .int .i64 0] [.val (.int .i64 0), .val (.int .i64 0), .val (.int .i64 0)] := by simp [mP, Value.oneCell']
theorem zo204 : mP [.int .i64 0, .int .i64 0, .int .i64 0, .int .i64 0, .int .i64 0, .int .i64 0, .int .i64 0, .int .i64 0, .int .i64 0] [.val (.int .i64 0), .val (.int .i64 0), .val (.int .i64 0), .val (.int .i64 0), .val (.int .i64 0), .val (.int .i64 0), .val (.int .i64 0), .val (.int .i64 0), .val (.int .i64 0)] := by simp [mP, Value.oneCell']
theorem q_of (n : Int) (hnl : -9223372036854775808 ≤ n) (hnh : n ≤ 9223372036854775807) (d : Int) (hdl : -9223372036854775808 ≤ d) (hdh : d ≤ 9223372036854775807) (hd : d ≠ 0) : kF Tryz.prog 124 [(.val (.int .i64 (n))), (.val (.int .i64 (d)))] (.tup [(jO (jC (Rat.divInt n d))), (.val (.int .i64 (0)))]) := by
 refine jL Tryz.func124 rfl cb124 rfl ?_
 show uK _ _ _ _ ⟨[(0, (vi n)), (1, (vi d))], []⟩
 refine jA <| kx [(4, (.ref 0 0))] [(0, some (bx (jO (kG.mk (jF.mk false []) (jF.mk false [])))))] (zN (qI 0 qM qR) <| zM <| zZ) ?_
 refine jA <| kx [(5, (vi 0))] [(0, some (bx (jO (jC (Rat.divInt n d)))))] (zM <| zE (kC (t_of n (by omega) (by omega))) <| zM <| zE (kC (t_of d (by omega) (by omega))) <| zE (kC (f_newO (jK n) n (qJ (iok_int (z := n) (by omega) (by omega)) (by decide)) (jK d) d (qJ (iok_int (z := d) (by omega) (by omega)) (by decide)) hd)) <| zE uH <| zE uH <| zT (kR jS) <| zM <| zZ) ?_
 refine jG ⟨_, (qB (cs := (bx (jO (jC (Rat.divInt n d))))) (d := (jO (jC (Rat.divInt n d)))) rfl rfl jS rfl rfl (.tmp (d := (.val (.int .i64 (0)))) rfl .nil)), ?_⟩
 rfl
theorem qs_of (n : Int) (hnl : -9223372036854775808 ≤ n) (hnh : n ≤ 9223372036854775807) (d : Int) (hdl : -9223372036854775808 ≤ d) (hdh : d ≤ 9223372036854775807) (hd : d ≠ 0) : kF Tryz.prog 63 [(.val (.int .i64 (n))), (.val (.int .i64 (d)))] (.tup [(jO (jC (Rat.divInt n d))), (.val (.int .i64 (0)))]) := by
 refine jL Tryz.func63 rfl cb63 rfl ?_
 show uK _ _ _ _ ⟨[(0, (vi n)), (1, (vi d))], []⟩
 refine jA <| kx [(4, (.ref 0 0))] [(0, some (bx (jO (kG.mk (jF.mk false []) (jF.mk false [])))))] (zN (qI 0 qM qR) <| zM <| zZ) ?_
 refine jA <| kx [(5, (vi 0))] [(0, some (bx (jO (jC (Rat.divInt n d)))))] (zM <| zE (kC (g_whole1 n (by omega) (by omega))) <| zM <| zE (kC (g_whole1 d (by omega) (by omega))) <| zE (kC (g_newO (jK n) n (qJ (iok_int (z := n) (by omega) (by omega)) (by decide)) (jK d) d (qJ (iok_int (z := d) (by omega) (by omega)) (by decide)) hd)) <| zE uH <| zE uH <| zT (kR jS) <| zM <| zZ) ?_
 refine jG ⟨_, (qB (cs := (bx (jO (jC (Rat.divInt n d))))) (d := (jO (jC (Rat.divInt n d)))) rfl rfl jS rfl rfl (.tmp (d := (.val (.int .i64 (0)))) rfl .nil)), ?_⟩
 rfl
theorem q_rmat (a b c d : Int) (ha : -1048576 ≤ a ∧ a ≤ 1048576) (hb : -1048576 ≤ b ∧ b ≤ 1048576) (hc : -1048576 ≤ c ∧ c ≤ 1048576) (hd : -1048576 ≤ d ∧ d ≤ 1048576) (hq : gS a b c d = 0) (hn0 : nq a b c d ≠ 0) : kF Tryz.prog 129 [(uI (jN.mk a b c d))] (.tup [(.sl 52 1 (List.map kP [[(jC (Q00 a b c d)), (jC (Q01 a b c d)), (jC (Q02 a b c d))], [(jC (Q10 a b c d)), (jC (Q11 a b c d)), (jC (Q12 a b c d))], [(jC (Q20 a b c d)), (jC (Q21 a b c d)), (jC (Q22 a b c d))]])), (.val (.int .i64 (0)))]) := by
 have saa := vJ ha ha
 have sab := vJ ha hb
 have sac := vJ ha hc
 have sad := vJ ha hd
 have sbb := vJ hb hb
 have sbc := vJ hb hc
 have sbd := vJ hb hd
 have scc := vJ hc hc
 have scd := vJ hc hd
 have sdd := vJ hd hd
 have hnq := nB ha hb hc hd
 let y13 := (jC (Rat.divInt (2 * ((c * d) + (a * b))) (nq a b c d)))
 let y12 := (jC (Rat.divInt (2 * ((b * d) - (a * c))) (nq a b c d)))
 let y11 := (jC (Rat.divInt (2 * ((c * d) - (a * b))) (nq a b c d)))
 let y10 := (jC (Rat.divInt (2 * ((b * c) + (a * d))) (nq a b c d)))
 let y9 := (jC (Rat.divInt (2 * ((b * d) + (a * c))) (nq a b c d)))
 let y8 := (jC (Rat.divInt (2 * ((b * c) - (a * d))) (nq a b c d)))
 let y7 := (jC (Rat.divInt ((((a * a) - (b * b)) - (c * c)) + (d * d)) (nq a b c d)))
 let y6 := (jC (Rat.divInt ((((a * a) - (b * b)) + (c * c)) - (d * d)) (nq a b c d)))
 let y5 := (jC (Rat.divInt ((((a * a) + (b * b)) - (c * c)) - (d * d)) (nq a b c d)))
 let y4 := (encA203 (A3.mk (((2 : Nat) : Int) * ((b * d) - (a * c))) (((2 : Nat) : Int) * ((c * d) + (a * b))) ((((a * a) - (b * b)) - (c * c)) + (d * d))))
 let y3 := (encA203 (A3.mk (((2 : Nat) : Int) * ((b * c) + (a * d))) ((((a * a) - (b * b)) + (c * c)) - (d * d)) (((2 : Nat) : Int) * ((c * d) - (a * b)))))
 let y2 := (encA203 (A3.mk ((((a * a) + (b * b)) - (c * c)) - (d * d)) (((2 : Nat) : Int) * ((b * c) - (a * d))) (((2 : Nat) : Int) * ((b * d) + (a * c)))))
 let y1 := (encA204 (A3.mk (A3.mk ((((a * a) + (b * b)) - (c * c)) - (d * d)) (((2 : Nat) : Int) * ((b * c) - (a * d))) (((2 : Nat) : Int) * ((b * d) + (a * c)))) (A3.mk (((2 : Nat) : Int) * ((b * c) + (a * d))) ((((a * a) - (b * b)) + (c * c)) - (d * d)) (((2 : Nat) : Int) * ((c * d) - (a * b)))) (A3.mk (((2 : Nat) : Int) * ((b * d) - (a * c))) (((2 : Nat) : Int) * ((c * d) + (a * b))) ((((a * a) - (b * b)) - (c * c)) + (d * d)))))
 refine jL Tryz.func129 rfl cb129 rfl ?_
 show uK _ _ _ _ ⟨[(0, (.d (uI (jN.mk a b c d))))], []⟩
 refine jA <| kx [(1, (.ref 0 0))] [(0, some (bx (uI (jN.mk a b c d))))] (zN (uX 0) <| zE (oNl 52 1) <| zM <| zZ) ?_
 refine jA <| jA <| kx [(4, (kE (gS a b c d)))] [] (zR (kA yO) <| zE (kC (q_chk a b c d)) <| zM <| zZ) ?_
 refine jA <| kx [(21, (vb false))] [] (zM <| zE (qY false mR (by exact bne_eq_false_iff_eq.2 (by rw [show (gS a b c d) = 0 from hq]; rfl))) <| zZ) ?_
 refine kO ?_
 refine jD <| jA <| kd [(5, (vi a)), (6, (vi b)), (7, (vi c)), (8, (vi d))] [] mo (wE (kU dH) <| wR (uM vW) <| wE (kU dI) <| wR (uM vW) <| wE (kU dF) <| wR (uM vW) <| wE (kU dC) <| wR (uM vW) <| wM <| wM <| wM <| wM <| wZ) ?_
 refine jA <| kx [(9, (.ref 1 0))] [(1, some (bx y1))] (zM <| zM <| zE (nI (a * a) (hr := by exact (qV rfl (by simp only [xM]; omega) (by simp only [xN]; omega)))) <| zM <| zM <| zE (nI (b * b) (hr := by exact (qV rfl (by simp only [xM]; omega) (by simp only [xN]; omega)))) <| zE (zAd ((a * a) + (b * b)) (hr := by exact (qV rfl (by simp only [xM]; omega) (by simp only [xN]; omega)))) <| zM <| zM <| zE (nI (c * c) (hr := by exact (qV rfl (by simp only [xM]; omega) (by simp only [xN]; omega)))) <| zE (aH (((a * a) + (b * b)) - (c * c)) (hr := by exact (qV rfl (by simp only [xM]; omega) (by simp only [xN]; omega)))) <| zM <| zM <| zE (nI (d * d) (hr := by exact (qV rfl (by simp only [xM]; omega) (by simp only [xN]; omega)))) <| zE (aH ((((a * a) + (b * b)) - (c * c)) - (d * d)) (hr := by exact (qV rfl (by simp only [xM]; omega) (by simp only [xN]; omega)))) <| zM <| zM <| zE (nI (b * c) (hr := by exact (qV rfl (by simp only [xM]; omega) (by simp only [xN]; omega)))) <| zM <| zM <| zE (nI (a * d) (hr := by exact (qV rfl (by simp only [xM]; omega) (by simp only [xN]; omega)))) <| zE (aH ((b * c) - (a * d)) (hr := by exact (qV rfl (by simp only [xM]; omega) (by simp only [xN]; omega)))) <| zE (nI (((2 : Nat) : Int) * ((b * c) - (a * d))) (hr := by exact (qV rfl (by simp only [xM]; omega) (by simp only [xN]; omega)))) <| zM <| zM <| zE (nI (b * d) (hr := by exact (qV rfl (by simp only [xM]; omega) (by simp only [xN]; omega)))) <| zM <| zM <| zE (nI (a * c) (hr := by exact (qV rfl (by simp only [xM]; omega) (by simp only [xN]; omega)))) <| zE (zAd ((b * d) + (a * c)) (hr := by exact (qV rfl (by simp only [xM]; omega) (by simp only [xN]; omega)))) <| zE (nI (((2 : Nat) : Int) * ((b * d) + (a * c))) (hr := by exact (qV rfl (by simp only [xM]; omega) (by simp only [xN]; omega)))) <| zE (oBf ar203 ze203 zo203) <| zM <| zM <| zE (nI (b * c) (hr := by exact (qV rfl (by simp only [xM]; omega) (by simp only [xN]; omega)))) <| zM <| zM <| zE (nI (a * d) (hr := by exact (qV rfl (by simp only [xM]; omega) (by simp only [xN]; omega)))) <| zE (zAd ((b * c) + (a * d)) (hr := by exact (qV rfl (by simp only [xM]; omega) (by simp only [xN]; omega)))) <| zE (nI (((2 : Nat) : Int) * ((b * c) + (a * d))) (hr := by exact (qV rfl (by simp only [xM]; omega) (by simp only [xN]; omega)))) <| zM <| zM <| zE (nI (a * a) (hr := by exact (qV rfl (by simp only [xM]; omega) (by simp only [xN]; omega)))) <| zM <| zM <| zE (nI (b * b) (hr := by exact (qV rfl (by simp only [xM]; omega) (by simp only [xN]; omega)))) <| zE (aH ((a * a) - (b * b)) (hr := by exact (qV rfl (by simp only [xM]; omega) (by simp only [xN]; omega)))) <| zM <| zM <| zE (nI (c * c) (hr := by exact (qV rfl (by simp only [xM]; omega) (by simp only [xN]; omega)))) <| zE (zAd (((a * a) - (b * b)) + (c * c)) (hr := by exact (qV rfl (by simp only [xM]; omega) (by simp only [xN]; omega)))) <| zM <| zM <| zE (nI (d * d) (hr := by exact (qV rfl (by simp only [xM]; omega) (by simp only [xN]; omega)))) <| zE (aH ((((a * a) - (b * b)) + (c * c)) - (d * d)) (hr := by exact (qV rfl (by simp only [xM]; omega) (by simp only [xN]; omega)))) <| zM <| zM <| zE (nI (c * d) (hr := by exact (qV rfl (by simp only [xM]; omega) (by simp only [xN]; omega)))) <| zM <| zM <| zE (nI (a * b) (hr := by exact (qV rfl (by simp only [xM]; omega) (by simp only [xN]; omega)))) <| zE (aH ((c * d) - (a * b)) (hr := by exact (qV rfl (by simp only [xM]; omega) (by simp only [xN]; omega)))) <| zE (nI (((2 : Nat) : Int) * ((c * d) - (a * b))) (hr := by exact (qV rfl (by simp only [xM]; omega) (by simp only [xN]; omega)))) <| zE (oBf ar203 ze203 zo203) <| zM <| zM <| zE (nI (b * d) (hr := by exact (qV rfl (by simp only [xM]; omega) (by simp only [xN]; omega)))) <| zM <| zM <| zE (nI (a * c) (hr := by exact (qV rfl (by simp only [xM]; omega) (by simp only [xN]; omega)))) <| zE (aH ((b * d) - (a * c)) (hr := by exact (qV rfl (by simp only [xM]; omega) (by simp only [xN]; omega)))) <| zE (nI (((2 : Nat) : Int) * ((b * d) - (a * c))) (hr := by exact (qV rfl (by simp only [xM]; omega) (by simp only [xN]; omega)))) <| zM <| zM <| zE (nI (c * d) (hr := by exact (qV rfl (by simp only [xM]; omega) (by simp only [xN]; omega)))) <| zM <| zM <| zE (nI (a * b) (hr := by exact (qV rfl (by simp only [xM]; omega) (by simp only [xN]; omega)))) <| zE (zAd ((c * d) + (a * b)) (hr := by exact (qV rfl (by simp only [xM]; omega) (by simp only [xN]; omega)))) <| zE (nI (((2 : Nat) : Int) * ((c * d) + (a * b))) (hr := by exact (qV rfl (by simp only [xM]; omega) (by simp only [xN]; omega)))) <| zM <| zM <| zE (nI (a * a) (hr := by exact (qV rfl (by simp only [xM]; omega) (by simp only [xN]; omega)))) <| zM <| zM <| zE (nI (b * b) (hr := by exact (qV rfl (by simp only [xM]; omega) (by simp only [xN]; omega)))) <| zE (aH ((a * a) - (b * b)) (hr := by exact (qV rfl (by simp only [xM]; omega) (by simp only [xN]; omega)))) <| zM <| zM <| zE (nI (c * c) (hr := by exact (qV rfl (by simp only [xM]; omega) (by simp only [xN]; omega)))) <| zE (aH (((a * a) - (b * b)) - (c * c)) (hr := by exact (qV rfl (by simp only [xM]; omega) (by simp only [xN]; omega)))) <| zM <| zM <| zE (nI (d * d) (hr := by exact (qV rfl (by simp only [xM]; omega) (by simp only [xN]; omega)))) <| zE (zAd ((((a * a) - (b * b)) - (c * c)) + (d * d)) (hr := by exact (qV rfl (by simp only [xM]; omega) (by simp only [xN]; omega)))) <| zE (oBf ar203 ze203 zo203) <| zE (oBf ar204 ze204 zo204) <| zN (qI 1 ze204 zo204) <| zT (kR sh204) <| zZ) ?_
 refine jA <| kx [(10, (.own 2 52 1 0))] [(2, some (bm kP []))] (zO 2 52 1 <| zZ) ?_
 refine jA <| jA <| kx [(128, (.d y1)), (129, (kE 0))] [] (zR (kA sh204) <| zM <| zZ) ?_
 refine jE <| qE 20 ?_
 refine qK <| jA <| kx [(130, (vb true))] [] (zE (qY true qS) <| zZ) ?_
 refine jA <| kD ?_
 refine jD <| jA <| jE <| jA <| kx [(12, (.ref 3 0))] [(3, some (bx y2))] (zE (iF ar204 sh203 (fun h => by cases h) 0) <| zH (qI 3 ze203 zo203) <| zT (kR sh203) <| zZ) ?_
 refine jA <| kx [(13, (.own 4 42 4 0))] [(4, some (aF jO []))] (zO 4 42 4 <| zZ) ?_
 refine jA <| jA <| kx [(132, (.d y2)), (133, (kE 0))] [] (zR (kA sh203) <| zM <| zZ) ?_
 refine jE <| qE 20 ?_
 refine qK <| jA <| kx [(134, (vb true))] [] (zE (qY true qS) <| zZ) ?_
 refine jA <| kD ?_
 refine jD <| jA <| jE <| jA <| kx [(15, (vi ((((a * a) + (b * b)) - (c * c)) - (d * d))))] [] (zE (iF ar203 vW (fun _ => rfl) 0) <| zM <| zZ) ?_
 refine jA ?_
 have bn1 : QL (Rat.divInt ((((a * a) + (b * b)) - (c * c)) - (d * d)) (nq a b c d)) 3 := (qO (n := 3) (jU (by omega) (by omega)) (jU (by omega) (by omega)) (by decide))
 refine kx [(16, (.ref 5 0))] [(5, some (bx (jO y5)))] (zM <| zR (kA yO) <| zE (kC (fD a b c d (by omega) (by omega) (by omega) (by omega))) <| zE (kC (q_of ((((a * a) + (b * b)) - (c * c)) - (d * d)) (by omega) (by omega) (nq a b c d) (by omega) (by omega) hn0)) <| zM <| zE uH <| zE uH <| zH (qI 5 qM qR) <| zT (kR jS) <| zM <| zZ) ?_
 refine kX (wk (l := [(1, (.ref 0 0)), (10, (.own 2 52 1 0)), (13, (.own 4 42 4 0)), (16, (.ref 5 0)), (128, (.d y1)), (129, (kE 0)), (132, (.d y2)), (133, (kE 0))]) (b := [(0, some (bx (uI (jN.mk a b c d)))), (2, some (bm kP [])), (4, some (aF jO [])), (5, some (bx (jO y5)))])) ?_
 refine kf [(13, (.own 4 42 4 (([] ++ [y5]).length)))] [(4, some (aF jO ([] ++ [y5])))] (zM <| zR (kA jS) <| zE (cX uO qM qR) <| zAS jO [] [y5] rfl uO qM by42 (hbig := by exact (by simp +zetaDelta [maxLen] <;> omega)) (hbig' := by exact (by simp +zetaDelta <;> omega)) <| zM <| zF) ?_
 refine kx [(133, (kE 1))] [] (zE (qQ 1 (hr := by decide)) <| zM <| zZ) ?_
 refine jJ (jZ.refl _) ?_
 refine jA <| kx [(134, (vb true))] [] (zE (qY true qS) <| zZ) ?_
 refine jA <| kD ?_
 refine jD <| jA <| jE <| jA <| kx [(15, (vi (((2 : Nat) : Int) * ((b * c) - (a * d)))))] [] (zE (iF ar203 vW (fun _ => rfl) 1) <| zM <| zZ) ?_
 refine jA ?_
 have bn2 : QL (Rat.divInt (2 * ((b * c) - (a * d))) (nq a b c d)) 3 := (qO (n := 3) (jU (by omega) (by omega)) (jU (by omega) (by omega)) (by decide))
 refine kx [(16, (.ref 6 0))] [(6, some (bx (jO y8)))] (zM <| zR (kA yO) <| zE (kC (fD a b c d (by omega) (by omega) (by omega) (by omega))) <| zE (kC (q_of (((2 : Nat) : Int) * ((b * c) - (a * d))) (by omega) (by omega) (nq a b c d) (by omega) (by omega) hn0)) <| zM <| zE uH <| zE uH <| zH (qI 6 qM qR) <| zT (kR jS) <| zM <| zZ) ?_
 refine kf [(13, (.own 4 42 4 ((([] ++ [y5]) ++ [y8]).length)))] [(4, some (aF jO (([] ++ [y5]) ++ [y8])))] (zM <| zR (kA jS) <| zE (cX uO qM qR) <| zAS jO ([] ++ [y5]) [y8] rfl uO qM by42 (hbig := by exact (by simp +zetaDelta [maxLen] <;> omega)) (hbig' := by exact (by simp +zetaDelta <;> omega)) <| zM <| zF) ?_
 refine kx [(133, (kE 2))] [] (zE (qQ 2 (hr := by decide)) <| zM <| zZ) ?_
 refine jJ (jZ.refl _) ?_
 refine jA <| kx [(134, (vb true))] [] (zE (qY true qS) <| zZ) ?_
 refine jA <| kD ?_
 refine jD <| jA <| jE <| jA <| kx [(15, (vi (((2 : Nat) : Int) * ((b * d) + (a * c)))))] [] (zE (iF ar203 vW (fun _ => rfl) 2) <| zM <| zZ) ?_
 refine jA ?_
 have bn3 : QL (Rat.divInt (2 * ((b * d) + (a * c))) (nq a b c d)) 3 := (qO (n := 3) (jU (by omega) (by omega)) (jU (by omega) (by omega)) (by decide))
 refine kx [(16, (.ref 7 0))] [(7, some (bx (jO y9)))] (zM <| zR (kA yO) <| zE (kC (fD a b c d (by omega) (by omega) (by omega) (by omega))) <| zE (kC (q_of (((2 : Nat) : Int) * ((b * d) + (a * c))) (by omega) (by omega) (nq a b c d) (by omega) (by omega) hn0)) <| zM <| zE uH <| zE uH <| zH (qI 7 qM qR) <| zT (kR jS) <| zM <| zZ) ?_
 refine kf [(13, (.own 4 42 4 (((([] ++ [y5]) ++ [y8]) ++ [y9]).length)))] [(4, some (aF jO ((([] ++ [y5]) ++ [y8]) ++ [y9])))] (zM <| zR (kA jS) <| zE (cX uO qM qR) <| zAS jO (([] ++ [y5]) ++ [y8]) [y9] rfl uO qM by42 (hbig := by exact (by simp +zetaDelta [maxLen] <;> omega)) (hbig' := by exact (by simp +zetaDelta <;> omega)) <| zM <| zF) ?_
 refine kx [(133, (kE 3))] [] (zE (qQ 3 (hr := by decide)) <| zM <| zZ) ?_
 refine jJ (jZ.refl _) ?_
 refine jA <| kx [(134, (vb false))] [] (zE (qY false qS) <| zZ) ?_
 refine jA <| kO ?_
 refine kQ <| kX (xY (t := 13) (k := 4) (es := List.map jO ((([] ++ [y5]) ++ [y8]) ++ [y9])) rfl rfl (xZ _ _ (fun _ => rfl)) (xU _ _ rfl) (cH jO ((([] ++ [y5]) ++ [y8]) ++ [y9]) (fun _ => rfl) rfl)) ?_
 refine kf [(10, (.own 2 52 1 (([] ++ [((([] ++ [y5]) ++ [y8]) ++ [y9])]).length)))] [(2, some (bm kP ([] ++ [((([] ++ [y5]) ++ [y8]) ++ [y9])])))] (zM <| zM <| zE (cX yN iN zo52) <| zA kP [] [((([] ++ [y5]) ++ [y8]) ++ [y9])] rfl yN iN by52 (hbig := by exact (by simp +zetaDelta [maxLen] <;> omega)) (hbig' := by exact (by simp +zetaDelta <;> omega)) <| zM <| zF) ?_
 refine kX (wk (l := [(1, (.ref 0 0)), (10, (.own 2 52 1 (([] ++ [((([] ++ [y5]) ++ [y8]) ++ [y9])]).length))), (128, (.d y1)), (129, (kE 0))]) (b := [(0, some (bx (uI (jN.mk a b c d)))), (2, some (bm kP ([] ++ [((([] ++ [y5]) ++ [y8]) ++ [y9])])))])) ?_
 refine kx [(129, (kE 1))] [] (zE (qQ 1 (hr := by decide)) <| zM <| zZ) ?_
 refine jJ (jZ.refl _) ?_
 refine jA <| kx [(130, (vb true))] [] (zE (qY true qS) <| zZ) ?_
 refine jA <| kD ?_
 refine jD <| jA <| jE <| jA <| kx [(12, (.ref 8 0))] [(8, some (bx y3))] (zE (iF ar204 sh203 (fun h => by cases h) 1) <| zH (qI 8 ze203 zo203) <| zT (kR sh203) <| zZ) ?_
 refine jA <| kx [(13, (.own 9 42 4 0))] [(9, some (aF jO []))] (zO 9 42 4 <| zZ) ?_
 refine jA <| jA <| kx [(132, (.d y3)), (133, (kE 0))] [] (zR (kA sh203) <| zM <| zZ) ?_
 refine jE <| qE 20 ?_
 refine qK <| jA <| kx [(134, (vb true))] [] (zE (qY true qS) <| zZ) ?_
 refine jA <| kD ?_
 refine jD <| jA <| jE <| jA <| kx [(15, (vi (((2 : Nat) : Int) * ((b * c) + (a * d)))))] [] (zE (iF ar203 vW (fun _ => rfl) 0) <| zM <| zZ) ?_
 refine jA ?_
 have bn4 : QL (Rat.divInt (2 * ((b * c) + (a * d))) (nq a b c d)) 3 := (qO (n := 3) (jU (by omega) (by omega)) (jU (by omega) (by omega)) (by decide))
 refine kx [(16, (.ref 10 0))] [(10, some (bx (jO y10)))] (zM <| zR (kA yO) <| zE (kC (fD a b c d (by omega) (by omega) (by omega) (by omega))) <| zE (kC (q_of (((2 : Nat) : Int) * ((b * c) + (a * d))) (by omega) (by omega) (nq a b c d) (by omega) (by omega) hn0)) <| zM <| zE uH <| zE uH <| zH (qI 10 qM qR) <| zT (kR jS) <| zM <| zZ) ?_
 refine kf [(13, (.own 9 42 4 (([] ++ [y10]).length)))] [(9, some (aF jO ([] ++ [y10])))] (zM <| zR (kA jS) <| zE (cX uO qM qR) <| zAS jO [] [y10] rfl uO qM by42 (hbig := by exact (by simp +zetaDelta [maxLen] <;> omega)) (hbig' := by exact (by simp +zetaDelta <;> omega)) <| zM <| zF) ?_
 refine kx [(133, (kE 1))] [] (zE (qQ 1 (hr := by decide)) <| zM <| zZ) ?_
 refine jJ (jZ.refl _) ?_
 refine jA <| kx [(134, (vb true))] [] (zE (qY true qS) <| zZ) ?_
 refine jA <| kD ?_
 refine jD <| jA <| jE <| jA <| kx [(15, (vi ((((a * a) - (b * b)) + (c * c)) - (d * d))))] [] (zE (iF ar203 vW (fun _ => rfl) 1) <| zM <| zZ) ?_
 refine jA ?_
 have bn5 : QL (Rat.divInt ((((a * a) - (b * b)) + (c * c)) - (d * d)) (nq a b c d)) 3 := (qO (n := 3) (jU (by omega) (by omega)) (jU (by omega) (by omega)) (by decide))
 refine kx [(16, (.ref 11 0))] [(11, some (bx (jO y6)))] (zM <| zR (kA yO) <| zE (kC (fD a b c d (by omega) (by omega) (by omega) (by omega))) <| zE (kC (q_of ((((a * a) - (b * b)) + (c * c)) - (d * d)) (by omega) (by omega) (nq a b c d) (by omega) (by omega) hn0)) <| zM <| zE uH <| zE uH <| zH (qI 11 qM qR) <| zT (kR jS) <| zM <| zZ) ?_
 refine kf [(13, (.own 9 42 4 ((([] ++ [y10]) ++ [y6]).length)))] [(9, some (aF jO (([] ++ [y10]) ++ [y6])))] (zM <| zR (kA jS) <| zE (cX uO qM qR) <| zAS jO ([] ++ [y10]) [y6] rfl uO qM by42 (hbig := by exact (by simp +zetaDelta [maxLen] <;> omega)) (hbig' := by exact (by simp +zetaDelta <;> omega)) <| zM <| zF) ?_
 refine kX (wk (l := [(1, (.ref 0 0)), (10, (.own 2 52 1 (([] ++ [((([] ++ [y5]) ++ [y8]) ++ [y9])]).length))), (13, (.own 9 42 4 ((([] ++ [y10]) ++ [y6]).length))), (128, (.d y1)), (129, (kE 1)), (132, (.d y3)), (133, (kE 1))]) (b := [(0, some (bx (uI (jN.mk a b c d)))), (2, some (bm kP ([] ++ [((([] ++ [y5]) ++ [y8]) ++ [y9])]))), (9, some (aF jO (([] ++ [y10]) ++ [y6])))])) ?_
 refine kx [(133, (kE 2))] [] (zE (qQ 2 (hr := by decide)) <| zM <| zZ) ?_
 refine jJ (jZ.refl _) ?_
 refine jA <| kx [(134, (vb true))] [] (zE (qY true qS) <| zZ) ?_
 refine jA <| kD ?_
 refine jD <| jA <| jE <| jA <| kx [(15, (vi (((2 : Nat) : Int) * ((c * d) - (a * b)))))] [] (zE (iF ar203 vW (fun _ => rfl) 2) <| zM <| zZ) ?_
 refine jA ?_
 have bn6 : QL (Rat.divInt (2 * ((c * d) - (a * b))) (nq a b c d)) 3 := (qO (n := 3) (jU (by omega) (by omega)) (jU (by omega) (by omega)) (by decide))
 refine kx [(16, (.ref 12 0))] [(12, some (bx (jO y11)))] (zM <| zR (kA yO) <| zE (kC (fD a b c d (by omega) (by omega) (by omega) (by omega))) <| zE (kC (q_of (((2 : Nat) : Int) * ((c * d) - (a * b))) (by omega) (by omega) (nq a b c d) (by omega) (by omega) hn0)) <| zM <| zE uH <| zE uH <| zH (qI 12 qM qR) <| zT (kR jS) <| zM <| zZ) ?_
 refine kf [(13, (.own 9 42 4 (((([] ++ [y10]) ++ [y6]) ++ [y11]).length)))] [(9, some (aF jO ((([] ++ [y10]) ++ [y6]) ++ [y11])))] (zM <| zR (kA jS) <| zE (cX uO qM qR) <| zAS jO (([] ++ [y10]) ++ [y6]) [y11] rfl uO qM by42 (hbig := by exact (by simp +zetaDelta [maxLen] <;> omega)) (hbig' := by exact (by simp +zetaDelta <;> omega)) <| zM <| zF) ?_
 refine kx [(133, (kE 3))] [] (zE (qQ 3 (hr := by decide)) <| zM <| zZ) ?_
 refine jJ (jZ.refl _) ?_
 refine jA <| kx [(134, (vb false))] [] (zE (qY false qS) <| zZ) ?_
 refine jA <| kO ?_
 refine kQ <| kX (xY (t := 13) (k := 9) (es := List.map jO ((([] ++ [y10]) ++ [y6]) ++ [y11])) rfl rfl (xZ _ _ (fun _ => rfl)) (xU _ _ rfl) (cH jO ((([] ++ [y10]) ++ [y6]) ++ [y11]) (fun _ => rfl) rfl)) ?_
 refine kf [(10, (.own 2 52 1 ((([] ++ [((([] ++ [y5]) ++ [y8]) ++ [y9])]) ++ [((([] ++ [y10]) ++ [y6]) ++ [y11])]).length)))] [(2, some (bm kP (([] ++ [((([] ++ [y5]) ++ [y8]) ++ [y9])]) ++ [((([] ++ [y10]) ++ [y6]) ++ [y11])])))] (zM <| zM <| zE (cX yN iN zo52) <| zA kP ([] ++ [((([] ++ [y5]) ++ [y8]) ++ [y9])]) [((([] ++ [y10]) ++ [y6]) ++ [y11])] rfl yN iN by52 (hbig := by exact (by simp +zetaDelta [maxLen] <;> omega)) (hbig' := by exact (by simp +zetaDelta <;> omega)) <| zM <| zF) ?_
 refine kx [(129, (kE 2))] [] (zE (qQ 2 (hr := by decide)) <| zM <| zZ) ?_
 refine jJ (jZ.refl _) ?_
 refine jA <| kx [(130, (vb true))] [] (zE (qY true qS) <| zZ) ?_
 refine jA <| kD ?_
 refine jD <| jA <| jE <| jA <| kx [(12, (.ref 13 0))] [(13, some (bx y4))] (zE (iF ar204 sh203 (fun h => by cases h) 2) <| zH (qI 13 ze203 zo203) <| zT (kR sh203) <| zZ) ?_
 refine jA <| kx [(13, (.own 14 42 4 0))] [(14, some (aF jO []))] (zO 14 42 4 <| zZ) ?_
 refine jA <| jA <| kx [(132, (.d y4)), (133, (kE 0))] [] (zR (kA sh203) <| zM <| zZ) ?_
 refine jE <| qE 20 ?_
 refine qK <| jA <| kx [(134, (vb true))] [] (zE (qY true qS) <| zZ) ?_
 refine jA <| kD ?_
 refine jD <| jA <| jE <| jA <| kX (wk (l := [(1, (.ref 0 0)), (10, (.own 2 52 1 ((([] ++ [((([] ++ [y5]) ++ [y8]) ++ [y9])]) ++ [((([] ++ [y10]) ++ [y6]) ++ [y11])]).length))), (13, (.own 14 42 4 0)), (128, (.d y1)), (129, (kE 2)), (132, (.d y4)), (133, (kE 0)), (134, (vb true))]) (b := [(0, some (bx (uI (jN.mk a b c d)))), (14, some (aF jO [])), (2, some (bm kP (([] ++ [((([] ++ [y5]) ++ [y8]) ++ [y9])]) ++ [((([] ++ [y10]) ++ [y6]) ++ [y11])])))])) ?_
 refine kx [(15, (vi (((2 : Nat) : Int) * ((b * d) - (a * c)))))] [] (zE (iF ar203 vW (fun _ => rfl) 0) <| zM <| zZ) ?_
 refine jA ?_
 have bn7 : QL (Rat.divInt (2 * ((b * d) - (a * c))) (nq a b c d)) 3 := (qO (n := 3) (jU (by omega) (by omega)) (jU (by omega) (by omega)) (by decide))
 refine kx [(16, (.ref 15 0))] [(15, some (bx (jO y12)))] (zM <| zR (kA yO) <| zE (kC (fD a b c d (by omega) (by omega) (by omega) (by omega))) <| zE (kC (q_of (((2 : Nat) : Int) * ((b * d) - (a * c))) (by omega) (by omega) (nq a b c d) (by omega) (by omega) hn0)) <| zM <| zE uH <| zE uH <| zH (qI 15 qM qR) <| zT (kR jS) <| zM <| zZ) ?_
 refine kf [(13, (.own 14 42 4 (([] ++ [y12]).length)))] [(14, some (aF jO ([] ++ [y12])))] (zM <| zR (kA jS) <| zE (cX uO qM qR) <| zAS jO [] [y12] rfl uO qM by42 (hbig := by exact (by simp +zetaDelta [maxLen] <;> omega)) (hbig' := by exact (by simp +zetaDelta <;> omega)) <| zM <| zF) ?_
 refine kx [(133, (kE 1))] [] (zE (qQ 1 (hr := by decide)) <| zM <| zZ) ?_
 refine jJ (jZ.refl _) ?_
 refine jA <| kx [(134, (vb true))] [] (zE (qY true qS) <| zZ) ?_
 refine jA <| kD ?_
 refine jD <| jA <| jE <| jA <| kx [(15, (vi (((2 : Nat) : Int) * ((c * d) + (a * b)))))] [] (zE (iF ar203 vW (fun _ => rfl) 1) <| zM <| zZ) ?_
 refine jA ?_
 have bn8 : QL (Rat.divInt (2 * ((c * d) + (a * b))) (nq a b c d)) 3 := (qO (n := 3) (jU (by omega) (by omega)) (jU (by omega) (by omega)) (by decide))
 refine kx [(16, (.ref 16 0))] [(16, some (bx (jO y13)))] (zM <| zR (kA yO) <| zE (kC (fD a b c d (by omega) (by omega) (by omega) (by omega))) <| zE (kC (q_of (((2 : Nat) : Int) * ((c * d) + (a * b))) (by omega) (by omega) (nq a b c d) (by omega) (by omega) hn0)) <| zM <| zE uH <| zE uH <| zH (qI 16 qM qR) <| zT (kR jS) <| zM <| zZ) ?_
 refine kf [(13, (.own 14 42 4 ((([] ++ [y12]) ++ [y13]).length)))] [(14, some (aF jO (([] ++ [y12]) ++ [y13])))] (zM <| zR (kA jS) <| zE (cX uO qM qR) <| zAS jO ([] ++ [y12]) [y13] rfl uO qM by42 (hbig := by exact (by simp +zetaDelta [maxLen] <;> omega)) (hbig' := by exact (by simp +zetaDelta <;> omega)) <| zM <| zF) ?_
 refine kx [(133, (kE 2))] [] (zE (qQ 2 (hr := by decide)) <| zM <| zZ) ?_
 refine jJ (jZ.refl _) ?_
 refine jA <| kx [(134, (vb true))] [] (zE (qY true qS) <| zZ) ?_
 refine jA <| kD ?_
 refine jD <| jA <| jE <| jA <| kx [(15, (vi ((((a * a) - (b * b)) - (c * c)) + (d * d))))] [] (zE (iF ar203 vW (fun _ => rfl) 2) <| zM <| zZ) ?_
 refine jA ?_
 have bn9 : QL (Rat.divInt ((((a * a) - (b * b)) - (c * c)) + (d * d)) (nq a b c d)) 3 := (qO (n := 3) (jU (by omega) (by omega)) (jU (by omega) (by omega)) (by decide))
 refine kx [(16, (.ref 17 0))] [(17, some (bx (jO y7)))] (zM <| zR (kA yO) <| zE (kC (fD a b c d (by omega) (by omega) (by omega) (by omega))) <| zE (kC (q_of ((((a * a) - (b * b)) - (c * c)) + (d * d)) (by omega) (by omega) (nq a b c d) (by omega) (by omega) hn0)) <| zM <| zE uH <| zE uH <| zH (qI 17 qM qR) <| zT (kR jS) <| zM <| zZ) ?_
 refine kf [(13, (.own 14 42 4 (((([] ++ [y12]) ++ [y13]) ++ [y7]).length)))] [(14, some (aF jO ((([] ++ [y12]) ++ [y13]) ++ [y7])))] (zM <| zR (kA jS) <| zE (cX uO qM qR) <| zAS jO (([] ++ [y12]) ++ [y13]) [y7] rfl uO qM by42 (hbig := by exact (by simp +zetaDelta [maxLen] <;> omega)) (hbig' := by exact (by simp +zetaDelta <;> omega)) <| zM <| zF) ?_
 refine kx [(133, (kE 3))] [] (zE (qQ 3 (hr := by decide)) <| zM <| zZ) ?_
 refine jJ (jZ.refl _) ?_
 refine jA <| kX (wk (l := [(1, (.ref 0 0)), (10, (.own 2 52 1 ((([] ++ [((([] ++ [y5]) ++ [y8]) ++ [y9])]) ++ [((([] ++ [y10]) ++ [y6]) ++ [y11])]).length))), (13, (.own 14 42 4 (((([] ++ [y12]) ++ [y13]) ++ [y7]).length))), (128, (.d y1)), (129, (kE 2)), (132, (.d y4)), (133, (kE 3))]) (b := [(0, some (bx (uI (jN.mk a b c d)))), (14, some (aF jO ((([] ++ [y12]) ++ [y13]) ++ [y7]))), (2, some (bm kP (([] ++ [((([] ++ [y5]) ++ [y8]) ++ [y9])]) ++ [((([] ++ [y10]) ++ [y6]) ++ [y11])])))])) ?_
 refine kx [(134, (vb false))] [] (zE (qY false qS) <| zZ) ?_
 refine jA <| kO ?_
 refine kQ <| kX (xY (t := 13) (k := 14) (es := List.map jO ((([] ++ [y12]) ++ [y13]) ++ [y7])) rfl rfl (xZ _ _ (fun _ => rfl)) (xU _ _ rfl) (cH jO ((([] ++ [y12]) ++ [y13]) ++ [y7]) (fun _ => rfl) rfl)) ?_
 refine kf [(10, (.own 2 52 1 (((([] ++ [((([] ++ [y5]) ++ [y8]) ++ [y9])]) ++ [((([] ++ [y10]) ++ [y6]) ++ [y11])]) ++ [((([] ++ [y12]) ++ [y13]) ++ [y7])]).length)))] [(2, some (bm kP ((([] ++ [((([] ++ [y5]) ++ [y8]) ++ [y9])]) ++ [((([] ++ [y10]) ++ [y6]) ++ [y11])]) ++ [((([] ++ [y12]) ++ [y13]) ++ [y7])])))] (zM <| zM <| zE (cX yN iN zo52) <| zA kP (([] ++ [((([] ++ [y5]) ++ [y8]) ++ [y9])]) ++ [((([] ++ [y10]) ++ [y6]) ++ [y11])]) [((([] ++ [y12]) ++ [y13]) ++ [y7])] rfl yN iN by52 (hbig := by exact (by simp +zetaDelta [maxLen] <;> omega)) (hbig' := by exact (by simp +zetaDelta <;> omega)) <| zM <| zF) ?_
 refine kx [(129, (kE 3))] [] (zE (qQ 3 (hr := by decide)) <| zM <| zZ) ?_
 refine jJ (jZ.refl _) ?_
 refine jA <| kx [(130, (vb false))] [] (zE (qY false qS) <| zZ) ?_
 refine jA <| kO ?_
 refine kQ <| jA <| kX (xY (t := 10) (k := 2) (es := List.map kP ((([] ++ [((([] ++ [y5]) ++ [y8]) ++ [y9])]) ++ [((([] ++ [y10]) ++ [y6]) ++ [y11])]) ++ [((([] ++ [y12]) ++ [y13]) ++ [y7])])) rfl rfl (xV _ _ (fun _ => rfl)) (xU _ _ rfl) (yE _ _ (fun _ => rfl) rfl)) ?_
 refine kx [(2, (vl 52 1 kP ((([] ++ [((([] ++ [y5]) ++ [y8]) ++ [y9])]) ++ [((([] ++ [y10]) ++ [y6]) ++ [y11])]) ++ [((([] ++ [y12]) ++ [y13]) ++ [y7])]))), (3, (kE 0))] [] (zM <| zM <| zM <| zZ) ?_
 refine jG ⟨_, (.tmp (d := (.sl 52 1 (List.map kP ((([] ++ [((([] ++ [(jC (Rat.divInt ((((a * a) + (b * b)) - (c * c)) - (d * d)) (nq a b c d)))]) ++ [(jC (Rat.divInt (2 * ((b * c) - (a * d))) (nq a b c d)))]) ++ [(jC (Rat.divInt (2 * ((b * d) + (a * c))) (nq a b c d)))])]) ++ [((([] ++ [(jC (Rat.divInt (2 * ((b * c) + (a * d))) (nq a b c d)))]) ++ [(jC (Rat.divInt ((((a * a) - (b * b)) + (c * c)) - (d * d)) (nq a b c d)))]) ++ [(jC (Rat.divInt (2 * ((c * d) - (a * b))) (nq a b c d)))])]) ++ [((([] ++ [(jC (Rat.divInt (2 * ((b * d) - (a * c))) (nq a b c d)))]) ++ [(jC (Rat.divInt (2 * ((c * d) + (a * b))) (nq a b c d)))]) ++ [(jC (Rat.divInt ((((a * a) - (b * b)) - (c * c)) + (d * d)) (nq a b c d)))])])))) rfl (.tmp (d := (.val (.int .i64 (((0 : Nat) : Int))))) rfl .nil)), ?_⟩
 rfl
theorem qs_rmat (a b c d : Int) (ha : -1048576 ≤ a ∧ a ≤ 1048576) (hb : -1048576 ≤ b ∧ b ≤ 1048576) (hc : -1048576 ≤ c ∧ c ≤ 1048576) (hd : -1048576 ≤ d ∧ d ≤ 1048576) (hq : gS a b c d = 0) (hn0 : nq a b c d ≠ 0) : kF Tryz.prog 132 [(uI (jN.mk a b c d))] (.tup [(.sl 52 1 (List.map kP [[(jC (Q00 a b c d)), (jC (Q01 a b c d)), (jC (Q02 a b c d))], [(jC (Q10 a b c d)), (jC (Q11 a b c d)), (jC (Q12 a b c d))], [(jC (Q20 a b c d)), (jC (Q21 a b c d)), (jC (Q22 a b c d))]])), (.val (.int .i64 (0)))]) := by
 have saa := vJ ha ha
 have sab := vJ ha hb
 have sac := vJ ha hc
 have sad := vJ ha hd
 have sbb := vJ hb hb
 have sbc := vJ hb hc
 have sbd := vJ hb hd
 have scc := vJ hc hc
 have scd := vJ hc hd
 have sdd := vJ hd hd
 have hnq := nB ha hb hc hd
 let y13 := (jC (Rat.divInt (2 * ((b * d) - (a * c))) (nq a b c d)))
 let y12 := (jC (Rat.divInt (2 * ((b * c) + (a * d))) (nq a b c d)))
 let y11 := (jC (Rat.divInt ((((a * a) - (b * b)) + (c * c)) - (d * d)) (nq a b c d)))
 let y10 := (jC (Rat.divInt ((((a * a) + (b * b)) - (c * c)) - (d * d)) (nq a b c d)))
 let y9 := [y13, (jC (Rat.divInt (2 * ((c * d) + (a * b))) (nq a b c d)))]
 let y8 := [(((2 : Nat) : Int) * ((b * d) - (a * c))), (((2 : Nat) : Int) * ((c * d) + (a * b))), ((((a * a) - (b * b)) - (c * c)) + (d * d))]
 let y7 := [(((2 : Nat) : Int) * ((b * c) + (a * d))), ((((a * a) - (b * b)) + (c * c)) - (d * d)), (((2 : Nat) : Int) * ((c * d) - (a * b)))]
 let y6 := [((((a * a) + (b * b)) - (c * c)) - (d * d)), (((2 : Nat) : Int) * ((b * c) - (a * d))), (((2 : Nat) : Int) * ((b * d) + (a * c)))]
 let y5 := [y12, y11]
 let y4 := [y10, (jC (Rat.divInt (2 * ((b * c) - (a * d))) (nq a b c d)))]
 let y3 := [y13, (jC (Rat.divInt (2 * ((c * d) + (a * b))) (nq a b c d))), (jC (Rat.divInt ((((a * a) - (b * b)) - (c * c)) + (d * d)) (nq a b c d)))]
 let y2 := [y12, y11, (jC (Rat.divInt (2 * ((c * d) - (a * b))) (nq a b c d)))]
 let y1 := [y10, (jC (Rat.divInt (2 * ((b * c) - (a * d))) (nq a b c d))), (jC (Rat.divInt (2 * ((b * d) + (a * c))) (nq a b c d)))]
 refine jL Tryz.func132 rfl cb132 rfl ?_
 show uK _ _ _ _ ⟨[(0, (.d (uI (jN.mk a b c d))))], []⟩
 refine jA <| kx [(1, (.ref 0 0))] [(0, some (bx (uI (jN.mk a b c d))))] (zN (uX 0) <| zE (oNl 52 1) <| zM <| zZ) ?_
 refine jA <| kx [(4, (kE (gS a b c d)))] [] (zR (kA yO) <| zE (kC (qs_chk a b c d)) <| zM <| zZ) ?_
 refine jA <| jA <| kx [(19, (vb false))] [] (zM <| zE (qY false mR (by exact bne_eq_false_iff_eq.2 (by rw [show (gS a b c d) = 0 from hq]; rfl))) <| zZ) ?_
 refine kO ?_
 refine jD <| jA <| kx [(5, (vi a))] [] (zE (kU dH) <| zR (uM vW) <| zM <| zZ) ?_
 refine jA <| kx [(6, (vi b))] [] (zE (kU dI) <| zR (uM vW) <| zM <| zZ) ?_
 refine jA <| kx [(7, (vi c))] [] (zE (kU dF) <| zR (uM vW) <| zM <| zZ) ?_
 refine jA <| kx [(8, (vi d))] [] (zE (kU dC) <| zR (uM vW) <| zM <| zZ) ?_
 refine jA <| kx [(9, (vl 74 1 bY [y6, y7, y8]))] [] (zM <| zM <| zE (nI (a * a) (hr := by exact (qV rfl (by simp only [xM]; omega) (by simp only [xN]; omega)))) <| zM <| zM <| zE (nI (b * b) (hr := by exact (qV rfl (by simp only [xM]; omega) (by simp only [xN]; omega)))) <| zE (zAd ((a * a) + (b * b)) (hr := by exact (qV rfl (by simp only [xM]; omega) (by simp only [xN]; omega)))) <| zM <| zM <| zE (nI (c * c) (hr := by exact (qV rfl (by simp only [xM]; omega) (by simp only [xN]; omega)))) <| zE (aH (((a * a) + (b * b)) - (c * c)) (hr := by exact (qV rfl (by simp only [xM]; omega) (by simp only [xN]; omega)))) <| zM <| zM <| zE (nI (d * d) (hr := by exact (qV rfl (by simp only [xM]; omega) (by simp only [xN]; omega)))) <| zE (aH ((((a * a) + (b * b)) - (c * c)) - (d * d)) (hr := by exact (qV rfl (by simp only [xM]; omega) (by simp only [xN]; omega)))) <| zM <| zM <| zE (nI (b * c) (hr := by exact (qV rfl (by simp only [xM]; omega) (by simp only [xN]; omega)))) <| zM <| zM <| zE (nI (a * d) (hr := by exact (qV rfl (by simp only [xM]; omega) (by simp only [xN]; omega)))) <| zE (aH ((b * c) - (a * d)) (hr := by exact (qV rfl (by simp only [xM]; omega) (by simp only [xN]; omega)))) <| zE (nI (((2 : Nat) : Int) * ((b * c) - (a * d))) (hr := by exact (qV rfl (by simp only [xM]; omega) (by simp only [xN]; omega)))) <| zM <| zM <| zE (nI (b * d) (hr := by exact (qV rfl (by simp only [xM]; omega) (by simp only [xN]; omega)))) <| zM <| zM <| zE (nI (a * c) (hr := by exact (qV rfl (by simp only [xM]; omega) (by simp only [xN]; omega)))) <| zE (zAd ((b * d) + (a * c)) (hr := by exact (qV rfl (by simp only [xM]; omega) (by simp only [xN]; omega)))) <| zE (nI (((2 : Nat) : Int) * ((b * d) + (a * c))) (hr := by exact (qV rfl (by simp only [xM]; omega) (by simp only [xN]; omega)))) <| zE (cX nA ze3 zo3) <| zM <| zM <| zE (nI (b * c) (hr := by exact (qV rfl (by simp only [xM]; omega) (by simp only [xN]; omega)))) <| zM <| zM <| zE (nI (a * d) (hr := by exact (qV rfl (by simp only [xM]; omega) (by simp only [xN]; omega)))) <| zE (zAd ((b * c) + (a * d)) (hr := by exact (qV rfl (by simp only [xM]; omega) (by simp only [xN]; omega)))) <| zE (nI (((2 : Nat) : Int) * ((b * c) + (a * d))) (hr := by exact (qV rfl (by simp only [xM]; omega) (by simp only [xN]; omega)))) <| zM <| zM <| zE (nI (a * a) (hr := by exact (qV rfl (by simp only [xM]; omega) (by simp only [xN]; omega)))) <| zM <| zM <| zE (nI (b * b) (hr := by exact (qV rfl (by simp only [xM]; omega) (by simp only [xN]; omega)))) <| zE (aH ((a * a) - (b * b)) (hr := by exact (qV rfl (by simp only [xM]; omega) (by simp only [xN]; omega)))) <| zM <| zM <| zE (nI (c * c) (hr := by exact (qV rfl (by simp only [xM]; omega) (by simp only [xN]; omega)))) <| zE (zAd (((a * a) - (b * b)) + (c * c)) (hr := by exact (qV rfl (by simp only [xM]; omega) (by simp only [xN]; omega)))) <| zM <| zM <| zE (nI (d * d) (hr := by exact (qV rfl (by simp only [xM]; omega) (by simp only [xN]; omega)))) <| zE (aH ((((a * a) - (b * b)) + (c * c)) - (d * d)) (hr := by exact (qV rfl (by simp only [xM]; omega) (by simp only [xN]; omega)))) <| zM <| zM <| zE (nI (c * d) (hr := by exact (qV rfl (by simp only [xM]; omega) (by simp only [xN]; omega)))) <| zM <| zM <| zE (nI (a * b) (hr := by exact (qV rfl (by simp only [xM]; omega) (by simp only [xN]; omega)))) <| zE (aH ((c * d) - (a * b)) (hr := by exact (qV rfl (by simp only [xM]; omega) (by simp only [xN]; omega)))) <| zE (nI (((2 : Nat) : Int) * ((c * d) - (a * b))) (hr := by exact (qV rfl (by simp only [xM]; omega) (by simp only [xN]; omega)))) <| zE (cX nA ze3 zo3) <| zM <| zM <| zE (nI (b * d) (hr := by exact (qV rfl (by simp only [xM]; omega) (by simp only [xN]; omega)))) <| zM <| zM <| zE (nI (a * c) (hr := by exact (qV rfl (by simp only [xM]; omega) (by simp only [xN]; omega)))) <| zE (aH ((b * d) - (a * c)) (hr := by exact (qV rfl (by simp only [xM]; omega) (by simp only [xN]; omega)))) <| zE (nI (((2 : Nat) : Int) * ((b * d) - (a * c))) (hr := by exact (qV rfl (by simp only [xM]; omega) (by simp only [xN]; omega)))) <| zM <| zM <| zE (nI (c * d) (hr := by exact (qV rfl (by simp only [xM]; omega) (by simp only [xN]; omega)))) <| zM <| zM <| zE (nI (a * b) (hr := by exact (qV rfl (by simp only [xM]; omega) (by simp only [xN]; omega)))) <| zE (zAd ((c * d) + (a * b)) (hr := by exact (qV rfl (by simp only [xM]; omega) (by simp only [xN]; omega)))) <| zE (nI (((2 : Nat) : Int) * ((c * d) + (a * b))) (hr := by exact (qV rfl (by simp only [xM]; omega) (by simp only [xN]; omega)))) <| zM <| zM <| zE (nI (a * a) (hr := by exact (qV rfl (by simp only [xM]; omega) (by simp only [xN]; omega)))) <| zM <| zM <| zE (nI (b * b) (hr := by exact (qV rfl (by simp only [xM]; omega) (by simp only [xN]; omega)))) <| zE (aH ((a * a) - (b * b)) (hr := by exact (qV rfl (by simp only [xM]; omega) (by simp only [xN]; omega)))) <| zM <| zM <| zE (nI (c * c) (hr := by exact (qV rfl (by simp only [xM]; omega) (by simp only [xN]; omega)))) <| zE (aH (((a * a) - (b * b)) - (c * c)) (hr := by exact (qV rfl (by simp only [xM]; omega) (by simp only [xN]; omega)))) <| zM <| zM <| zE (nI (d * d) (hr := by exact (qV rfl (by simp only [xM]; omega) (by simp only [xN]; omega)))) <| zE (zAd ((((a * a) - (b * b)) - (c * c)) + (d * d)) (hr := by exact (qV rfl (by simp only [xM]; omega) (by simp only [xN]; omega)))) <| zE (cX nA ze3 zo3) <| zE (cX el109 ze74 zo74) <| zM <| zZ) ?_
 refine jA <| kx [(10, (.own 1 52 1 0))] [(1, some (bm kP []))] (zN (oBo 1 yN iN zo52) <| zM <| zZ) ?_
 refine jA <| jA <| kx [(11, (kE 0))] [] (zM <| zZ) ?_
 refine jE <| qE 20 ?_
 refine qK <| jA <| jA <| kx [(128, (vb true))] [] (zM <| zE (qY true qS) <| zZ) ?_
 refine kD ?_
 refine jD <| jA <| jE <| jA <| kx [(12, (.own 2 42 4 0))] [(2, some (aF jO []))] (zH (oBo 2 uO qM qR) <| zM <| zZ) ?_
 refine jA <| jA <| kx [(13, (kE 0))] [] (zM <| zZ) ?_
 refine jE <| qE 20 ?_
 refine qK <| jA <| jA <| kx [(133, (vb true))] [] (zM <| zE (qY true qS) <| zZ) ?_
 refine kD ?_
 refine jD <| jA <| jE <| jA <| kX (wk (l := [(1, (.ref 0 0)), (9, (vl 74 1 bY [y6, y7, y8])), (10, (.own 1 52 1 0)), (11, (kE 0)), (12, (.own 2 42 4 0)), (13, (kE 0)), (133, (vb true))]) (b := [(0, some (bx (uI (jN.mk a b c d)))), (1, some (bm kP [])), (2, some (aF jO []))])) ?_
 have bn1 : QL (Rat.divInt ((((a * a) + (b * b)) - (c * c)) - (d * d)) (nq a b c d)) 3 := (qO (n := 3) (jU (by omega) (by omega)) (jU (by omega) (by omega)) (by decide))
 refine kd [(14, (.ref 3 0))] [(3, some (bx (jO y10)))] mo (wM <| wM <| wE (zD el109 0) <| wE (yL sh74) <| wM <| wE (zD nA 0) <| wE (yL vW) <| wR (kA yO) <| wE (kC (fG a b c d (by omega) (by omega) (by omega) (by omega))) <| wE (kC (qs_of ((((a * a) + (b * b)) - (c * c)) - (d * d)) (by omega) (by omega) (nq a b c d) (by omega) (by omega) hn0)) <| wM <| wE uH <| wE uH <| wH (hc := by kernel_rfl) (qI 3 qM qR) <| wT (kR jS) <| wM <| wZ) ?_
 refine kf [(12, (.own 2 42 4 ([y10].length)))] [(2, some (aF jO [y10]))] (zM <| zR (kA jS) <| zE (cX uO qM qR) <| zAS jO [] [y10] rfl uO qM by42 (hbig := by exact (by simp +zetaDelta [maxLen] <;> omega)) (hbig' := by exact (by simp +zetaDelta <;> omega)) <| zM <| zF) ?_
 refine kx [(13, (kE 1))] [] (zM <| zE (qQ 1 (hr := by decide)) <| zM <| zZ) ?_
 refine jJ (jZ.refl _) ?_
 refine jA <| jA <| kx [(133, (vb true))] [] (zM <| zE (qY true qS) <| zZ) ?_
 refine kD ?_
 refine jD <| jA <| jE <| jA ?_
 have bn2 : QL (Rat.divInt (2 * ((b * c) - (a * d))) (nq a b c d)) 3 := (qO (n := 3) (jU (by omega) (by omega)) (jU (by omega) (by omega)) (by decide))
 refine kd [(14, (.ref 4 0))] [(4, some (bx (jO (jC (Rat.divInt (2 * ((b * c) - (a * d))) (nq a b c d))))))] mo (wM <| wM <| wE (zD el109 0) <| wE (yL sh74) <| wM <| wE (zD nA 1) <| wE (yL vW) <| wR (kA yO) <| wE (kC (fG a b c d (by omega) (by omega) (by omega) (by omega))) <| wE (kC (qs_of (((2 : Nat) : Int) * ((b * c) - (a * d))) (by omega) (by omega) (nq a b c d) (by omega) (by omega) hn0)) <| wM <| wE uH <| wE uH <| wH (hc := by kernel_rfl) (qI 4 qM qR) <| wT (kR jS) <| wM <| wZ) ?_
 refine kf [(12, (.own 2 42 4 (y4.length)))] [(2, some (aF jO y4))] (zM <| zR (kA jS) <| zE (cX uO qM qR) <| zAS jO [y10] [(jC (Rat.divInt (2 * ((b * c) - (a * d))) (nq a b c d)))] rfl uO qM by42 (hbig := by exact (by simp +zetaDelta [maxLen] <;> omega)) (hbig' := by exact (by simp +zetaDelta <;> omega)) <| zM <| zF) ?_
 refine kx [(13, (kE 2))] [] (zM <| zE (qQ 2 (hr := by decide)) <| zM <| zZ) ?_
 refine jJ (jZ.refl _) ?_
 refine jA <| jA <| kx [(133, (vb true))] [] (zM <| zE (qY true qS) <| zZ) ?_
 refine kD ?_
 refine jD <| jA <| jE <| jA ?_
 have bn3 : QL (Rat.divInt (2 * ((b * d) + (a * c))) (nq a b c d)) 3 := (qO (n := 3) (jU (by omega) (by omega)) (jU (by omega) (by omega)) (by decide))
 refine kd [(14, (.ref 5 0))] [(5, some (bx (jO (jC (Rat.divInt (2 * ((b * d) + (a * c))) (nq a b c d))))))] mo (wM <| wM <| wE (zD el109 0) <| wE (yL sh74) <| wM <| wE (zD nA 2) <| wE (yL vW) <| wR (kA yO) <| wE (kC (fG a b c d (by omega) (by omega) (by omega) (by omega))) <| wE (kC (qs_of (((2 : Nat) : Int) * ((b * d) + (a * c))) (by omega) (by omega) (nq a b c d) (by omega) (by omega) hn0)) <| wM <| wE uH <| wE uH <| wH (hc := by kernel_rfl) (qI 5 qM qR) <| wT (kR jS) <| wM <| wZ) ?_
 refine kf [(12, (.own 2 42 4 (y1.length)))] [(2, some (aF jO y1))] (zM <| zR (kA jS) <| zE (cX uO qM qR) <| zAS jO y4 [(jC (Rat.divInt (2 * ((b * d) + (a * c))) (nq a b c d)))] rfl uO qM by42 (hbig := by exact (by simp +zetaDelta [maxLen] <;> omega)) (hbig' := by exact (by simp +zetaDelta <;> omega)) <| zM <| zF) ?_
 refine kx [(13, (kE 3))] [] (zM <| zE (qQ 3 (hr := by decide)) <| zM <| zZ) ?_
 refine jJ (jZ.refl _) ?_
 refine jA <| jA <| kx [(133, (vb false))] [] (zM <| zE (qY false qS) <| zZ) ?_
 refine kO ?_
 refine kQ <| kX (xY (t := 12) (k := 2) (es := List.map jO y1) rfl rfl (xZ _ _ (fun _ => rfl)) (xU _ _ rfl) (cH jO y1 (fun _ => rfl) rfl)) ?_
 refine kf [(10, (.own 1 52 1 ([y1].length)))] [(1, some (bm kP [y1]))] (zM <| zM <| zE (cX yN iN zo52) <| zA kP [] [y1] rfl yN iN by52 (hbig := by exact (by simp +zetaDelta [maxLen] <;> omega)) (hbig' := by exact (by simp +zetaDelta <;> omega)) <| zM <| zF) ?_
 refine kx [(11, (kE 1))] [] (zM <| zE (qQ 1 (hr := by decide)) <| zM <| zZ) ?_
 refine jJ (jZ.refl _) ?_
 refine jA <| jA <| kX (wk (l := [(1, (.ref 0 0)), (9, (vl 74 1 bY [y6, y7, y8])), (10, (.own 1 52 1 ([y1].length))), (11, (kE 1))]) (b := [(0, some (bx (uI (jN.mk a b c d)))), (1, some (bm kP [y1]))])) ?_
 refine kx [(128, (vb true))] [] (zM <| zE (qY true qS) <| zZ) ?_
 refine kD ?_
 refine jD <| jA <| jE <| jA <| kx [(12, (.own 6 42 4 0))] [(6, some (aF jO []))] (zH (oBo 6 uO qM qR) <| zM <| zZ) ?_
 refine jA <| jA <| kx [(13, (kE 0))] [] (zM <| zZ) ?_
 refine jE <| qE 20 ?_
 refine qK <| jA <| jA <| kx [(133, (vb true))] [] (zM <| zE (qY true qS) <| zZ) ?_
 refine kD ?_
 refine jD <| jA <| jE <| jA ?_
 have bn4 : QL (Rat.divInt (2 * ((b * c) + (a * d))) (nq a b c d)) 3 := (qO (n := 3) (jU (by omega) (by omega)) (jU (by omega) (by omega)) (by decide))
 refine kd [(14, (.ref 7 0))] [(7, some (bx (jO y12)))] mo (wM <| wM <| wE (zD el109 1) <| wE (yL sh74) <| wM <| wE (zD nA 0) <| wE (yL vW) <| wR (kA yO) <| wE (kC (fG a b c d (by omega) (by omega) (by omega) (by omega))) <| wE (kC (qs_of (((2 : Nat) : Int) * ((b * c) + (a * d))) (by omega) (by omega) (nq a b c d) (by omega) (by omega) hn0)) <| wM <| wE uH <| wE uH <| wH (hc := by kernel_rfl) (qI 7 qM qR) <| wT (kR jS) <| wM <| wZ) ?_
 refine kf [(12, (.own 6 42 4 ([y12].length)))] [(6, some (aF jO [y12]))] (zM <| zR (kA jS) <| zE (cX uO qM qR) <| zAS jO [] [y12] rfl uO qM by42 (hbig := by exact (by simp +zetaDelta [maxLen] <;> omega)) (hbig' := by exact (by simp +zetaDelta <;> omega)) <| zM <| zF) ?_
 refine kx [(13, (kE 1))] [] (zM <| zE (qQ 1 (hr := by decide)) <| zM <| zZ) ?_
 refine jJ (jZ.refl _) ?_
 refine jA <| jA <| kx [(133, (vb true))] [] (zM <| zE (qY true qS) <| zZ) ?_
 refine kD ?_
 refine jD <| jA <| jE <| jA ?_
 have bn5 : QL (Rat.divInt ((((a * a) - (b * b)) + (c * c)) - (d * d)) (nq a b c d)) 3 := (qO (n := 3) (jU (by omega) (by omega)) (jU (by omega) (by omega)) (by decide))
 refine kd [(14, (.ref 8 0))] [(8, some (bx (jO y11)))] mo (wM <| wM <| wE (zD el109 1) <| wE (yL sh74) <| wM <| wE (zD nA 1) <| wE (yL vW) <| wR (kA yO) <| wE (kC (fG a b c d (by omega) (by omega) (by omega) (by omega))) <| wE (kC (qs_of ((((a * a) - (b * b)) + (c * c)) - (d * d)) (by omega) (by omega) (nq a b c d) (by omega) (by omega) hn0)) <| wM <| wE uH <| wE uH <| wH (hc := by kernel_rfl) (qI 8 qM qR) <| wT (kR jS) <| wM <| wZ) ?_
 refine kf [(12, (.own 6 42 4 (y5.length)))] [(6, some (aF jO y5))] (zM <| zR (kA jS) <| zE (cX uO qM qR) <| zAS jO [y12] [y11] rfl uO qM by42 (hbig := by exact (by simp +zetaDelta [maxLen] <;> omega)) (hbig' := by exact (by simp +zetaDelta <;> omega)) <| zM <| zF) ?_
 refine kx [(13, (kE 2))] [] (zM <| zE (qQ 2 (hr := by decide)) <| zM <| zZ) ?_
 refine jJ (jZ.refl _) ?_
 refine jA <| jA <| kx [(133, (vb true))] [] (zM <| zE (qY true qS) <| zZ) ?_
 refine kD ?_
 refine jD <| jA <| jE <| jA ?_
 have bn6 : QL (Rat.divInt (2 * ((c * d) - (a * b))) (nq a b c d)) 3 := (qO (n := 3) (jU (by omega) (by omega)) (jU (by omega) (by omega)) (by decide))
 refine kd [(14, (.ref 9 0))] [(9, some (bx (jO (jC (Rat.divInt (2 * ((c * d) - (a * b))) (nq a b c d))))))] mo (wM <| wM <| wE (zD el109 1) <| wE (yL sh74) <| wM <| wE (zD nA 2) <| wE (yL vW) <| wR (kA yO) <| wE (kC (fG a b c d (by omega) (by omega) (by omega) (by omega))) <| wE (kC (qs_of (((2 : Nat) : Int) * ((c * d) - (a * b))) (by omega) (by omega) (nq a b c d) (by omega) (by omega) hn0)) <| wM <| wE uH <| wE uH <| wH (hc := by kernel_rfl) (qI 9 qM qR) <| wT (kR jS) <| wM <| wZ) ?_
 refine kf [(12, (.own 6 42 4 (y2.length)))] [(6, some (aF jO y2))] (zM <| zR (kA jS) <| zE (cX uO qM qR) <| zAS jO y5 [(jC (Rat.divInt (2 * ((c * d) - (a * b))) (nq a b c d)))] rfl uO qM by42 (hbig := by exact (by simp +zetaDelta [maxLen] <;> omega)) (hbig' := by exact (by simp +zetaDelta <;> omega)) <| zM <| zF) ?_
 refine kX (wk (l := [(1, (.ref 0 0)), (9, (vl 74 1 bY [y6, y7, y8])), (10, (.own 1 52 1 ([y1].length))), (11, (kE 1)), (12, (.own 6 42 4 (y2.length))), (13, (kE 2))]) (b := [(0, some (bx (uI (jN.mk a b c d)))), (1, some (bm kP [y1])), (6, some (aF jO y2))])) ?_
 refine kx [(13, (kE 3))] [] (zM <| zE (qQ 3 (hr := by decide)) <| zM <| zZ) ?_
 refine jJ (jZ.refl _) ?_
 refine jA <| jA <| kx [(133, (vb false))] [] (zM <| zE (qY false qS) <| zZ) ?_
 refine kO ?_
 refine kQ <| kX (xY (t := 12) (k := 6) (es := List.map jO y2) rfl rfl (xZ _ _ (fun _ => rfl)) (xU _ _ rfl) (cH jO y2 (fun _ => rfl) rfl)) ?_
 refine kf [(10, (.own 1 52 1 ([y1, y2].length)))] [(1, some (bm kP [y1, y2]))] (zM <| zM <| zE (cX yN iN zo52) <| zA kP [y1] [y2] rfl yN iN by52 (hbig := by exact (by simp +zetaDelta [maxLen] <;> omega)) (hbig' := by exact (by simp +zetaDelta <;> omega)) <| zM <| zF) ?_
 refine kx [(11, (kE 2))] [] (zM <| zE (qQ 2 (hr := by decide)) <| zM <| zZ) ?_
 refine jJ (jZ.refl _) ?_
 refine jA <| jA <| kx [(128, (vb true))] [] (zM <| zE (qY true qS) <| zZ) ?_
 refine kD ?_
 refine jD <| jA <| jE <| jA <| kx [(12, (.own 10 42 4 0))] [(10, some (aF jO []))] (zH (oBo 10 uO qM qR) <| zM <| zZ) ?_
 refine jA <| jA <| kx [(13, (kE 0))] [] (zM <| zZ) ?_
 refine jE <| qE 20 ?_
 refine qK <| jA <| jA <| kx [(133, (vb true))] [] (zM <| zE (qY true qS) <| zZ) ?_
 refine kD ?_
 refine jD <| jA <| jE <| jA ?_
 have bn7 : QL (Rat.divInt (2 * ((b * d) - (a * c))) (nq a b c d)) 3 := (qO (n := 3) (jU (by omega) (by omega)) (jU (by omega) (by omega)) (by decide))
 refine kd [(14, (.ref 11 0))] [(11, some (bx (jO y13)))] mo (wM <| wM <| wE (zD el109 2) <| wE (yL sh74) <| wM <| wE (zD nA 0) <| wE (yL vW) <| wR (kA yO) <| wE (kC (fG a b c d (by omega) (by omega) (by omega) (by omega))) <| wE (kC (qs_of (((2 : Nat) : Int) * ((b * d) - (a * c))) (by omega) (by omega) (nq a b c d) (by omega) (by omega) hn0)) <| wM <| wE uH <| wE uH <| wH (hc := by kernel_rfl) (qI 11 qM qR) <| wT (kR jS) <| wM <| wZ) ?_
 refine kf [(12, (.own 10 42 4 ([y13].length)))] [(10, some (aF jO [y13]))] (zM <| zR (kA jS) <| zE (cX uO qM qR) <| zAS jO [] [y13] rfl uO qM by42 (hbig := by exact (by simp +zetaDelta [maxLen] <;> omega)) (hbig' := by exact (by simp +zetaDelta <;> omega)) <| zM <| zF) ?_
 refine kx [(13, (kE 1))] [] (zM <| zE (qQ 1 (hr := by decide)) <| zM <| zZ) ?_
 refine jJ (jZ.refl _) ?_
 refine jA <| jA <| kx [(133, (vb true))] [] (zM <| zE (qY true qS) <| zZ) ?_
 refine kD ?_
 refine jD <| jA <| jE <| jA ?_
 have bn8 : QL (Rat.divInt (2 * ((c * d) + (a * b))) (nq a b c d)) 3 := (qO (n := 3) (jU (by omega) (by omega)) (jU (by omega) (by omega)) (by decide))
 refine kd [(14, (.ref 12 0))] [(12, some (bx (jO (jC (Rat.divInt (2 * ((c * d) + (a * b))) (nq a b c d))))))] mo (wM <| wM <| wE (zD el109 2) <| wE (yL sh74) <| wM <| wE (zD nA 1) <| wE (yL vW) <| wR (kA yO) <| wE (kC (fG a b c d (by omega) (by omega) (by omega) (by omega))) <| wE (kC (qs_of (((2 : Nat) : Int) * ((c * d) + (a * b))) (by omega) (by omega) (nq a b c d) (by omega) (by omega) hn0)) <| wM <| wE uH <| wE uH <| wH (hc := by kernel_rfl) (qI 12 qM qR) <| wT (kR jS) <| wM <| wZ) ?_
 refine kf [(12, (.own 10 42 4 (y9.length)))] [(10, some (aF jO y9))] (zM <| zR (kA jS) <| zE (cX uO qM qR) <| zAS jO [y13] [(jC (Rat.divInt (2 * ((c * d) + (a * b))) (nq a b c d)))] rfl uO qM by42 (hbig := by exact (by simp +zetaDelta [maxLen] <;> omega)) (hbig' := by exact (by simp +zetaDelta <;> omega)) <| zM <| zF) ?_
 refine kX (wk (l := [(1, (.ref 0 0)), (9, (vl 74 1 bY [y6, y7, y8])), (10, (.own 1 52 1 ([y1, y2].length))), (11, (kE 2)), (12, (.own 10 42 4 (y9.length))), (13, (kE 1))]) (b := [(0, some (bx (uI (jN.mk a b c d)))), (1, some (bm kP [y1, y2])), (10, some (aF jO y9))])) ?_
 refine kx [(13, (kE 2))] [] (zM <| zE (qQ 2 (hr := by decide)) <| zM <| zZ) ?_
 refine jJ (jZ.refl _) ?_
 refine jA <| jA <| kx [(133, (vb true))] [] (zM <| zE (qY true qS) <| zZ) ?_
 refine kD ?_
 refine jD <| jA <| jE <| jA ?_
 have bn9 : QL (Rat.divInt ((((a * a) - (b * b)) - (c * c)) + (d * d)) (nq a b c d)) 3 := (qO (n := 3) (jU (by omega) (by omega)) (jU (by omega) (by omega)) (by decide))
 refine kd [(14, (.ref 13 0))] [(13, some (bx (jO (jC (Rat.divInt ((((a * a) - (b * b)) - (c * c)) + (d * d)) (nq a b c d))))))] mo (wM <| wM <| wE (zD el109 2) <| wE (yL sh74) <| wM <| wE (zD nA 2) <| wE (yL vW) <| wR (kA yO) <| wE (kC (fG a b c d (by omega) (by omega) (by omega) (by omega))) <| wE (kC (qs_of ((((a * a) - (b * b)) - (c * c)) + (d * d)) (by omega) (by omega) (nq a b c d) (by omega) (by omega) hn0)) <| wM <| wE uH <| wE uH <| wH (hc := by kernel_rfl) (qI 13 qM qR) <| wT (kR jS) <| wM <| wZ) ?_
 refine kf [(12, (.own 10 42 4 (y3.length)))] [(10, some (aF jO y3))] (zM <| zR (kA jS) <| zE (cX uO qM qR) <| zAS jO y9 [(jC (Rat.divInt ((((a * a) - (b * b)) - (c * c)) + (d * d)) (nq a b c d)))] rfl uO qM by42 (hbig := by exact (by simp +zetaDelta [maxLen] <;> omega)) (hbig' := by exact (by simp +zetaDelta <;> omega)) <| zM <| zF) ?_
 refine kx [(13, (kE 3))] [] (zM <| zE (qQ 3 (hr := by decide)) <| zM <| zZ) ?_
 refine jJ (jZ.refl _) ?_
 refine jA <| jA <| kx [(133, (vb false))] [] (zM <| zE (qY false qS) <| zZ) ?_
 refine kO ?_
 refine kQ <| kX (xY (t := 12) (k := 10) (es := List.map jO y3) rfl rfl (xZ _ _ (fun _ => rfl)) (xU _ _ rfl) (cH jO y3 (fun _ => rfl) rfl)) ?_
 refine kf [(10, (.own 1 52 1 ([y1, y2, y3].length)))] [(1, some (bm kP [y1, y2, y3]))] (zM <| zM <| zE (cX yN iN zo52) <| zA kP [y1, y2] [y3] rfl yN iN by52 (hbig := by exact (by simp +zetaDelta [maxLen] <;> omega)) (hbig' := by exact (by simp +zetaDelta <;> omega)) <| zM <| zF) ?_
 refine kx [(11, (kE 3))] [] (zM <| zE (qQ 3 (hr := by decide)) <| zM <| zZ) ?_
 refine jJ (jZ.refl _) ?_
 refine jA <| jA <| kx [(128, (vb false))] [] (zM <| zE (qY false qS) <| zZ) ?_
 refine kO ?_
 refine kQ <| jA <| kX (xY (t := 10) (k := 1) (es := List.map kP [y1, y2, y3]) rfl rfl (xV _ _ (fun _ => rfl)) (xU _ _ rfl) (yE _ _ (fun _ => rfl) rfl)) ?_
 refine kx [(2, (vl 52 1 kP [y1, y2, y3])), (3, (kE 0))] [] (zM <| zM <| zM <| zZ) ?_
 refine jG ⟨_, (.tmp (d := (.sl 52 1 (List.map kP [[(jC (Rat.divInt ((((a * a) + (b * b)) - (c * c)) - (d * d)) (nq a b c d))), (jC (Rat.divInt (2 * ((b * c) - (a * d))) (nq a b c d))), (jC (Rat.divInt (2 * ((b * d) + (a * c))) (nq a b c d)))], [(jC (Rat.divInt (2 * ((b * c) + (a * d))) (nq a b c d))), (jC (Rat.divInt ((((a * a) - (b * b)) + (c * c)) - (d * d)) (nq a b c d))), (jC (Rat.divInt (2 * ((c * d) - (a * b))) (nq a b c d)))], [(jC (Rat.divInt (2 * ((b * d) - (a * c))) (nq a b c d))), (jC (Rat.divInt (2 * ((c * d) + (a * b))) (nq a b c d))), (jC (Rat.divInt ((((a * a) - (b * b)) - (c * c)) + (d * d)) (nq a b c d)))]]))) rfl (.tmp (d := (.val (.int .i64 (((0 : Nat) : Int))))) rfl .nil)), ?_⟩
 rfl
end Go.Proofs.YtbecgnplakngdaaGreat
