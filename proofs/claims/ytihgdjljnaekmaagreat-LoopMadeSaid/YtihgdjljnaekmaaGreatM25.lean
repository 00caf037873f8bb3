/- Part 25 of a proof: rules, plain facts, and functions walked. -/
import Derived.Test.YtihgdjljnaekmaaGreatM24
namespace Go.Proofs.YtihgdjljnaekmaaGreat
open Go.Fid
set_option maxRecDepth 4000
set_option linter.unusedVariables false
set_option linter.unusedSimpArgs false
theorem by3 : yD Tryz.prog 3 = some 8 := by kernel_rfl
theorem cb161 : callB Tryz.prog 161 = true := by kernel_rfl
theorem cb185 : callB Tryz.prog 185 = true := by kernel_rfl
theorem fD : uR Tryz.prog 192 = some (49, 2) := by kernel_rfl
theorem l8_small (z : Int) (hz : zW (jR z) z 10000001) : jZ Tryz.prog 185 [(jJ (jR z))] (.tup [(.val (.int .i64 ((jN z)))), (.val (.bool ((kW z))))]) := by
 have hzl := hz.l
 have hln : (ofNat z.natAbs).length ≤ 10000001 := hz.ln
 refine jL Tryz.func185 rfl cb185 rfl ?_
 show qS _ _ _ _ ⟨[(0, (.d (jJ (jR z))))], []⟩
 refine jA <| kx [(1, (.ref 0 0))] [(0, some (bx (jJ (jR z))))] (zN (zL 0) <| zM <| zM <| zZ) ?_
 refine jA <| kx [] [(0, some (bx (jJ (jR z))))] (zR (kT jM) <| zE (oQd (jJ (jR (jS (jR z)))) (jJ (jR z)) (kD (nH (jR z) (by omega))) (by exact (by rw [gZ]))) <| zT (kZ jM) <| zZ) ?_
 refine jA <| kx [(4, (.ref 1 0)), (5, (.ref 2 0))] [(1, some (bx (jJ (jR (-9223372036854775808))))), (2, some (bx (jJ (jR 9223372036854775807))))] (zE (kD (r_of (-9223372036854775808) (by omega) (by omega))) <| zE (kD (r_of 9223372036854775807 (by omega) (by omega))) <| zN (uQ 1 uN uM) <| zN (uQ 2 uN uM) <| zT (kZ jM) <| zT (kZ jM) <| zZ) ?_
 refine jA <| jA <| kx [(21, (vb (decide ((qY z (-9223372036854775808)) < 0) || decide (0 < (qY z 9223372036854775807)))))] [] ?_ ?_
 ·refine zR (kT jM) <| zR (kT jM) <| zE (kD (rs_compare hz (yK (z := (-9223372036854775808)) (by omega) (by omega)) (by decide) (by decide))) <| zE uP <| zE (oV (vb (decide ((qY z (-9223372036854775808)) < 0))) (kP (by kernel_rfl))) <| ?_
  rcases hb1 : (decide ((qY z (-9223372036854775808)) < 0)) with _ | _
  ·replace hb1 := of_decide_eq_false hb1
   exact zR (kT jM) <| zR (kT jM) <| zE (kD (rs_compare hz (yK (z := 9223372036854775807) (by omega) (by omega)) (by decide) (by decide))) <| zE mZ <| zE nI <| zZ
  ·replace hb1 := of_decide_eq_true hb1
   exact zK <| zK <| zK <| zK <| zE vR <| zZ
 refine jG rfl (fun h2 => ?_) (fun h2 => ?_)
 ·refine jA <| kx [(2, (jQ 0)), (3, (vb false))] [] (zM <| zM <| zZ) ?_
  refine jI ⟨_, (.tmp (d := (.val (.int .i64 (0)))) rfl (.tmp (d := (.val (.bool (false)))) rfl .nil)), ?_⟩
  obtain ⟨q1, q2⟩ := fit_no h2
  rw [q1, q2]; rfl
 ·have hfz := fit_of h2
  refine jF <| jA <| kx [(6, (jQ 0))] [] (zM <| zZ) ?_
  refine jA <| jA <| kx [(7, (vi ((((ofNat (Int.natAbs z)).length : Nat) : Int) - 1)))] [] (zE (kQ vD) <| zR (kM xE) <| zE (xA kC (L := (ofNat (Int.natAbs z)))) <| zE (zSb ((((ofNat (Int.natAbs z)).length : Nat) : Int) - 1) (hr := by exact (qK (by first | omega | rfl | (dsimp only; omega)) (by simp only [xN]; omega) (by simp only [xO]; omega)))) <| zM <| zZ) ?_
  refine jH <| kH (α := Nat × Int) (fun (k, v) => ⟨[(1, (.ref 0 0)), (6, (vi v)), (7, (vi (((k : Nat) : Int) - 1)))], [(0, some (bx (jJ (jR z))))]⟩) (fun (k, v) => k ≤ (ofNat (Int.natAbs z)).length ∧ v = svI z k) (fun (k, v) => k) ((ofNat (Int.natAbs z)).length, 0) wk ⟨Nat.le_refl _, (sv_end z).symm⟩ ?_
  rintro ⟨k, v⟩ ⟨hk, hv⟩
  refine jA <| jA <| kx [(27, (vb (decide (0 ≤ (((k : Nat) : Int) - 1)))))] [] (zM <| zE oGe <| zZ) ?_
  refine jG (b := decide (0 ≤ (((k : Nat) : Int) - 1))) rfl (fun h3 => ?_) (fun h3 => ?_)
  ·replace h3 := of_decide_eq_true h3
   have hdg := (jY z.natAbs).getD (k - 1)
   have hkb := sv_b2 hfz.1 hfz.2 (k - 1)
   have hkc := sv_bd hfz.1 hfz.2 (k - 1)
   rw [show k - 1 + 1 = k by omega] at hkb
   refine jF <| jA <| jH <| jA <| kx [(31, (vb ((jR z).neg)))] [] (zE (kQ uW) <| zR (kM cZ) <| zZ) ?_
   refine jG (b := (jR z).neg) rfl (fun h4 => ?_) (fun h4 => ?_)
   ·have hst := sv_n (k := k - 1) h4
    rw [show k - 1 + 1 = k by omega] at hst
    refine kx [(6, (vi ((v * 1000000000) - ((((ofNat (Int.natAbs z)).getD (k - 1) 0) : Nat) : Int))))] [] (zM <| zE (eR (v * 1000000000) (hr := by exact (qK rfl (by simp only [xN]; omega) (by simp only [xO]; omega)))) <| zE (kQ vD) <| zR (kM xE) <| zE (oQd (.val (.int .i64 ((((k : Nat) : Int) - 1)))) (.val (.int .i64 ((((k - 1) : Nat) : Int)))) (oV (vi (((k : Nat) : Int) - 1)) (kP (by kernel_rfl))) (by exact (congrArg (fun z => kE.val (.int .i64 z)) (by omega)))) <| zE (yO kC (k - 1) (0 : Nat) (L := (ofNat (Int.natAbs z)))) <| zE (nB qD) <| zE (yV vZ in3 ((ofNat (Int.natAbs z)).getD (k - 1) 0)) <| zE (zSb ((v * 1000000000) - ((((ofNat (Int.natAbs z)).getD (k - 1) 0) : Nat) : Int)) (hr := by exact (qK rfl (by simp only [xN]; omega) (by simp only [xO]; omega)))) <| zM <| zZ) ?_
    refine kx [(7, (vi (((k - 1 : Nat) : Int) - 1)))] [] (zM <| zE (zSb (((k - 1 : Nat) : Int) - 1) (hr := by exact (qK (by first | omega | rfl | (dsimp only; omega)) (by simp only [xN]; omega) (by simp only [xO]; omega)))) <| zM <| zZ) ?_
    exact ⟨(k - 1, v * 1000000000 - (((ofNat (Int.natAbs z)).getD (k - 1) 0 : Nat) : Int)), wk, ⟨by omega, by rw [hst, hv]⟩, (by first | omega | (dsimp only; omega))⟩
   ·have hst := sv_p (k := k - 1) h4
    rw [show k - 1 + 1 = k by omega] at hst
    refine kx [(6, (vi ((v * 1000000000) + ((((ofNat (Int.natAbs z)).getD (k - 1) 0) : Nat) : Int))))] [] (zM <| zE (eR (v * 1000000000) (hr := by exact (qK rfl (by simp only [xN]; omega) (by simp only [xO]; omega)))) <| zE (kQ vD) <| zR (kM xE) <| zE (oQd (.val (.int .i64 ((((k : Nat) : Int) - 1)))) (.val (.int .i64 ((((k - 1) : Nat) : Int)))) (oV (vi (((k : Nat) : Int) - 1)) (kP (by kernel_rfl))) (by exact (congrArg (fun z => kE.val (.int .i64 z)) (by omega)))) <| zE (yO kC (k - 1) (0 : Nat) (L := (ofNat (Int.natAbs z)))) <| zE (nB qD) <| zE (yV vZ in3 ((ofNat (Int.natAbs z)).getD (k - 1) 0)) <| zE (zAd ((v * 1000000000) + ((((ofNat (Int.natAbs z)).getD (k - 1) 0) : Nat) : Int)) (hr := by exact (qK rfl (by simp only [xN]; omega) (by simp only [xO]; omega)))) <| zM <| zZ) ?_
    refine kx [(7, (vi (((k - 1 : Nat) : Int) - 1)))] [] (zM <| zE (zSb (((k - 1 : Nat) : Int) - 1) (hr := by exact (qK (by first | omega | rfl | (dsimp only; omega)) (by simp only [xN]; omega) (by simp only [xO]; omega)))) <| zM <| zZ) ?_
    exact ⟨(k - 1, v * 1000000000 + (((ofNat (Int.natAbs z)).getD (k - 1) 0 : Nat) : Int)), wk, ⟨by omega, by rw [hst, hv]⟩, (by first | omega | (dsimp only; omega))⟩
  ·replace h3 := of_decide_eq_false h3
   obtain ⟨q1, q2⟩ := fit_yes hfz
   obtain rfl : k = 0 := by omega
   rw [sv_0] at hv
   refine jW <| jA <| kx [(2, (vi v)), (3, (vb true))] [] (zM <| zM <| zM <| zZ) ?_
   refine jI ⟨_, (.tmp (d := (.val (.int .i64 (v)))) rfl (.tmp (d := (.val (.bool (true)))) rfl .nil)), ?_⟩
   rw [q1, q2, hv]; rfl
theorem l8_prim (z0 z1 z2 z3 : Int) (hz0 : zW (jR z0) z0 4) (hz1 : zW (jR z1) z1 4) (hz2 : zW (jR z2) z2 4) (hz3 : zW (jR z3) z3 4) (hnz : eO (jB.mk z0 z1 z2 z3)) : jZ Tryz.prog 161 [(.sl 49 2 (List.map jJ [(jR z0), (jR z1), (jR z2), (jR z3)]))] (.tup [(jE (qV (jB.mk z0 z1 z2 z3))), (.val (.int .i64 ((((qC (jB.mk z0 z1 z2 z3)) : Nat) : Int))))]) := by
 have hln := q4_len hz0 hz1 hz2 hz3
 have hgI := gcd_iok hln
 have hgn := gcd_n hnz
 let y2 := [(jR z0), (jR z1), (jR z2), (jR z3)]
 let y1 := (bx (jJ (jR ((Int.gcd (((Int.gcd (((Int.gcd (((Int.gcd 0 z0 : Nat) : Int)) z1 : Nat) : Int)) z2 : Nat) : Int)) z3 : Nat) : Int))))
 refine jL Tryz.func161 rfl cb161 rfl ?_
 show qS _ _ _ _ ⟨[(0, (vl 49 2 jJ y2))], []⟩
 refine jA <| kx [(2, (.ref 0 0))] [(0, some (bx (jE (jB.mk 0 0 0 0))))] (zN (uQ 0 uY uZ) <| zM <| zZ) ?_
 refine jA <| kx [(4, (.ref 1 0))] [(1, some (bx (jJ (jR 0))))] (zE (kD (r_of 0 (by decide) (by decide))) <| zN (uQ 1 uN uM) <| zT (kZ jM) <| zZ) ?_
 refine jA <| jA <| kx [(5, (jQ 0))] [] (zM <| zZ) ?_
 refine jH <| yN 20 ?_
 refine gI <| jA <| jA <| kx [(17, (vb true))] [] (zM <| zE (xH true uP) <| zZ) ?_
 refine qM ?_
 refine jF <| jA <| jH <| kd [] [(1, some (bx (jJ (jR ((Int.gcd 0 z0 : Nat) : Int)))))] mo (wR (kT jM) <| wM <| wM <| wE (oXs fD 0) <| wE (eN jM) <| wE (kD (rs_gcd (mJ (z := 0) (by decide)) hz0 (by decide) (by decide))) <| wT (kZ jM) <| wZ) ?_
 refine kx [(5, (jQ 1))] [] (zM <| zE (qQ 1 (hr := by decide)) <| zM <| zZ) ?_
 refine kJ (kL.refl _) ?_
 refine jA <| jA <| kx [(17, (vb true))] [] (zM <| zE (xH true uP) <| zZ) ?_
 refine qM ?_
 refine jF <| jA <| jH <| kd [] [(1, some (bx (jJ (jR ((Int.gcd (((Int.gcd 0 z0 : Nat) : Int)) z1 : Nat) : Int)))))] mo (wR (kT jM) <| wM <| wM <| wE (oXs fD 1) <| wE (eN jM) <| wE (kD (rs_gcd (qP (k := 4) (mJ (z := 0) (by decide)) hz0 (by decide)) hz1 (by decide) (by decide))) <| wT (kZ jM) <| wZ) ?_
 refine kx [(5, (jQ 2))] [] (zM <| zE (qQ 2 (hr := by decide)) <| zM <| zZ) ?_
 refine kJ (kL.refl _) ?_
 refine jA <| jA <| kx [(17, (vb true))] [] (zM <| zE (xH true uP) <| zZ) ?_
 refine qM ?_
 refine jF <| jA <| jH <| kd [] [(1, some (bx (jJ (jR ((Int.gcd (((Int.gcd (((Int.gcd 0 z0 : Nat) : Int)) z1 : Nat) : Int)) z2 : Nat) : Int)))))] mo (wR (kT jM) <| wM <| wM <| wE (oXs fD 2) <| wE (eN jM) <| wE (kD (rs_gcd (qP (k := 4) (qP (k := 4) (mJ (z := 0) (by decide)) hz0 (by decide)) hz1 (by decide)) hz2 (by decide) (by decide))) <| wT (kZ jM) <| wZ) ?_
 refine kx [(5, (jQ 3))] [] (zM <| zE (qQ 3 (hr := by decide)) <| zM <| zZ) ?_
 refine kJ (kL.refl _) ?_
 refine jA <| jA <| kx [(17, (vb true))] [] (zM <| zE (xH true uP) <| zZ) ?_
 refine qM ?_
 refine jF <| jA <| jH <| kd [] [(1, some y1)] mo (wR (kT jM) <| wM <| wM <| wE (oXs fD 3) <| wE (eN jM) <| wE (kD (rs_gcd (qP (k := 4) (qP (k := 4) (qP (k := 4) (mJ (z := 0) (by decide)) hz0 (by decide)) hz1 (by decide)) hz2 (by decide)) hz3 (by decide) (by decide))) <| wT (kZ jM) <| wZ) ?_
 refine kY (wk (l := [(0, (vl 49 2 jJ y2)), (2, (.ref 0 0)), (4, (.ref 1 0)), (5, (jQ 3))]) (b := [(0, some (bx (jE (jB.mk 0 0 0 0)))), (1, some y1)])) ?_
 refine kx [(5, (jQ 4))] [] (zM <| zE (qQ 4 (hr := by decide)) <| zM <| zZ) ?_
 refine kJ (kL.refl _) ?_
 refine jA <| jA <| kx [(17, (vb false))] [] (zM <| zE (xH false uP) <| zZ) ?_
 refine qN ?_
 refine jW <| jA <| kx [(6, (jQ 0))] [] (zM <| zZ) ?_
 refine pwp_meet (α := Int) (fun s => ⟨[(0, (vl 49 2 jJ y2)), (2, (.ref 0 0)), (4, (.ref 1 0)), (6, (vi s))], [(0, some (bx (jE (jB.mk 0 0 0 0)))), (1, some y1)]⟩) (fun s => s = gD (qL (jB.mk z0 z1 z2 z3))) ?_ ?_
 ·refine jA <| kx [(7, (jQ 0))] [] (zM <| zZ) ?_
  refine jH <| yN 20 ?_
  refine gI <| jA <| jA <| kx [(27, (vb true))] [] (zM <| zE (xH true uP) <| zZ) ?_
  refine qM ?_
  refine jF <| jA <| jH <| jA <| kx [(31, (vb true))] [] (zM <| zE (xH true gF) <| zZ) ?_
  refine qM ?_
  refine kx [(6, (vi (kF z0)))] [] (zM <| zM <| zE (oXs fD 0) <| zE (eN jM) <| zE (kD (rs_sign hz0 (by decide))) <| zM <| zZ) ?_
  refine kx [(7, (jQ 1))] [] (zM <| zE (qQ 1 (hr := by decide)) <| zM <| zZ) ?_
  refine kJ (kL.refl _) ?_
  refine jA <| jA <| kx [(27, (vb true))] [] (zM <| zE (xH true uP) <| zZ) ?_
  refine qM ?_
  refine jF <| jA <| jH <| jA <| kx [(31, (vb ((kF z0) == ((0 : Nat) : Int))))] [] (zM <| zE gF <| zZ) ?_
  refine jG (b := ((kF z0) == ((0 : Nat) : Int))) rfl (fun h1 => ?_) (fun h1 => ?_)
  ·replace h1 := eq_of_beq h1
   refine kx [(6, (vi (kF z1)))] [] (zM <| zM <| zE (oXs fD 1) <| zE (eN jM) <| zE (kD (rs_sign hz1 (by decide))) <| zM <| zZ) ?_
   refine kx [(7, (jQ 2))] [] (zM <| zE (qQ 2 (hr := by decide)) <| zM <| zZ) ?_
   refine kJ (kL.refl _) ?_
   refine jA <| jA <| kx [(27, (vb true))] [] (zM <| zE (xH true uP) <| zZ) ?_
   refine qM ?_
   refine jF <| jA <| jH <| jA <| kx [(31, (vb ((kF z1) == ((0 : Nat) : Int))))] [] (zM <| zE gF <| zZ) ?_
   refine jG (b := ((kF z1) == ((0 : Nat) : Int))) rfl (fun h2 => ?_) (fun h2 => ?_)
   ·replace h2 := eq_of_beq h2
    refine kY (wk (l := [(0, (vl 49 2 jJ y2)), (2, (.ref 0 0)), (4, (.ref 1 0)), (6, (vi (kF z1))), (7, (jQ 2)), (31, (vb ((kF z1) == ((0 : Nat) : Int))))]) (b := [(0, some (bx (jE (jB.mk 0 0 0 0)))), (1, some y1)])) ?_
    refine kx [(6, (vi (kF z2)))] [] (zM <| zM <| zE (oXs fD 2) <| zE (eN jM) <| zE (kD (rs_sign hz2 (by decide))) <| zM <| zZ) ?_
    refine kx [(7, (jQ 3))] [] (zM <| zE (qQ 3 (hr := by decide)) <| zM <| zZ) ?_
    refine kJ (kL.refl _) ?_
    refine jA <| jA <| kx [(27, (vb true))] [] (zM <| zE (xH true uP) <| zZ) ?_
    refine qM ?_
    refine jF <| jA <| jH <| jA <| kx [(31, (vb ((kF z2) == ((0 : Nat) : Int))))] [] (zM <| zE gF <| zZ) ?_
    refine jG (b := ((kF z2) == ((0 : Nat) : Int))) rfl (fun h3 => ?_) (fun h3 => ?_)
    ·replace h3 := eq_of_beq h3
     refine kx [(6, (vi (kF z3)))] [] (zM <| zM <| zE (oXs fD 3) <| zE (eN jM) <| zE (kD (rs_sign hz3 (by decide))) <| zM <| zZ) ?_
     refine kx [(7, (jQ 4))] [] (zM <| zE (qQ 4 (hr := by decide)) <| zM <| zZ) ?_
     refine kJ (kL.refl _) ?_
     refine jA <| jA <| kx [(27, (vb false))] [] (zM <| zE (xH false uP) <| zZ) ?_
     refine qN ?_
     refine jW ?_
     exact met (kF z3) wk (sgs_3 h1 h2 h3)
    ·replace h3 := ne_of_beq_false h3
     refine jF <| kx [(7, (jQ 4))] [] (zM <| zE (qQ 4 (hr := by decide)) <| zM <| zZ) ?_
     refine kJ (kL.refl _) ?_
     refine jA <| jA <| kx [(27, (vb false))] [] (zM <| zE (xH false uP) <| zZ) ?_
     refine qN ?_
     refine jW ?_
     exact met (kF z2) wk (sgs_2 h1 h2 h3)
   ·replace h2 := ne_of_beq_false h2
    refine jF <| kY (wk (l := [(0, (vl 49 2 jJ y2)), (2, (.ref 0 0)), (4, (.ref 1 0)), (6, (vi (kF z1))), (7, (jQ 2)), (31, (vb ((kF z1) == ((0 : Nat) : Int))))]) (b := [(0, some (bx (jE (jB.mk 0 0 0 0)))), (1, some y1)])) ?_
    refine kx [(7, (jQ 3))] [] (zM <| zE (qQ 3 (hr := by decide)) <| zM <| zZ) ?_
    refine kJ (kL.refl _) ?_
    refine jA <| jA <| kx [(27, (vb true))] [] (zM <| zE (xH true uP) <| zZ) ?_
    refine qM ?_
    refine jF <| jA <| jH <| jA <| kx [(31, (vb false))] [] (zM <| zE (xH false gF (by exact beq_eq_false_iff_ne.2 h2)) <| zZ) ?_
    refine qN ?_
    refine jF <| kx [(7, (jQ 4))] [] (zM <| zE (qQ 4 (hr := by decide)) <| zM <| zZ) ?_
    refine kJ (kL.refl _) ?_
    refine jA <| jA <| kx [(27, (vb false))] [] (zM <| zE (xH false uP) <| zZ) ?_
    refine qN ?_
    refine jW ?_
    exact met (kF z1) wk (sgs_1 h1 h2)
  ·replace h1 := ne_of_beq_false h1
   refine jF <| kx [(7, (jQ 2))] [] (zM <| zE (qQ 2 (hr := by decide)) <| zM <| zZ) ?_
   refine kJ (kL.refl _) ?_
   refine jA <| jA <| kx [(27, (vb true))] [] (zM <| zE (xH true uP) <| zZ) ?_
   refine qM ?_
   refine jF <| jA <| jH <| jA <| kx [(31, (vb false))] [] (zM <| zE (xH false gF (by exact beq_eq_false_iff_ne.2 h1)) <| zZ) ?_
   refine qN ?_
   refine jF <| kx [(7, (jQ 3))] [] (zM <| zE (qQ 3 (hr := by decide)) <| zM <| zZ) ?_
   refine kJ (kL.refl _) ?_
   refine jA <| jA <| kY (wk (l := [(0, (vl 49 2 jJ y2)), (2, (.ref 0 0)), (4, (.ref 1 0)), (6, (vi (kF z0))), (7, (jQ 3))]) (b := [(0, some (bx (jE (jB.mk 0 0 0 0)))), (1, some y1)])) ?_
   refine kx [(27, (vb true))] [] (zM <| zE (xH true uP) <| zZ) ?_
   refine qM ?_
   refine jF <| jA <| jH <| jA <| kx [(31, (vb false))] [] (zM <| zE (xH false gF (by exact beq_eq_false_iff_ne.2 h1)) <| zZ) ?_
   refine qN ?_
   refine jF <| kx [(7, (jQ 4))] [] (zM <| zE (qQ 4 (hr := by decide)) <| zM <| zZ) ?_
   refine kJ (kL.refl _) ?_
   refine jA <| jA <| kx [(27, (vb false))] [] (zM <| zE (xH false uP) <| zZ) ?_
   refine qN ?_
   refine jW ?_
   exact met (kF z0) wk (sgs_0 h1)
 ·rintro s hs
  refine pwp_meet (α := Int) (fun d => ⟨[(0, (vl 49 2 jJ y2)), (2, (.ref 0 0)), (4, (.ref 1 0))], [(0, some (bx (jE (jB.mk 0 0 0 0)))), (1, some (bx (jJ (jR d))))]⟩) (fun d => dvL (qL (jB.mk z0 z1 z2 z3)) = d) ?_ ?_
  ·refine jA <| kx [(38, (vb (decide (s < ((0 : Nat) : Int)))))] [] (zM <| zE uP <| zZ) ?_
   refine jG (b := decide (s < ((0 : Nat) : Int))) rfl (fun h4 => ?_) (fun h4 => ?_)
   ·replace h4 := of_decide_eq_true h4
    refine kx [] [(1, some (bx (jJ (jR (-(((Int.gcd (((Int.gcd (((Int.gcd (((Int.gcd 0 z0 : Nat) : Int)) z1 : Nat) : Int)) z2 : Nat) : Int)) z3 : Nat) : Int)))))))] (zR (kT jM) <| zE (kD (rs_neg (qP (k := 4) (qP (k := 4) (qP (k := 4) (qP (k := 4) (mJ (z := 0) (by decide)) hz0 (by decide)) hz1 (by decide)) hz2 (by decide)) hz3 (by decide)) (by decide))) <| zT (kZ jM) <| zZ) ?_
    exact met (-((Int.gcd ((Int.gcd ((Int.gcd ((Int.gcd 0 z0 : Nat) : Int) z1 : Nat) : Int) z2 : Nat) : Int) z3 : Nat) : Int)) wk (dv_ns hs h4)
   ·replace h4 := of_decide_eq_false h4
    refine jF ?_
    exact met ((Int.gcd ((Int.gcd ((Int.gcd ((Int.gcd 0 z0 : Nat) : Int) z1 : Nat) : Int) z2 : Nat) : Int) z3 : Nat) : Int) wk (dv_ps hs h4)
  ·rintro d hd
   have hdI : zW (jR d) d 4 := by rw [← hd]; exact gO (dvL_len hln)
   have hdn : d ≠ 0 := by rw [← hd]; exact dvL_ne hnz
   refine jA <| kx [(8, (.own 2 3 1 0))] [(2, some (bm jP []))] (zN (oBo 2 uT ze3 zo3) <| zM <| zZ) ?_
   refine jA <| jA <| kx [(9, (jQ 0))] [] (zM <| zZ) ?_
   refine jH <| yN 20 ?_
   refine gI <| jA <| jA <| kx [(43, (vb true))] [] (zM <| zE (xH true uP) <| zZ) ?_
   refine qM ?_
   refine jF <| jA <| jH <| jA <| kd [(10, (.ref 3 0))] [(3, some (bx (jJ (jR (z0.fdiv d))))), (4, none)] mo (wM <| wM <| wE (oXs fD 0) <| wE (eN jM) <| wR (kT jM) <| wE (kD (nC hz0 hdI (by decide) (by decide) hdn)) <| wM <| wE qG <| wE qG <| wE qG <| wH (hc := by kernel_rfl) (uQ 3 uN uM) <| wH (hc := by kernel_rfl) (uQ 4 uN uM) <| wT (kZ jM) <| wT (kZ jM) <| wM <| wZ) ?_
   refine jA <| kx [(13, (vi (jN (z0.fdiv d)))), (14, (vb (kW (z0.fdiv d))))] [] (zR (kT jM) <| zE (kD (l8_small (z0.fdiv d) (xI (mR (k := 5) hz0 hdI (by decide)) (by decide)))) <| zM <| zE qG <| zE qG <| zM <| zM <| zZ) ?_
   refine jA <| jA <| kx [(70, (vb ((!(kW (z0.fdiv d)) || decide (((1048576 : Nat) : Int) < (jN (z0.fdiv d)))) || decide ((jN (z0.fdiv d)) < -1048576))))] [] ?_ ?_
   ·refine zM <| zE oNt <| zE (oV (vb (!(kW (z0.fdiv d)))) (kP (by kernel_rfl))) <| ?_
    rcases hb5 : (!(kW (z0.fdiv d))) with _ | _
    ·refine zM <| zE mZ <| zE nI <| zE (oV (vb (false || decide (((1048576 : Nat) : Int) < (jN (z0.fdiv d))))) (kP (by kernel_rfl))) <| ?_
     rcases hb6 : (false || decide (((1048576 : Nat) : Int) < (jN (z0.fdiv d)))) with _ | _
     ·replace hb6 := of_decide_eq_false (p := (((1048576 : Nat) : Int) < (jN (z0.fdiv d)))) hb6
      exact zM <| zE uP <| zE nI <| zZ
     ·replace hb6 := of_decide_eq_true (p := (((1048576 : Nat) : Int) < (jN (z0.fdiv d)))) hb6
      exact zK <| zK <| zE vR <| zZ
    ·exact zK <| zK <| zE vR <| zM <| zK <| zK <| zE vR <| zZ
   refine jG rfl (fun h7 => ?_) (fun h7 => ?_)
   ·refine jA <| kx [(3, (jQ 3))] [(0, some (bx (jE (jB.mk 0 0 0 0))))] (zE (eQ cH uY uZ) <| zT (kZ kK) <| zM <| zZ) ?_
    refine jI ⟨_, (kS (cs := (bx (jE (jB.mk 0 0 0 0)))) (d := (jE (jB.mk 0 0 0 0))) rfl rfl kK rfl rfl (.tmp (d := (.val (.int .i64 (((3 : Nat) : Int))))) rfl .nil)), ?_⟩
    obtain ⟨q1, q2⟩ := prim_n (q := (jB.mk z0 z1 z2 z3)) hd (x := z0) (.inl rfl) ((smB_eq _).symm.trans h7)
    rw [q1, q2]; rfl
   ·refine jF <| kf [(8, (.own 2 3 1 ([(jN (z0.fdiv d))].length)))] [(2, some (bm jP [(jN (z0.fdiv d))]))] (zM <| zM <| zE (aA uT ze3 zo3) <| zA jP [] [(jN (z0.fdiv d))] rfl uT ze3 by3 (hbig := by exact (by simp +zetaDelta [maxLen] <;> omega)) (hbig' := by exact (by simp +zetaDelta <;> omega)) <| zM <| zF) ?_
    refine kx [(9, (jQ 1))] [] (zM <| zE (qQ 1 (hr := by decide)) <| zM <| zZ) ?_
    refine kJ (kL.refl _) ?_
    refine jA <| jA <| kx [(43, (vb true))] [] (zM <| zE (xH true uP) <| zZ) ?_
    refine qM ?_
    refine jF <| jA <| jH <| jA <| kd [(10, (.ref 5 0))] [(5, some (bx (jJ (jR (z1.fdiv d))))), (6, none)] mo (wM <| wM <| wE (oXs fD 1) <| wE (eN jM) <| wR (kT jM) <| wE (kD (nC hz1 hdI (by decide) (by decide) hdn)) <| wM <| wE qG <| wE qG <| wE qG <| wH (hc := by kernel_rfl) (uQ 5 uN uM) <| wH (hc := by kernel_rfl) (uQ 6 uN uM) <| wT (kZ jM) <| wT (kZ jM) <| wM <| wZ) ?_
    refine jA <| kx [(13, (vi (jN (z1.fdiv d)))), (14, (vb (kW (z1.fdiv d))))] [] (zR (kT jM) <| zE (kD (l8_small (z1.fdiv d) (xI (mR (k := 5) hz1 hdI (by decide)) (by decide)))) <| zM <| zE qG <| zE qG <| zM <| zM <| zZ) ?_
    refine jA <| jA <| kx [(70, (vb ((!(kW (z1.fdiv d)) || decide (((1048576 : Nat) : Int) < (jN (z1.fdiv d)))) || decide ((jN (z1.fdiv d)) < -1048576))))] [] ?_ ?_
    ·refine zM <| zE oNt <| zE (oV (vb (!(kW (z1.fdiv d)))) (kP (by kernel_rfl))) <| ?_
     rcases hb8 : (!(kW (z1.fdiv d))) with _ | _
     ·refine zM <| zE mZ <| zE nI <| zE (oV (vb (false || decide (((1048576 : Nat) : Int) < (jN (z1.fdiv d))))) (kP (by kernel_rfl))) <| ?_
      rcases hb9 : (false || decide (((1048576 : Nat) : Int) < (jN (z1.fdiv d)))) with _ | _
      ·replace hb9 := of_decide_eq_false (p := (((1048576 : Nat) : Int) < (jN (z1.fdiv d)))) hb9
       exact zM <| zE uP <| zE nI <| zZ
      ·replace hb9 := of_decide_eq_true (p := (((1048576 : Nat) : Int) < (jN (z1.fdiv d)))) hb9
       exact zK <| zK <| zE vR <| zZ
     ·exact zK <| zK <| zE vR <| zM <| zK <| zK <| zE vR <| zZ
    refine jG rfl (fun h10 => ?_) (fun h10 => ?_)
    ·refine jA <| kx [(3, (jQ 3))] [(0, some (bx (jE (jB.mk 0 0 0 0))))] (zE (eQ cH uY uZ) <| zT (kZ kK) <| zM <| zZ) ?_
     refine jI ⟨_, (kS (cs := (bx (jE (jB.mk 0 0 0 0)))) (d := (jE (jB.mk 0 0 0 0))) rfl rfl kK rfl rfl (.tmp (d := (.val (.int .i64 (((3 : Nat) : Int))))) rfl .nil)), ?_⟩
     obtain ⟨q1, q2⟩ := prim_n (q := (jB.mk z0 z1 z2 z3)) hd (x := z1) (.inr (.inl rfl)) ((smB_eq _).symm.trans h10)
     rw [q1, q2]; rfl
    ·refine jF <| kf [(8, (.own 2 3 1 ([(jN (z0.fdiv d)), (jN (z1.fdiv d))].length)))] [(2, some (bm jP [(jN (z0.fdiv d)), (jN (z1.fdiv d))]))] (zM <| zM <| zE (aA uT ze3 zo3) <| zA jP [(jN (z0.fdiv d))] [(jN (z1.fdiv d))] rfl uT ze3 by3 (hbig := by exact (by simp +zetaDelta [maxLen] <;> omega)) (hbig' := by exact (by simp +zetaDelta <;> omega)) <| zM <| zF) ?_
     refine kx [(9, (jQ 2))] [] (zM <| zE (qQ 2 (hr := by decide)) <| zM <| zZ) ?_
     refine kJ (kL.refl _) ?_
     refine jA <| jA <| kY (wk (l := [(0, (vl 49 2 jJ y2)), (2, (.ref 0 0)), (4, (.ref 1 0)), (8, (.own 2 3 1 ([(jN (z0.fdiv d)), (jN (z1.fdiv d))].length))), (9, (jQ 2))]) (b := [(0, some (bx (jE (jB.mk 0 0 0 0)))), (1, some (bx (jJ (jR d)))), (2, some (bm jP [(jN (z0.fdiv d)), (jN (z1.fdiv d))]))])) ?_
     refine kx [(43, (vb true))] [] (zM <| zE (xH true uP) <| zZ) ?_
     refine qM ?_
     refine jF <| jA <| jH <| jA <| kd [(10, (.ref 7 0))] [(7, some (bx (jJ (jR (z2.fdiv d))))), (8, none)] mo (wM <| wM <| wE (oXs fD 2) <| wE (eN jM) <| wR (kT jM) <| wE (kD (nC hz2 hdI (by decide) (by decide) hdn)) <| wM <| wE qG <| wE qG <| wE qG <| wH (hc := by kernel_rfl) (uQ 7 uN uM) <| wH (hc := by kernel_rfl) (uQ 8 uN uM) <| wT (kZ jM) <| wT (kZ jM) <| wM <| wZ) ?_
     refine jA <| kx [(13, (vi (jN (z2.fdiv d)))), (14, (vb (kW (z2.fdiv d))))] [] (zR (kT jM) <| zE (kD (l8_small (z2.fdiv d) (xI (mR (k := 5) hz2 hdI (by decide)) (by decide)))) <| zM <| zE qG <| zE qG <| zM <| zM <| zZ) ?_
     refine jA <| jA <| kx [(70, (vb ((!(kW (z2.fdiv d)) || decide (((1048576 : Nat) : Int) < (jN (z2.fdiv d)))) || decide ((jN (z2.fdiv d)) < -1048576))))] [] ?_ ?_
     ·refine zM <| zE oNt <| zE (oV (vb (!(kW (z2.fdiv d)))) (kP (by kernel_rfl))) <| ?_
      rcases hb11 : (!(kW (z2.fdiv d))) with _ | _
      ·refine zM <| zE mZ <| zE nI <| zE (oV (vb (false || decide (((1048576 : Nat) : Int) < (jN (z2.fdiv d))))) (kP (by kernel_rfl))) <| ?_
       rcases hb12 : (false || decide (((1048576 : Nat) : Int) < (jN (z2.fdiv d)))) with _ | _
       ·replace hb12 := of_decide_eq_false (p := (((1048576 : Nat) : Int) < (jN (z2.fdiv d)))) hb12
        exact zM <| zE uP <| zE nI <| zZ
       ·replace hb12 := of_decide_eq_true (p := (((1048576 : Nat) : Int) < (jN (z2.fdiv d)))) hb12
        exact zK <| zK <| zE vR <| zZ
      ·exact zK <| zK <| zE vR <| zM <| zK <| zK <| zE vR <| zZ
     refine jG rfl (fun h13 => ?_) (fun h13 => ?_)
     ·refine jA <| kx [(3, (jQ 3))] [(0, some (bx (jE (jB.mk 0 0 0 0))))] (zE (eQ cH uY uZ) <| zT (kZ kK) <| zM <| zZ) ?_
      refine jI ⟨_, (kS (cs := (bx (jE (jB.mk 0 0 0 0)))) (d := (jE (jB.mk 0 0 0 0))) rfl rfl kK rfl rfl (.tmp (d := (.val (.int .i64 (((3 : Nat) : Int))))) rfl .nil)), ?_⟩
      obtain ⟨q1, q2⟩ := prim_n (q := (jB.mk z0 z1 z2 z3)) hd (x := z2) (.inr (.inr (.inl rfl))) ((smB_eq _).symm.trans h13)
      rw [q1, q2]; rfl
     ·refine jF <| kf [(8, (.own 2 3 1 ([(jN (z0.fdiv d)), (jN (z1.fdiv d)), (jN (z2.fdiv d))].length)))] [(2, some (bm jP [(jN (z0.fdiv d)), (jN (z1.fdiv d)), (jN (z2.fdiv d))]))] (zM <| zM <| zE (aA uT ze3 zo3) <| zA jP [(jN (z0.fdiv d)), (jN (z1.fdiv d))] [(jN (z2.fdiv d))] rfl uT ze3 by3 (hbig := by exact (by simp +zetaDelta [maxLen] <;> omega)) (hbig' := by exact (by simp +zetaDelta <;> omega)) <| zM <| zF) ?_
      refine kx [(9, (jQ 3))] [] (zM <| zE (qQ 3 (hr := by decide)) <| zM <| zZ) ?_
      refine kJ (kL.refl _) ?_
      refine jA <| jA <| kx [(43, (vb true))] [] (zM <| zE (xH true uP) <| zZ) ?_
      refine qM ?_
      refine jF <| jA <| jH <| jA <| kd [(10, (.ref 9 0))] [(9, some (bx (jJ (jR (z3.fdiv d))))), (10, none)] mo (wM <| wM <| wE (oXs fD 3) <| wE (eN jM) <| wR (kT jM) <| wE (kD (nC hz3 hdI (by decide) (by decide) hdn)) <| wM <| wE qG <| wE qG <| wE qG <| wH (hc := by kernel_rfl) (uQ 9 uN uM) <| wH (hc := by kernel_rfl) (uQ 10 uN uM) <| wT (kZ jM) <| wT (kZ jM) <| wM <| wZ) ?_
      refine jA <| kx [(13, (vi (jN (z3.fdiv d)))), (14, (vb (kW (z3.fdiv d))))] [] (zR (kT jM) <| zE (kD (l8_small (z3.fdiv d) (xI (mR (k := 5) hz3 hdI (by decide)) (by decide)))) <| zM <| zE qG <| zE qG <| zM <| zM <| zZ) ?_
      refine jA <| jA <| kx [(70, (vb ((!(kW (z3.fdiv d)) || decide (((1048576 : Nat) : Int) < (jN (z3.fdiv d)))) || decide ((jN (z3.fdiv d)) < -1048576))))] [] ?_ ?_
      ·refine zM <| zE oNt <| zE (oV (vb (!(kW (z3.fdiv d)))) (kP (by kernel_rfl))) <| ?_
       rcases hb14 : (!(kW (z3.fdiv d))) with _ | _
       ·refine zM <| zE mZ <| zE nI <| zE (oV (vb (false || decide (((1048576 : Nat) : Int) < (jN (z3.fdiv d))))) (kP (by kernel_rfl))) <| ?_
        rcases hb15 : (false || decide (((1048576 : Nat) : Int) < (jN (z3.fdiv d)))) with _ | _
        ·replace hb15 := of_decide_eq_false (p := (((1048576 : Nat) : Int) < (jN (z3.fdiv d)))) hb15
         exact zM <| zE uP <| zE nI <| zZ
        ·replace hb15 := of_decide_eq_true (p := (((1048576 : Nat) : Int) < (jN (z3.fdiv d)))) hb15
         exact zK <| zK <| zE vR <| zZ
       ·exact zK <| zK <| zE vR <| zM <| zK <| zK <| zE vR <| zZ
      refine jG rfl (fun h16 => ?_) (fun h16 => ?_)
      ·refine jA <| kx [(3, (jQ 3))] [(0, some (bx (jE (jB.mk 0 0 0 0))))] (zE (eQ cH uY uZ) <| zT (kZ kK) <| zM <| zZ) ?_
       refine jI ⟨_, (kS (cs := (bx (jE (jB.mk 0 0 0 0)))) (d := (jE (jB.mk 0 0 0 0))) rfl rfl kK rfl rfl (.tmp (d := (.val (.int .i64 (((3 : Nat) : Int))))) rfl .nil)), ?_⟩
       obtain ⟨q1, q2⟩ := prim_n (q := (jB.mk z0 z1 z2 z3)) hd (x := z3) (.inr (.inr (.inr rfl))) ((smB_eq _).symm.trans h16)
       rw [q1, q2]; rfl
      ·refine jF <| kf [(8, (.own 2 3 1 ([(jN (z0.fdiv d)), (jN (z1.fdiv d)), (jN (z2.fdiv d)), (jN (z3.fdiv d))].length)))] [(2, some (bm jP [(jN (z0.fdiv d)), (jN (z1.fdiv d)), (jN (z2.fdiv d)), (jN (z3.fdiv d))]))] (zM <| zM <| zE (aA uT ze3 zo3) <| zA jP [(jN (z0.fdiv d)), (jN (z1.fdiv d)), (jN (z2.fdiv d))] [(jN (z3.fdiv d))] rfl uT ze3 by3 (hbig := by exact (by simp +zetaDelta [maxLen] <;> omega)) (hbig' := by exact (by simp +zetaDelta <;> omega)) <| zM <| zF) ?_
       refine kx [(9, (jQ 4))] [] (zM <| zE (qQ 4 (hr := by decide)) <| zM <| zZ) ?_
       refine kJ (kL.refl _) ?_
       refine jA <| jA <| kx [(43, (vb false))] [] (zM <| zE (xH false uP) <| zZ) ?_
       refine qN ?_
       refine jW <| jA <| kY (vV (t := 8) (k := 2) (es := List.map jP [(jN (z0.fdiv d)), (jN (z1.fdiv d)), (jN (z2.fdiv d)), (jN (z3.fdiv d))]) rfl rfl (uO _ _ (fun _ => rfl)) (uS _ _ rfl) (vE _ _ (fun _ => rfl) rfl)) ?_
       refine kd [(3, (jQ 0))] [(0, some (bx (jE (jB.mk (jN (z0.fdiv d)) (jN (z1.fdiv d)) (jN (z2.fdiv d)) (jN (z3.fdiv d))))))] mo (wM <| wE (oXs uT 0) <| wE (nB qA) <| wM <| wE (oXs uT 1) <| wE (nB qA) <| wM <| wE (oXs uT 2) <| wE (nB qA) <| wM <| wE (oXs uT 3) <| wE (nB qA) <| wE (eQ cH uY uZ) <| wT (kZ kK) <| wM <| wZ) ?_
       refine jI ⟨_, (kS (cs := (bx (jE (jB.mk (jN (z0.fdiv d)) (jN (z1.fdiv d)) (jN (z2.fdiv d)) (jN (z3.fdiv d)))))) (d := (jE (jB.mk (jN (z0.fdiv d)) (jN (z1.fdiv d)) (jN (z2.fdiv d)) (jN (z3.fdiv d))))) rfl rfl kK rfl rfl (.tmp (d := (.val (.int .i64 (((0 : Nat) : Int))))) rfl .nil)), ?_⟩
       obtain ⟨q1, q2⟩ := prim_y (q := (jB.mk z0 z1 z2 z3)) hd ((smB_eq _).symm.trans h7) ((smB_eq _).symm.trans h10) ((smB_eq _).symm.trans h13) ((smB_eq _).symm.trans h16)
       rw [q1, q2]; rfl
end Go.Proofs.YtihgdjljnaekmaaGreat
namespace Go.Proofs.YtihgdjljnaekmaaGreat
open Go.Fid
set_option maxRecDepth 4000
set_option linter.unusedVariables false
set_option linter.unusedSimpArgs false
theorem cb33 : callB Tryz.prog 33 = true := by kernel_rfl
theorem cb39 : callB Tryz.prog 39 = true := by kernel_rfl
theorem cb56 : callB Tryz.prog 56 = true := by kernel_rfl
theorem cb59 : callB Tryz.prog 59 = true := by kernel_rfl
theorem cb79 : callB Tryz.prog 79 = true := by kernel_rfl
theorem cb96 : callB Tryz.prog 96 = true := by kernel_rfl
theorem cb97 : callB Tryz.prog 97 = true := by kernel_rfl
theorem cb102 : callB Tryz.prog 102 = true := by kernel_rfl
theorem cb128 : callB Tryz.prog 128 = true := by kernel_rfl
theorem cb129 : callB Tryz.prog 129 = true := by kernel_rfl
theorem gH : uR Tryz.prog 34 = some (28, 4) := by kernel_rfl
theorem ze179 : vF Tryz.prog 179 = some [.bool false, .slice none 0 0, .bool false, .slice none 0 0, .bool false, .slice none 0 0, .bool false, .slice none 0 0] := by kernel_rfl
theorem zo179 : mV [.bool false, .slice none 0 0, .bool false, .slice none 0 0, .bool false, .slice none 0 0, .bool false, .slice none 0 0] [.val (.bool false), .sl 135 1 [], .val (.bool false), .sl 135 1 [], .val (.bool false), .sl 135 1 [], .val (.bool false), .sl 135 1 []] := by simp [mV, Value.oneCell']
theorem l_red (a : Int) (hal : -9223372036854775808 ≤ a) (hah : a ≤ 9223372036854775807) (b : Int) (hbl : -9223372036854775808 ≤ b) (hbh : b ≤ 9223372036854775807) (c : Int) (hcl : -9223372036854775808 ≤ c) (hch : c ≤ 9223372036854775807) (d : Int) (hdl : -9223372036854775808 ≤ d) (hdh : d ≤ 9223372036854775807) (hnz : eO (jB.mk a b c d)) : jZ Tryz.prog 97 [(.val (.int .i64 (a))), (.val (.int .i64 (b))), (.val (.int .i64 (c))), (.val (.int .i64 (d)))] (.tup [(jE (qV (jB.mk a b c d))), (.val (.int .i64 ((((qC (jB.mk a b c d)) : Nat) : Int))))]) := by
 refine jL Tryz.func97 rfl cb97 rfl ?_
 show qS _ _ _ _ ⟨[(0, (vi a)), (1, (vi b)), (2, (vi c)), (3, (vi d))], []⟩
 refine jA <| kx [(8, (.ref 0 0))] [(0, some (bx (jE (jB.mk 0 0 0 0))))] (zN (uQ 0 uY uZ) <| zM <| zZ) ?_
 refine jA <| kx [(9, (jQ (qC (jB.mk a b c d))))] [(0, some (bx (jE (qV (jB.mk a b c d)))))] (zM <| zE (kD (t_of a (by omega) (by omega))) <| zM <| zE (kD (t_of b (by omega) (by omega))) <| zM <| zE (kD (t_of c (by omega) (by omega))) <| zM <| zE (kD (t_of d (by omega) (by omega))) <| zE (oBf ar179 ze179 zo179) <| zE (kD (l_prim a b c d (xI (yK (z := a) (by omega) (by omega)) (by decide)) (xI (yK (z := b) (by omega) (by omega)) (by decide)) (xI (yK (z := c) (by omega) (by omega)) (by decide)) (xI (yK (z := d) (by omega) (by omega)) (by decide)) hnz)) <| zE qG <| zE qG <| zT (kZ kK) <| zM <| zZ) ?_
 refine jI ⟨_, (kS (cs := (bx (jE (qV (jB.mk a b c d))))) (d := (jE (qV (jB.mk a b c d)))) rfl rfl kK rfl rfl (.tmp (d := (.val (.int .i64 ((((qC (jB.mk a b c d)) : Nat) : Int))))) rfl .nil)), ?_⟩
 rfl
theorem l8_red (a : Int) (hal : -9223372036854775808 ≤ a) (hah : a ≤ 9223372036854775807) (b : Int) (hbl : -9223372036854775808 ≤ b) (hbh : b ≤ 9223372036854775807) (c : Int) (hcl : -9223372036854775808 ≤ c) (hch : c ≤ 9223372036854775807) (d : Int) (hdl : -9223372036854775808 ≤ d) (hdh : d ≤ 9223372036854775807) (hnz : eO (jB.mk a b c d)) : jZ Tryz.prog 129 [(.val (.int .i64 (a))), (.val (.int .i64 (b))), (.val (.int .i64 (c))), (.val (.int .i64 (d)))] (.tup [(jE (qV (jB.mk a b c d))), (.val (.int .i64 ((((qC (jB.mk a b c d)) : Nat) : Int))))]) := by
 refine jL Tryz.func129 rfl cb129 rfl ?_
 show qS _ _ _ _ ⟨[(0, (vi a)), (1, (vi b)), (2, (vi c)), (3, (vi d))], []⟩
 refine jA <| kx [(8, (.ref 0 0))] [(0, some (bx (jE (jB.mk 0 0 0 0))))] (zN (uQ 0 uY uZ) <| zM <| zZ) ?_
 refine jA <| kx [(9, (jQ (qC (jB.mk a b c d))))] [(0, some (bx (jE (qV (jB.mk a b c d)))))] (zM <| zE (kD (r_of a (by omega) (by omega))) <| zM <| zE (kD (r_of b (by omega) (by omega))) <| zM <| zE (kD (r_of c (by omega) (by omega))) <| zM <| zE (kD (r_of d (by omega) (by omega))) <| zE (aA fD uN uM) <| zE (kD (l8_prim a b c d (xI (yK (z := a) (by omega) (by omega)) (by decide)) (xI (yK (z := b) (by omega) (by omega)) (by decide)) (xI (yK (z := c) (by omega) (by omega)) (by decide)) (xI (yK (z := d) (by omega) (by omega)) (by decide)) hnz)) <| zE qG <| zE qG <| zT (kZ kK) <| zM <| zZ) ?_
 refine jI ⟨_, (kS (cs := (bx (jE (qV (jB.mk a b c d))))) (d := (jE (qV (jB.mk a b c d)))) rfl rfl kK rfl rfl (.tmp (d := (.val (.int .i64 ((((qC (jB.mk a b c d)) : Nat) : Int))))) rfl .nil)), ?_⟩
 rfl
theorem l_canon (q : jB) (hq : cQ q) : jZ Tryz.prog 102 [(jE q)] (.tup [(jE (qV q)), (.val (.int .i64 ((((qC q) : Nat) : Int))))]) := by
 obtain ⟨qa_, qb_, qc_, qd_⟩ := hq.2.bd
 refine jL Tryz.func102 rfl cb102 rfl ?_
 show qS _ _ _ _ ⟨[(0, (.d (jE q)))], []⟩
 refine jA <| kx [(1, (.ref 0 0)), (2, (.ref 1 0))] [(0, some (bx (jE q))), (1, some (bx (jE (jB.mk 0 0 0 0))))] (zN (zL 0) <| zN (uQ 1 uY uZ) <| zM <| zZ) ?_
 refine jA <| jA <| kx [(4, (jQ (yT q.a q.b q.c q.d)))] [] (zR (kT kK) <| zE (kD (q_chk q.a q.b q.c q.d)) <| zM <| zZ) ?_
 refine jA <| kx [(8, (vb false))] [] (zM <| zE (xH false cG (by exact bne_eq_false_iff_eq.2 (by rw [show (yT q.a q.b q.c q.d) = 0 from (nL.1 hq)]; rfl))) <| zZ) ?_
 refine qN ?_
 refine jF <| jA <| kx [(3, (jQ (qC (jB.mk q.a q.b q.c q.d))))] [(1, some (bx (jE (qV (jB.mk q.a q.b q.c q.d)))))] (zE (kQ vJ) <| zR (kM qA) <| zE (kQ vN) <| zR (kM qA) <| zE (kQ vM) <| zR (kM qA) <| zE (kQ vK) <| zR (kM qA) <| zE (kD (l_red q.a (by omega) (by omega) q.b (by omega) (by omega) q.c (by omega) (by omega) q.d (by omega) (by omega) hq.1)) <| zE qG <| zE qG <| zT (kZ kK) <| zM <| zZ) ?_
 refine jI ⟨_, (kS (cs := (bx (jE (qV (jB.mk q.a q.b q.c q.d))))) (d := (jE (qV (jB.mk q.a q.b q.c q.d)))) rfl rfl kK rfl rfl (.tmp (d := (.val (.int .i64 ((((qC (jB.mk q.a q.b q.c q.d)) : Nat) : Int))))) rfl .nil)), ?_⟩
 rfl
theorem l_same (p : jB) (q : jB) (hp : cQ p) (hq : cQ q) : jZ Tryz.prog 59 [(jE p), (jE q)] (.val (.bool ((eY p q)))) := by
 refine jL Tryz.func59 rfl cb59 rfl ?_
 show qS _ _ _ _ ⟨[(0, (.d (jE p))), (1, (.d (jE q)))], []⟩
 refine jA <| kx [(2, (.ref 0 0)), (3, (.ref 1 0))] [(0, some (bx (jE p))), (1, some (bx (jE q)))] (zN (zL 0) <| zN (zL 1) <| zM <| zZ) ?_
 refine jA <| kx [(5, (.ref 2 0)), (6, (jQ (qC p)))] [(2, some (bx (jE (qV p))))] (zR (kT kK) <| zE (kD (l_canon p hp)) <| zM <| zE qG <| zE qG <| zN (uQ 2 uY uZ) <| zT (kZ kK) <| zM <| zZ) ?_
 refine jA <| kx [(7, (.ref 3 0)), (8, (jQ (qC q)))] [(3, some (bx (jE (qV q))))] (zR (kT kK) <| zE (kD (l_canon q hq)) <| zM <| zE qG <| zE qG <| zN (uQ 3 uY uZ) <| zT (kZ kK) <| zM <| zZ) ?_
 refine jA <| kx [(4, (vb (true && (decide ([(qV p).a, (qV p).b, (qV p).c, (qV p).d] = [(qV q).a, (qV q).b, (qV q).c, (qV q).d])))))] [] (zM <| zE (xH true gF (by exact beq_iff_eq.2 (by rw [show (qC p) = 0 from (qC_ok hp)]; rfl))) <| zM <| zM <| zE (xH true gF (by exact beq_iff_eq.2 (by rw [show (qC q) = 0 from (qC_ok hq)]; rfl))) <| zE vR <| zM <| zR (kT kK) <| zR (kT kK) <| zE (oEs eqs28 .i64 [(qV p).a, (qV p).b, (qV p).c, (qV p).d] [(qV q).a, (qV q).b, (qV q).c, (qV q).d]) <| zE oPa <| zM <| zZ) ?_
 refine jI ⟨_, (.tmp (d := (.val (.bool ((true && (decide ([(qV p).a, (qV p).b, (qV p).c, (qV p).d] = [(qV q).a, (qV q).b, (qV q).c, (qV q).d]))))))) rfl .nil), ?_⟩
 rfl
theorem l8_canon (q : jB) (hq : cQ q) : jZ Tryz.prog 79 [(jE q)] (.tup [(jE (qV q)), (.val (.int .i64 ((((qC q) : Nat) : Int))))]) := by
 obtain ⟨qa_, qb_, qc_, qd_⟩ := hq.2.bd
 refine jL Tryz.func79 rfl cb79 rfl ?_
 show qS _ _ _ _ ⟨[(0, (.d (jE q)))], []⟩
 refine jA <| kx [(1, (.ref 0 0)), (2, (.ref 1 0))] [(0, some (bx (jE q))), (1, some (bx (jE (jB.mk 0 0 0 0))))] (zN (zL 0) <| zN (uQ 1 uY uZ) <| zM <| zZ) ?_
 refine jA <| kx [(4, (jQ (yT q.a q.b q.c q.d)))] [] (zR (kT kK) <| zE (kD (qs_chk q.a q.b q.c q.d)) <| zM <| zZ) ?_
 refine jA <| jA <| kx [(8, (vb false))] [] (zM <| zE (xH false cG (by exact bne_eq_false_iff_eq.2 (by rw [show (yT q.a q.b q.c q.d) = 0 from (nL.1 hq)]; rfl))) <| zZ) ?_
 refine qN ?_
 refine jF <| jA <| kx [(3, (jQ (qC (jB.mk q.a q.b q.c q.d))))] [(1, some (bx (jE (qV (jB.mk q.a q.b q.c q.d)))))] (zE (kQ vJ) <| zR (kM qA) <| zE (kQ vN) <| zR (kM qA) <| zE (kQ vM) <| zR (kM qA) <| zE (kQ vK) <| zR (kM qA) <| zE (kD (l8_red q.a (by omega) (by omega) q.b (by omega) (by omega) q.c (by omega) (by omega) q.d (by omega) (by omega) hq.1)) <| zE qG <| zE qG <| zT (kZ kK) <| zM <| zZ) ?_
 refine jI ⟨_, (kS (cs := (bx (jE (qV (jB.mk q.a q.b q.c q.d))))) (d := (jE (qV (jB.mk q.a q.b q.c q.d)))) rfl rfl kK rfl rfl (.tmp (d := (.val (.int .i64 ((((qC (jB.mk q.a q.b q.c q.d)) : Nat) : Int))))) rfl .nil)), ?_⟩
 rfl
theorem l8_same (p : jB) (q : jB) (hp : cQ p) (hq : cQ q) : jZ Tryz.prog 39 [(jE p), (jE q)] (.val (.bool ((eY p q)))) := by
 refine jL Tryz.func39 rfl cb39 rfl ?_
 show qS _ _ _ _ ⟨[(0, (.d (jE p))), (1, (.d (jE q)))], []⟩
 refine jA <| kx [(2, (.ref 0 0)), (3, (.ref 1 0))] [(0, some (bx (jE p))), (1, some (bx (jE q)))] (zN (zL 0) <| zN (zL 1) <| zM <| zZ) ?_
 refine jA <| kx [(5, (.ref 2 0)), (6, (jQ (qC p)))] [(2, some (bx (jE (qV p))))] (zR (kT kK) <| zE (kD (l8_canon p hp)) <| zM <| zE qG <| zE qG <| zN (uQ 2 uY uZ) <| zT (kZ kK) <| zM <| zZ) ?_
 refine jA <| kx [(7, (.ref 3 0)), (8, (jQ (qC q)))] [(3, some (bx (jE (qV q))))] (zR (kT kK) <| zE (kD (l8_canon q hq)) <| zM <| zE qG <| zE qG <| zN (uQ 3 uY uZ) <| zT (kZ kK) <| zM <| zZ) ?_
 refine jA <| kx [(4, (vb (true && (decide ([(qV p).a, (qV p).b, (qV p).c, (qV p).d] = [(qV q).a, (qV q).b, (qV q).c, (qV q).d])))))] [] (zM <| zE (xH true gF (by exact beq_iff_eq.2 (by rw [show (qC p) = 0 from (qC_ok hp)]; rfl))) <| zM <| zM <| zE (xH true gF (by exact beq_iff_eq.2 (by rw [show (qC q) = 0 from (qC_ok hq)]; rfl))) <| zE vR <| zM <| zR (kT kK) <| zR (kT kK) <| zE (oEs eqs28 .i64 [(qV p).a, (qV p).b, (qV p).c, (qV p).d] [(qV q).a, (qV q).b, (qV q).c, (qV q).d]) <| zE oPa <| zM <| zZ) ?_
 refine jI ⟨_, (.tmp (d := (.val (.bool ((true && (decide ([(qV p).a, (qV p).b, (qV p).c, (qV p).d] = [(qV q).a, (qV q).b, (qV q).c, (qV q).d]))))))) rfl .nil), ?_⟩
 rfl
theorem l_conj (q : jB) (hq : cQ q) : jZ Tryz.prog 56 [(jE q)] (.tup [(jE (qV (uD q))), (.val (.int .i64 ((((qC (uD q)) : Nat) : Int))))]) := by
 obtain ⟨qa_, qb_, qc_, qd_⟩ := hq.2.bd
 refine jL Tryz.func56 rfl cb56 rfl ?_
 show qS _ _ _ _ ⟨[(0, (.d (jE q)))], []⟩
 refine jA <| kx [(1, (.ref 0 0)), (2, (.ref 1 0))] [(0, some (bx (jE q))), (1, some (bx (jE (jB.mk 0 0 0 0))))] (zN (zL 0) <| zN (uQ 1 uY uZ) <| zM <| zZ) ?_
 refine jA <| jA <| kx [(4, (jQ (yT q.a q.b q.c q.d)))] [] (zR (kT kK) <| zE (kD (q_chk q.a q.b q.c q.d)) <| zM <| zZ) ?_
 refine jA <| kx [(8, (vb false))] [] (zM <| zE (xH false cG (by exact bne_eq_false_iff_eq.2 (by rw [show (yT q.a q.b q.c q.d) = 0 from (nL.1 hq)]; rfl))) <| zZ) ?_
 refine qN ?_
 refine jF <| jA <| kx [(3, (jQ (qC (jB.mk q.a (-q.b) (-q.c) (-q.d)))))] [(1, some (bx (jE (qV (jB.mk q.a (-q.b) (-q.c) (-q.d))))))] (zE (kQ vJ) <| zR (kM qA) <| zE (kQ vN) <| zR (kM qA) <| zE (oNg (-q.b) (hr := by exact (qK (by first | omega | rfl | (dsimp only; omega)) (by simp only [xN]; omega) (by simp only [xO]; omega)))) <| zE (kQ vM) <| zR (kM qA) <| zE (oNg (-q.c) (hr := by exact (qK (by first | omega | rfl | (dsimp only; omega)) (by simp only [xN]; omega) (by simp only [xO]; omega)))) <| zE (kQ vK) <| zR (kM qA) <| zE (oNg (-q.d) (hr := by exact (qK (by first | omega | rfl | (dsimp only; omega)) (by simp only [xN]; omega) (by simp only [xO]; omega)))) <| zE (kD (l_red q.a (by omega) (by omega) (-q.b) (by omega) (by omega) (-q.c) (by omega) (by omega) (-q.d) (by omega) (by omega) (xK hq.1))) <| zE qG <| zE qG <| zT (kZ kK) <| zM <| zZ) ?_
 refine jI ⟨_, (kS (cs := (bx (jE (qV (jB.mk q.a (-q.b) (-q.c) (-q.d)))))) (d := (jE (qV (jB.mk q.a (-q.b) (-q.c) (-q.d))))) rfl rfl kK rfl rfl (.tmp (d := (.val (.int .i64 ((((qC (jB.mk q.a (-q.b) (-q.c) (-q.d))) : Nat) : Int))))) rfl .nil)), ?_⟩
 rfl
theorem l8_conj (q : jB) (hq : cQ q) : jZ Tryz.prog 33 [(jE q)] (.tup [(jE (qV (uD q))), (.val (.int .i64 ((((qC (uD q)) : Nat) : Int))))]) := by
 obtain ⟨qa_, qb_, qc_, qd_⟩ := hq.2.bd
 refine jL Tryz.func33 rfl cb33 rfl ?_
 show qS _ _ _ _ ⟨[(0, (.d (jE q)))], []⟩
 refine jA <| kx [(1, (.ref 0 0)), (2, (.ref 1 0))] [(0, some (bx (jE q))), (1, some (bx (jE (jB.mk 0 0 0 0))))] (zN (zL 0) <| zN (uQ 1 uY uZ) <| zM <| zZ) ?_
 refine jA <| kx [(3, (jQ (qC (jB.mk q.a (-q.b) (-q.c) (-q.d)))))] [(1, some (bx (jE (qV (jB.mk q.a (-q.b) (-q.c) (-q.d))))))] (zE (kQ vJ) <| zR (kM qA) <| zE (kQ vN) <| zR (kM qA) <| zE (oNg (-q.b) (hr := by exact (qK (by first | omega | rfl | (dsimp only; omega)) (by simp only [xN]; omega) (by simp only [xO]; omega)))) <| zE (kQ vM) <| zR (kM qA) <| zE (oNg (-q.c) (hr := by exact (qK (by first | omega | rfl | (dsimp only; omega)) (by simp only [xN]; omega) (by simp only [xO]; omega)))) <| zE (kQ vK) <| zR (kM qA) <| zE (oNg (-q.d) (hr := by exact (qK (by first | omega | rfl | (dsimp only; omega)) (by simp only [xN]; omega) (by simp only [xO]; omega)))) <| zE (eQ cH uY uZ) <| zE (kD (l8_canon (jB.mk q.a (-q.b) (-q.c) (-q.d)) (qcj_ok hq))) <| zE qG <| zE qG <| zT (kZ kK) <| zM <| zZ) ?_
 refine jI ⟨_, (kS (cs := (bx (jE (qV (jB.mk q.a (-q.b) (-q.c) (-q.d)))))) (d := (jE (qV (jB.mk q.a (-q.b) (-q.c) (-q.d))))) rfl rfl kK rfl rfl (.tmp (d := (.val (.int .i64 ((((qC (jB.mk q.a (-q.b) (-q.c) (-q.d))) : Nat) : Int))))) rfl .nil)), ?_⟩
 rfl
theorem l_chkd (p q : jB) (hp : cQ p) (hq : cQ q) : jZ Tryz.prog 96 [(.sl 28 4 (List.map jE [p, q]))] (.val (.int .i64 (0))) := by
 refine jL Tryz.func96 rfl cb96 rfl ?_
 show qS _ _ _ _ ⟨[(0, (vl 28 4 jE [p, q]))], []⟩
 refine jA <| kx [] [] (zM <| zZ) ?_
 refine jA <| jA <| kx [(6, (vl 28 4 jE [p, q])), (7, (jQ 2)), (8, (jQ 0))] [] (zM <| zE (oLn gH 2) <| zM <| zZ) ?_
 refine jH <| yN 20 ?_
 refine gI <| jA <| kx [(9, (vb true))] [] (zE (xH true uP) <| zZ) ?_
 refine jA <| qM ?_
 refine jF <| jA <| jH <| jA <| kx [(4, (.ref 0 0))] [(0, some (bx (jE p)))] (zE (oXs gH 0) <| zE (eN kK) <| zN (uQ 0 uY uZ) <| zT (kZ kK) <| zZ) ?_
 refine jA <| kx [(5, (jQ (yT p.a p.b p.c p.d)))] [] (zR (kT kK) <| zE (kD (q_chk p.a p.b p.c p.d)) <| zM <| zZ) ?_
 refine jA <| kx [(15, (vb false))] [] (zM <| zE (xH false cG (by exact bne_eq_false_iff_eq.2 (by rw [show (yT p.a p.b p.c p.d) = 0 from (nL.1 hp)]; rfl))) <| zZ) ?_
 refine qN ?_
 refine jF <| kx [(8, (jQ 1))] [] (zE (qQ 1 (hr := by decide)) <| zM <| zZ) ?_
 refine kJ (kL.refl _) ?_
 refine jA <| kx [(9, (vb true))] [] (zE (xH true uP) <| zZ) ?_
 refine jA <| qM ?_
 refine jF <| jA <| jH <| jA <| kx [(4, (.ref 1 0))] [(1, some (bx (jE q)))] (zE (oXs gH 1) <| zE (eN kK) <| zN (uQ 1 uY uZ) <| zT (kZ kK) <| zZ) ?_
 refine jA <| kx [(5, (jQ (yT q.a q.b q.c q.d)))] [] (zR (kT kK) <| zE (kD (q_chk q.a q.b q.c q.d)) <| zM <| zZ) ?_
 refine jA <| kx [(15, (vb false))] [] (zM <| zE (xH false cG (by exact bne_eq_false_iff_eq.2 (by rw [show (yT q.a q.b q.c q.d) = 0 from (nL.1 hq)]; rfl))) <| zZ) ?_
 refine qN ?_
 refine jF <| kx [(8, (jQ 2))] [] (zE (qQ 2 (hr := by decide)) <| zM <| zZ) ?_
 refine kJ (kL.refl _) ?_
 refine jA <| kx [(9, (vb false))] [] (zE (xH false uP) <| zZ) ?_
 refine jA <| qN ?_
 refine jW <| jA <| kx [(2, (jQ 0))] [] (zM <| zZ) ?_
 refine jI ⟨_, (.tmp (d := (.val (.int .i64 (((0 : Nat) : Int))))) rfl .nil), ?_⟩
 rfl
theorem l8_both (p : jB) (q : jB) (hp : cQ p) (hq : cQ q) : jZ Tryz.prog 128 [(jE p), (jE q)] (.val (.int .i64 (0))) := by
 refine jL Tryz.func128 rfl cb128 rfl ?_
 show qS _ _ _ _ ⟨[(0, (.d (jE p))), (1, (.d (jE q)))], []⟩
 refine jA <| kx [(2, (.ref 0 0)), (3, (.ref 1 0))] [(0, some (bx (jE p))), (1, some (bx (jE q)))] (zN (zL 0) <| zN (zL 1) <| zM <| zZ) ?_
 refine jA <| kx [(5, (jQ (yT p.a p.b p.c p.d)))] [] (zR (kT kK) <| zE (kD (qs_chk p.a p.b p.c p.d)) <| zM <| zZ) ?_
 refine jA <| jA <| kx [(9, (vb false))] [] (zM <| zE (xH false cG (by exact bne_eq_false_iff_eq.2 (by rw [show (yT p.a p.b p.c p.d) = 0 from (nL.1 hp)]; rfl))) <| zZ) ?_
 refine qN ?_
 refine jF <| jA <| kx [(4, (jQ (yT q.a q.b q.c q.d)))] [] (zR (kT kK) <| zE (kD (qs_chk q.a q.b q.c q.d)) <| zM <| zZ) ?_
 refine jI ⟨_, (.tmp (d := (.val (.int .i64 ((((yT q.a q.b q.c q.d) : Nat) : Int))))) rfl .nil), ?_⟩
 rw [show yT q.a q.b q.c q.d = 0 from nL.1 hq]; rfl
end Go.Proofs.YtihgdjljnaekmaaGreat
