/- Part 24 of a proof: rules, plain facts, and functions walked. -/
import Derived.Test.YtihgdjljnaekmaaGreatM21
import Derived.Test.YtihgdjljnaekmaaGreatM22
import Derived.Test.YtihgdjljnaekmaaGreatM12
import Derived.Test.YtihgdjljnaekmaaGreatM23
namespace Go.Proofs.YtihgdjljnaekmaaGreat
open Go.Fid
set_option maxRecDepth 4000
set_option linter.unusedVariables false
set_option linter.unusedSimpArgs false
theorem ar179 : arrB Tryz.prog 179 = some (4, 49, 2) := by kernel_rfl
theorem cb121 : callB Tryz.prog 121 = true := by kernel_rfl
theorem cb145 : callB Tryz.prog 145 = true := by kernel_rfl
theorem in3 : intB Tryz.prog 3 = some .i64 := by kernel_rfl
theorem sh179 : kV Tryz.prog 179 = some (true, 8) := by kernel_rfl
theorem ze4 : vF Tryz.prog 4 = some [.bool false] := by kernel_rfl
theorem zo4 : mV [.bool false] [.val (.bool false)] := by simp [mV, Value.oneCell']
theorem l_small (z : Int) (hz : zW (jR z) z 10000001) : jZ Tryz.prog 121 [(jJ (jR z))] (.tup [(.val (.int .i64 ((jN z)))), (.val (.bool ((kW z))))]) := by
 have hzl := hz.l
 refine jL Tryz.func121 rfl cb121 rfl ?_
 show qS _ _ _ _ ⟨[(0, (.d (jJ (jR z))))], []⟩
 refine jA <| kx [(1, (.ref 0 0)), (2, (.ref 1 0)), (3, (.ref 2 0))] [(0, some (bx (jJ (jR z)))), (1, some (bx (.val (.int .i64 (0))))), (2, some (bx (.val (.bool (false)))))] (zN (zL 0) <| zN (uQ 1 ze3 zo3) <| zN (uQ 2 ze4 zo4) <| zZ) ?_
 refine jA <| kx [(4, (vl 135 1 jD (jV (jR z))))] [] (zR (kT jM) <| zE (kD (yB (jR z) (by omega))) <| zM <| zZ) ?_
 refine jA <| jA <| kx [(12, (vb (decide (3 < (((jV (jR z)).length : Nat) : Int)))))] [] (zM <| zE (xA kC (L := (jV (jR z)))) <| zE mZ <| zZ) ?_
 refine jG rfl (fun h1 => ?_) (fun h1 => ?_)
 ·replace h1 := of_decide_eq_true h1
  refine jA <| kx [] [(1, some (bx (.val (.int .i64 (0))))), (2, some (bx (.val (.bool (false)))))] (zT (kZ qA) <| zT (kZ cZ) <| zZ) ?_
  refine jI ⟨_, (dY (cs := (bx (.val (.int .i64 (0))))) (d := (.val (.int .i64 (0)))) rfl rfl qA rfl rfl (dY (cs := (bx (.val (.bool (false))))) (d := (.val (.bool (false)))) rfl rfl cZ rfl rfl .nil)), ?_⟩
  have hz0 := gz_long (z := z) (by omega)
  rw [smallI_f (fits64_f hz0), fits64_f hz0]; rfl
 ·replace h1 := of_decide_eq_false h1
  have h3 : (jV (jR z)).length ≤ 3 := by omega
  refine jF <| jA <| kx [(5, (.ref 3 0))] [(3, some (bx (.val (.int .u64 (0)))))] (zN (uQ 3 ze180 zo180) <| zT (kZ dR) <| zZ) ?_
  refine jA <| pwp_backL backs cb158 rfl 7 jD (jV (jR z)) 0 (fun n => ⟨[(1, (.ref 0 0)), (2, (.ref 1 0)), (3, (.ref 2 0)), (4, (vl 135 1 jD (jV (jR z)))), (5, (.ref 3 0))], [(0, some (bx (jJ (jR z)))), (1, some (bx (.val (.int .i64 (0))))), (2, some (bx (.val (.bool (false))))), (3, some (bx (.val (.int .u64 (((n : Nat) : Int))))))]⟩) (fun (j : Nat) n => n = val ((jV (jR z)).drop ((jV (jR z)).length - j)) ∧ n ≤ 9223372036854775808) 0 rfl rfl rfl rfl rfl rfl rfl rfl rfl rfl rfl rfl (fun _ => rfl) (fun _ => rfl) wk ⟨by simp [val], by decide⟩ (by omega) ?_ ?_
  ·rintro rl j n hj ⟨hn, hb⟩
   have hd := (gz_dig z).getD ((jV (jR z)).length - 1 - j)
   have hrm := gz_room (z := z) (j := j) (n := n)
   refine kx [(7, (dC ((jV (jR z)).getD ((jV (jR z)).length - 1 - j) 0)))] [] (zM <| zZ) ?_
   refine jH <| jA <| jA <| kx [(22, (vb (decide ((((9223372036854775808 - ((jV (jR z)).getD ((jV (jR z)).length - 1 - j) 0)) / 1000000000 : Nat) : Int) < ((n : Nat) : Int)))))] [] (zR (kM dR) <| zM <| zE (yV vZ xC ((jV (jR z)).getD ((jV (jR z)).length - 1 - j) 0)) <| zE (oSb (9223372036854775808 - ((jV (jR z)).getD ((jV (jR z)).length - 1 - j) 0)) (hr := by exact (wu64 (by omega) (by omega) (by omega)))) <| zE (oQu ((9223372036854775808 - ((jV (jR z)).getD ((jV (jR z)).length - 1 - j) 0)) / 1000000000) (hr := by exact (quo_u64 (9223372036854775808 - ((jV (jR z)).getD ((jV (jR z)).length - 1 - j) 0)) 1000000000 (by omega)))) <| zE mZ <| zZ) ?_
   refine jG rfl (fun h2 => ?_) (fun h2 => ?_)
   ·replace h2 := of_decide_eq_true h2
    refine jA <| kx [] [(1, some (bx (.val (.int .i64 (0))))), (2, some (bx (.val (.bool (false)))))] (zT (kZ qA) <| zT (kZ cZ) <| zZ) ?_
    refine jI ⟨⟨[(2, (.ref 1 0)), (3, (.ref 2 0))], [(1, some (bx (.val (.int .i64 (0))))), (2, some (bx (.val (.bool (false)))))]⟩, wk, keys_of rfl, ⟨_, (dY (cs := (bx (.val (.int .i64 (0))))) (d := (.val (.int .i64 (0)))) rfl rfl qA rfl rfl (dY (cs := (bx (.val (.bool (false))))) (d := (.val (.bool (false)))) rfl rfl cZ rfl rfl .nil)), ?_⟩⟩
    have hz0 := gz_over hj hn (by omega)
    rw [smallI_f (fits64_f hz0), fits64_f hz0]; rfl
   ·replace h2 := of_decide_eq_false h2
    refine jF <| kx [] [(3, some (bx (.val (.int .u64 (((((n * 1000000000) + ((jV (jR z)).getD ((jV (jR z)).length - 1 - j) 0)) : Nat) : Int))))))] (zR (kM dR) <| zE (oMl (n * 1000000000)) <| zM <| zE (yV vZ xC ((jV (jR z)).getD ((jV (jR z)).length - 1 - j) 0)) <| zE (qQ ((n * 1000000000) + ((jV (jR z)).getD ((jV (jR z)).length - 1 - j) 0))) <| zT (kZ dR) <| zZ) ?_
    exact ⟨n * 1000000000 + ((jV (jR z)).getD ((jV (jR z)).length - 1 - j) 0), wk, ⟨gz_step hj hn, hrm (by omega)⟩⟩
  ·rintro n ⟨hn, hb⟩
   have hz1 := gz_end hn
   refine jA <| jH <| jA <| kx [(28, (vb (decide (0 < (((jV (jR z)).length : Nat) : Int)) && (jR z).neg)))] [] ?_ ?_
   ·refine zM <| zE (xA kC (L := (jV (jR z)))) <| zE mZ <| zE (oV (vb (decide (0 < (((jV (jR z)).length : Nat) : Int)))) (kP (by kernel_rfl))) <| ?_
    rcases hb3 : (decide (0 < (((jV (jR z)).length : Nat) : Int))) with _ | _
    ·replace hb3 := of_decide_eq_false hb3
     exact zK <| zK <| zE oPf <| zM <| zZ
    ·replace hb3 := of_decide_eq_true hb3
     exact zE (kQ uW) <| zR (kM cZ) <| zE oPa <| zM <| zZ
   refine jG rfl (fun h4 => ?_) (fun h4 => ?_)
   ·refine jA <| kx [] [(1, some (bx (.val (.int .i64 ((-((n : Nat) : Int))))))), (2, some (bx (.val (.bool (true)))))] (zR (kM dR) <| zE (oNg (((18446744073709551616 - n) % 18446744073709551616 : Nat) : Int) (hr := by exact (negu64 hb))) <| zE (zCv zU in3 (-((n : Nat) : Int)) (hr := by exact (negi64 hb))) <| zT (kZ qA) <| zT (kZ cZ) <| zZ) ?_
    refine jI ⟨_, (dY (cs := (bx (.val (.int .i64 ((-((n : Nat) : Int))))))) (d := (.val (.int .i64 ((-((n : Nat) : Int)))))) rfl rfl qA rfl rfl (dY (cs := (bx (.val (.bool (true))))) (d := (.val (.bool (true)))) rfl rfl cZ rfl rfl .nil)), ?_⟩
    obtain ⟨q1, q2⟩ := sm_n hz1 hb (sm_neg h4)
    rw [q1, q2]; rfl
   ·refine jA <| kx [(39, (vb (((n : Nat) : Int) == 9223372036854775808)))] [] (zR (kM dR) <| zE gF <| zM <| zZ) ?_
    refine jG rfl (fun h5 => ?_) (fun h5 => ?_)
    ·replace h5 := eq_of_beq h5
     refine jA <| kx [] [(1, some (bx (.val (.int .i64 (0))))), (2, some (bx (.val (.bool (false)))))] (zT (kZ qA) <| zT (kZ cZ) <| zZ) ?_
     refine jI ⟨_, (dY (cs := (bx (.val (.int .i64 (0))))) (d := (.val (.int .i64 (0)))) rfl rfl qA rfl rfl (dY (cs := (bx (.val (.bool (false))))) (d := (.val (.bool (false)))) rfl rfl cZ rfl rfl .nil)), ?_⟩
     obtain ⟨q1, q2⟩ := sm_x (z := z) (by have := sm_pos h4; omega)
     rw [q1, q2]; rfl
    ·replace h5 := ne_of_beq_false h5
     refine jF <| jA <| kx [] [(1, some (bx (.val (.int .i64 (((n : Nat) : Int)))))), (2, some (bx (.val (.bool (true)))))] (zR (kM dR) <| zE (yV zU in3 n) <| zT (kZ qA) <| zT (kZ cZ) <| zZ) ?_
     refine jI ⟨_, (dY (cs := (bx (.val (.int .i64 (((n : Nat) : Int)))))) (d := (.val (.int .i64 (((n : Nat) : Int))))) rfl rfl qA rfl rfl (dY (cs := (bx (.val (.bool (true))))) (d := (.val (.bool (true)))) rfl rfl cZ rfl rfl .nil)), ?_⟩
     obtain ⟨q1, q2⟩ := sm_p hz1 (by omega) (sm_pos h4)
     rw [q1, q2]; rfl
theorem l_prim (z0 z1 z2 z3 : Int) (hz0 : zW (jR z0) z0 4) (hz1 : zW (jR z1) z1 4) (hz2 : zW (jR z2) z2 4) (hz3 : zW (jR z3) z3 4) (hnz : eO (jB.mk z0 z1 z2 z3)) : jZ Tryz.prog 145 [(encA179 (A4.mk (jR z0) (jR z1) (jR z2) (jR z3)))] (.tup [(jE (qV (jB.mk z0 z1 z2 z3))), (.val (.int .i64 ((((qC (jB.mk z0 z1 z2 z3)) : Nat) : Int))))]) := by
 have hln := q4_len hz0 hz1 hz2 hz3
 have hgI := gcd_iok hln
 have hgn := gcd_n hnz
 let y3 := (encA179 (A4.mk (jR z0) (jR z1) (jR z2) (jR z3)))
 let y2 := (bx y3)
 let y1 := (bx (jJ (jR ((Int.gcd (((Int.gcd (((Int.gcd (((Int.gcd 0 z0 : Nat) : Int)) z1 : Nat) : Int)) z2 : Nat) : Int)) z3 : Nat) : Int))))
 refine jL Tryz.func145 rfl cb145 rfl ?_
 show qS _ _ _ _ ⟨[(0, (.d y3))], []⟩
 refine jA <| kx [(1, (.ref 0 0)), (2, (.ref 1 0))] [(0, some y2), (1, some (bx (jE (jB.mk 0 0 0 0))))] (zN (zL 0) <| zN (uQ 1 uY uZ) <| zM <| zZ) ?_
 refine jA <| kx [(4, (.ref 2 0)), (5, (.ref 3 0))] [(2, some (bx (jJ (kG.mk false [])))), (3, some (bx (jJ (kG.mk false []))))] (zN (uQ 2 uN uM) <| zN (uQ 3 uN uM) <| zZ) ?_
 refine pwp_meet (α := Int × Int) (fun (g, f) => ⟨[(1, (.ref 0 0)), (2, (.ref 1 0)), (4, (.ref 2 0)), (5, (.ref 3 0))], [(0, some y2), (1, some (bx (jE (jB.mk 0 0 0 0)))), (2, some (bx (jJ (jR g)))), (3, some (bx (jJ (jR f))))]⟩) (fun (g, f) => g = ((gcdL (qL (jB.mk z0 z1 z2 z3)) : Nat) : Int) ∧ f = cU (qL (jB.mk z0 z1 z2 z3))) ?_ ?_
 ·refine jA <| kx [(16, (.d y3)), (17, (jQ 0))] [] (zR (kT sh179) <| zM <| zZ) ?_
  refine jH <| yN 20 ?_
  refine gI <| jA <| kx [(18, (vb true))] [] (zE (xH true uP) <| zZ) ?_
  refine jA <| qM ?_
  refine jF <| jA <| jH <| jA <| kx [(7, (.ref 4 0))] [(4, some (bx (jJ (jR z0))))] (zE (oXa ar179 jM (fun h => by cases h) 0) <| zN (uQ 4 uN uM) <| zT (kZ jM) <| zZ) ?_
  refine jA <| kx [] [(2, some (bx (jJ (jR ((Int.gcd 0 z0 : Nat) : Int)))))] (zR (kT jM) <| zR (kT jM) <| zE (kD (s_gcd mU hz0 (by decide) (by decide))) <| zT (kZ jM) <| zZ) ?_
  refine jA <| kx [(25, (vb true))] [] (zR (kT jM) <| zE (kD (cB mU (by decide))) <| zE (xH true gF (by exact beq_iff_eq.2 rfl)) <| zZ) ?_
  refine qM ?_
  refine kx [] [(3, some (bx (jJ (jR z0))))] (zR (kT jM) <| zT (kZ jM) <| zZ) ?_
  refine kx [(17, (jQ 1))] [] (zE (qQ 1 (hr := by decide)) <| zM <| zZ) ?_
  refine kJ (kL.refl _) ?_
  refine jA <| kx [(18, (vb true))] [] (zE (xH true uP) <| zZ) ?_
  refine jA <| qM ?_
  refine jF <| jA <| jH <| jA <| kx [(7, (.ref 5 0))] [(5, some (bx (jJ (jR z1))))] (zE (oXa ar179 jM (fun h => by cases h) 1) <| zN (uQ 5 uN uM) <| zT (kZ jM) <| zZ) ?_
  refine jA <| kx [] [(2, some (bx (jJ (jR ((Int.gcd (((Int.gcd 0 z0 : Nat) : Int)) z1 : Nat) : Int)))))] (zR (kT jM) <| zR (kT jM) <| zE (kD (s_gcd (qP (k := 4) mU hz0 (by decide)) hz1 (by decide) (by decide))) <| zT (kZ jM) <| zZ) ?_
  refine jA <| kx [(25, (vb ((kF z0) == ((0 : Nat) : Int))))] [] (zR (kT jM) <| zE (kD (cB hz0 (by decide))) <| zE gF <| zZ) ?_
  refine jG (b := ((kF z0) == ((0 : Nat) : Int))) rfl (fun h1 => ?_) (fun h1 => ?_)
  ·replace h1 := eq_of_beq h1
   refine kx [] [(3, some (bx (jJ (jR z1))))] (zR (kT jM) <| zT (kZ jM) <| zZ) ?_
   refine kY (wk (l := [(1, (.ref 0 0)), (2, (.ref 1 0)), (4, (.ref 2 0)), (5, (.ref 3 0)), (16, (.d y3)), (17, (jQ 1))]) (b := [(0, some y2), (1, some (bx (jE (jB.mk 0 0 0 0)))), (2, some (bx (jJ (jR ((Int.gcd (((Int.gcd 0 z0 : Nat) : Int)) z1 : Nat) : Int))))), (3, some (bx (jJ (jR z1))))])) ?_
   refine kx [(17, (jQ 2))] [] (zE (qQ 2 (hr := by decide)) <| zM <| zZ) ?_
   refine kJ (kL.refl _) ?_
   refine jA <| kx [(18, (vb true))] [] (zE (xH true uP) <| zZ) ?_
   refine jA <| qM ?_
   refine jF <| jA <| jH <| jA <| kx [(7, (.ref 6 0))] [(6, some (bx (jJ (jR z2))))] (zE (oXa ar179 jM (fun h => by cases h) 2) <| zN (uQ 6 uN uM) <| zT (kZ jM) <| zZ) ?_
   refine jA <| kx [] [(2, some (bx (jJ (jR ((Int.gcd (((Int.gcd (((Int.gcd 0 z0 : Nat) : Int)) z1 : Nat) : Int)) z2 : Nat) : Int)))))] (zR (kT jM) <| zR (kT jM) <| zE (kD (s_gcd (qP (k := 4) (qP (k := 4) mU hz0 (by decide)) hz1 (by decide)) hz2 (by decide) (by decide))) <| zT (kZ jM) <| zZ) ?_
   refine jA <| kx [(25, (vb ((kF z1) == ((0 : Nat) : Int))))] [] (zR (kT jM) <| zE (kD (cB hz1 (by decide))) <| zE gF <| zZ) ?_
   refine jG (b := ((kF z1) == ((0 : Nat) : Int))) rfl (fun h2 => ?_) (fun h2 => ?_)
   ·replace h2 := eq_of_beq h2
    refine kx [] [(3, some (bx (jJ (jR z2))))] (zR (kT jM) <| zT (kZ jM) <| zZ) ?_
    refine kx [(17, (jQ 3))] [] (zE (qQ 3 (hr := by decide)) <| zM <| zZ) ?_
    refine kJ (kL.refl _) ?_
    refine jA <| kx [(18, (vb true))] [] (zE (xH true uP) <| zZ) ?_
    refine jA <| qM ?_
    refine jF <| jA <| jH <| jA <| kx [(7, (.ref 7 0))] [(7, some (bx (jJ (jR z3))))] (zE (oXa ar179 jM (fun h => by cases h) 3) <| zN (uQ 7 uN uM) <| zT (kZ jM) <| zZ) ?_
    refine jA <| kx [] [(2, some y1)] (zR (kT jM) <| zR (kT jM) <| zE (kD (s_gcd (qP (k := 4) (qP (k := 4) (qP (k := 4) mU hz0 (by decide)) hz1 (by decide)) hz2 (by decide)) hz3 (by decide) (by decide))) <| zT (kZ jM) <| zZ) ?_
    refine jA <| kx [(25, (vb ((kF z2) == ((0 : Nat) : Int))))] [] (zR (kT jM) <| zE (kD (cB hz2 (by decide))) <| zE gF <| zZ) ?_
    refine jG (b := ((kF z2) == ((0 : Nat) : Int))) rfl (fun h3 => ?_) (fun h3 => ?_)
    ·replace h3 := eq_of_beq h3
     refine kx [] [(3, some (bx (jJ (jR z3))))] (zR (kT jM) <| zT (kZ jM) <| zZ) ?_
     refine kx [(17, (jQ 4))] [] (zE (qQ 4 (hr := by decide)) <| zM <| zZ) ?_
     refine kJ (kL.refl _) ?_
     refine jA <| kx [(18, (vb false))] [] (zE (xH false uP) <| zZ) ?_
     refine jA <| qN ?_
     refine jW ?_
     exact met (((Int.gcd ((Int.gcd ((Int.gcd ((Int.gcd 0 z0 : Nat) : Int) z1 : Nat) : Int) z2 : Nat) : Int) z3 : Nat) : Int), z3) wk (⟨rfl, fst_3 h1 h2 h3⟩)
    ·replace h3 := ne_of_beq_false h3
     refine jF <| kx [(17, (jQ 4))] [] (zE (qQ 4 (hr := by decide)) <| zM <| zZ) ?_
     refine kJ (kL.refl _) ?_
     refine jA <| kx [(18, (vb false))] [] (zE (xH false uP) <| zZ) ?_
     refine jA <| qN ?_
     refine jW ?_
     exact met (((Int.gcd ((Int.gcd ((Int.gcd ((Int.gcd 0 z0 : Nat) : Int) z1 : Nat) : Int) z2 : Nat) : Int) z3 : Nat) : Int), z2) wk (⟨rfl, fst_2 h1 h2 h3⟩)
   ·replace h2 := ne_of_beq_false h2
    refine jF <| kx [(17, (jQ 3))] [] (zE (qQ 3 (hr := by decide)) <| zM <| zZ) ?_
    refine kJ (kL.refl _) ?_
    refine jA <| kx [(18, (vb true))] [] (zE (xH true uP) <| zZ) ?_
    refine jA <| qM ?_
    refine jF <| jA <| jH <| jA <| kx [(7, (.ref 8 0))] [(8, some (bx (jJ (jR z3))))] (zE (oXa ar179 jM (fun h => by cases h) 3) <| zN (uQ 8 uN uM) <| zT (kZ jM) <| zZ) ?_
    refine jA <| kx [] [(2, some y1)] (zR (kT jM) <| zR (kT jM) <| zE (kD (s_gcd (qP (k := 4) (qP (k := 4) (qP (k := 4) mU hz0 (by decide)) hz1 (by decide)) hz2 (by decide)) hz3 (by decide) (by decide))) <| zT (kZ jM) <| zZ) ?_
    refine jA <| kx [(25, (vb false))] [] (zR (kT jM) <| zE (kD (cB hz1 (by decide))) <| zE (xH false gF (by exact beq_eq_false_iff_ne.2 h2)) <| zZ) ?_
    refine qN ?_
    refine jF <| kx [(17, (jQ 4))] [] (zE (qQ 4 (hr := by decide)) <| zM <| zZ) ?_
    refine kJ (kL.refl _) ?_
    refine jA <| kx [(18, (vb false))] [] (zE (xH false uP) <| zZ) ?_
    refine jA <| qN ?_
    refine jW ?_
    exact met (((Int.gcd ((Int.gcd ((Int.gcd ((Int.gcd 0 z0 : Nat) : Int) z1 : Nat) : Int) z2 : Nat) : Int) z3 : Nat) : Int), z1) wk (⟨rfl, fst_1 h1 h2⟩)
  ·replace h1 := ne_of_beq_false h1
   refine jF <| kx [(17, (jQ 2))] [] (zE (qQ 2 (hr := by decide)) <| zM <| zZ) ?_
   refine kJ (kL.refl _) ?_
   refine jA <| kY (wk (l := [(1, (.ref 0 0)), (2, (.ref 1 0)), (4, (.ref 2 0)), (5, (.ref 3 0)), (16, (.d y3)), (17, (jQ 2))]) (b := [(0, some y2), (1, some (bx (jE (jB.mk 0 0 0 0)))), (2, some (bx (jJ (jR ((Int.gcd (((Int.gcd 0 z0 : Nat) : Int)) z1 : Nat) : Int))))), (3, some (bx (jJ (jR z0))))])) ?_
   refine kx [(18, (vb true))] [] (zE (xH true uP) <| zZ) ?_
   refine jA <| qM ?_
   refine jF <| jA <| jH <| jA <| kx [(7, (.ref 9 0))] [(9, some (bx (jJ (jR z2))))] (zE (oXa ar179 jM (fun h => by cases h) 2) <| zN (uQ 9 uN uM) <| zT (kZ jM) <| zZ) ?_
   refine jA <| kx [] [(2, some (bx (jJ (jR ((Int.gcd (((Int.gcd (((Int.gcd 0 z0 : Nat) : Int)) z1 : Nat) : Int)) z2 : Nat) : Int)))))] (zR (kT jM) <| zR (kT jM) <| zE (kD (s_gcd (qP (k := 4) (qP (k := 4) mU hz0 (by decide)) hz1 (by decide)) hz2 (by decide) (by decide))) <| zT (kZ jM) <| zZ) ?_
   refine jA <| kx [(25, (vb false))] [] (zR (kT jM) <| zE (kD (cB hz0 (by decide))) <| zE (xH false gF (by exact beq_eq_false_iff_ne.2 h1)) <| zZ) ?_
   refine qN ?_
   refine jF <| kx [(17, (jQ 3))] [] (zE (qQ 3 (hr := by decide)) <| zM <| zZ) ?_
   refine kJ (kL.refl _) ?_
   refine jA <| kx [(18, (vb true))] [] (zE (xH true uP) <| zZ) ?_
   refine jA <| qM ?_
   refine jF <| jA <| jH <| jA <| kx [(7, (.ref 10 0))] [(10, some (bx (jJ (jR z3))))] (zE (oXa ar179 jM (fun h => by cases h) 3) <| zN (uQ 10 uN uM) <| zT (kZ jM) <| zZ) ?_
   refine jA <| kx [] [(2, some y1)] (zR (kT jM) <| zR (kT jM) <| zE (kD (s_gcd (qP (k := 4) (qP (k := 4) (qP (k := 4) mU hz0 (by decide)) hz1 (by decide)) hz2 (by decide)) hz3 (by decide) (by decide))) <| zT (kZ jM) <| zZ) ?_
   refine jA <| kx [(25, (vb false))] [] (zR (kT jM) <| zE (kD (cB hz0 (by decide))) <| zE (xH false gF (by exact beq_eq_false_iff_ne.2 h1)) <| zZ) ?_
   refine qN ?_
   refine jF <| kx [(17, (jQ 4))] [] (zE (qQ 4 (hr := by decide)) <| zM <| zZ) ?_
   refine kJ (kL.refl _) ?_
   refine jA <| kx [(18, (vb false))] [] (zE (xH false uP) <| zZ) ?_
   refine jA <| qN ?_
   refine jW ?_
   exact met (((Int.gcd ((Int.gcd ((Int.gcd ((Int.gcd 0 z0 : Nat) : Int) z1 : Nat) : Int) z2 : Nat) : Int) z3 : Nat) : Int), z0) wk (⟨rfl, fst_0 h1⟩)
 ·rintro ⟨g, f⟩ ⟨hg, hf⟩
  have hfI := fst_iok hf hln
  rw [← hg] at hgI hgn
  refine pwp_meet (α := Int) (fun d => ⟨[(1, (.ref 0 0)), (2, (.ref 1 0)), (4, (.ref 2 0))], [(0, some y2), (1, some (bx (jE (jB.mk 0 0 0 0)))), (2, some (bx (jJ (jR d))))]⟩) (fun d => dvL (qL (jB.mk z0 z1 z2 z3)) = d) ?_ ?_
  ·refine jA <| kx [(30, (vb (decide ((kF f) < ((0 : Nat) : Int)))))] [] (zR (kT jM) <| zE (kD (cB hfI (by decide))) <| zE uP <| zZ) ?_
   refine jG (b := decide ((kF f) < ((0 : Nat) : Int))) rfl (fun h4 => ?_) (fun h4 => ?_)
   ·replace h4 := of_decide_eq_true h4
    refine kx [] [(2, some (bx (jJ (jR (-g)))))] (zR (kT jM) <| zE (kD (s_neg hgI (by decide))) <| zT (kZ jM) <| zZ) ?_
    exact met (-g) wk (by rw [hg]; exact dv_n hf h4)
   ·replace h4 := of_decide_eq_false h4
    refine jF ?_
    exact met g wk (by rw [hg]; exact dv_p hf h4)
  ·rintro d hd
   have hdI : zW (jR d) d 4 := by rw [← hd]; exact gO (dvL_len hln)
   have hdn : d ≠ 0 := by rw [← hd]; exact dvL_ne hnz
   refine jA <| kx [(8, (.ref 11 0))] [(11, some (bx (zI (A4.mk 0 0 0 0))))] (zN (uQ 11 ze146 zo146) <| zZ) ?_
   refine jA <| jA <| kx [(33, (.d y3)), (34, (jQ 0))] [] (zR (kT sh179) <| zM <| zZ) ?_
   refine jH <| yN 20 ?_
   refine gI <| jA <| kx [(35, (vb true))] [] (zE (xH true uP) <| zZ) ?_
   refine jA <| qM ?_
   refine jF <| jA <| jH <| jA <| kx [(9, (jQ 0)), (10, (.ref 12 0))] [(12, some (bx (jJ (jR z0))))] (zM <| zE (oXa ar179 jM (fun h => by cases h) 0) <| zN (uQ 12 uN uM) <| zM <| zT (kZ jM) <| zZ) ?_
   refine jA <| kx [(11, (.ref 13 0))] [(13, some (bx (jJ (jR (z0.fdiv d))))), (14, none)] (zR (kT jM) <| zR (kT jM) <| zE (kD (mW hz0 hdI (by decide) (by decide) hdn)) <| zM <| zE qG <| zE qG <| zE qG <| zN (uQ 13 uN uM) <| zN (uQ 14 uN uM) <| zT (kZ jM) <| zT (kZ jM) <| zM <| zZ) ?_
   refine jA <| kx [(14, (vi (jN (z0.fdiv d)))), (15, (vb (kW (z0.fdiv d))))] [] (zR (kT jM) <| zE (kD (l_small (z0.fdiv d) (xI (mR (k := 5) hz0 hdI (by decide)) (by decide)))) <| zM <| zE qG <| zE qG <| zM <| zM <| zZ) ?_
   refine jA <| jA <| kx [(59, (vb ((!(kW (z0.fdiv d)) || decide ((jN (z0.fdiv d)) < -1048576)) || decide (((1048576 : Nat) : Int) < (jN (z0.fdiv d))))))] [] ?_ ?_
   ·refine zM <| zE oNt <| zE (oV (vb (!(kW (z0.fdiv d)))) (kP (by kernel_rfl))) <| ?_
    rcases hb5 : (!(kW (z0.fdiv d))) with _ | _
    ·refine zM <| zE uP <| zE nI <| zE (oV (vb (false || decide ((jN (z0.fdiv d)) < -1048576))) (kP (by kernel_rfl))) <| ?_
     rcases hb6 : (false || decide ((jN (z0.fdiv d)) < -1048576)) with _ | _
     ·replace hb6 := of_decide_eq_false (p := ((jN (z0.fdiv d)) < -1048576)) hb6
      exact zM <| zE mZ <| zE nI <| zZ
     ·replace hb6 := of_decide_eq_true (p := ((jN (z0.fdiv d)) < -1048576)) hb6
      exact zK <| zK <| zE vR <| zZ
    ·exact zK <| zK <| zE vR <| zM <| zK <| zK <| zE vR <| zZ
   refine jG rfl (fun h7 => ?_) (fun h7 => ?_)
   ·refine jA <| kx [(3, (jQ 3))] [(1, some (bx (jE (jB.mk 0 0 0 0))))] (zE (eQ cH uY uZ) <| zT (kZ kK) <| zM <| zZ) ?_
    refine jI ⟨_, (kS (cs := (bx (jE (jB.mk 0 0 0 0)))) (d := (jE (jB.mk 0 0 0 0))) rfl rfl kK rfl rfl (.tmp (d := (.val (.int .i64 (((3 : Nat) : Int))))) rfl .nil)), ?_⟩
    obtain ⟨q1, q2⟩ := prim_n (q := (jB.mk z0 z1 z2 z3)) hd (x := z0) (.inl rfl) h7
    rw [q1, q2]; rfl
   ·refine jF <| kx [] [(11, some (bx (zI (A4.mk (jN (z0.fdiv d)) 0 0 0))))] (zM <| zM <| zE (oXr fE 0) <| zT (kZ qA) <| zZ) ?_
    refine kx [(34, (jQ 1))] [] (zE (qQ 1 (hr := by decide)) <| zM <| zZ) ?_
    refine kJ (kL.refl _) ?_
    refine jA <| kx [(35, (vb true))] [] (zE (xH true uP) <| zZ) ?_
    refine jA <| qM ?_
    refine jF <| jA <| jH <| jA <| kx [(9, (jQ 1)), (10, (.ref 15 0))] [(15, some (bx (jJ (jR z1))))] (zM <| zE (oXa ar179 jM (fun h => by cases h) 1) <| zN (uQ 15 uN uM) <| zM <| zT (kZ jM) <| zZ) ?_
    refine jA <| kx [(11, (.ref 16 0))] [(16, some (bx (jJ (jR (z1.fdiv d))))), (17, none)] (zR (kT jM) <| zR (kT jM) <| zE (kD (mW hz1 hdI (by decide) (by decide) hdn)) <| zM <| zE qG <| zE qG <| zE qG <| zN (uQ 16 uN uM) <| zN (uQ 17 uN uM) <| zT (kZ jM) <| zT (kZ jM) <| zM <| zZ) ?_
    refine jA <| kx [(14, (vi (jN (z1.fdiv d)))), (15, (vb (kW (z1.fdiv d))))] [] (zR (kT jM) <| zE (kD (l_small (z1.fdiv d) (xI (mR (k := 5) hz1 hdI (by decide)) (by decide)))) <| zM <| zE qG <| zE qG <| zM <| zM <| zZ) ?_
    refine jA <| jA <| kx [(59, (vb ((!(kW (z1.fdiv d)) || decide ((jN (z1.fdiv d)) < -1048576)) || decide (((1048576 : Nat) : Int) < (jN (z1.fdiv d))))))] [] ?_ ?_
    ·refine zM <| zE oNt <| zE (oV (vb (!(kW (z1.fdiv d)))) (kP (by kernel_rfl))) <| ?_
     rcases hb8 : (!(kW (z1.fdiv d))) with _ | _
     ·refine zM <| zE uP <| zE nI <| zE (oV (vb (false || decide ((jN (z1.fdiv d)) < -1048576))) (kP (by kernel_rfl))) <| ?_
      rcases hb9 : (false || decide ((jN (z1.fdiv d)) < -1048576)) with _ | _
      ·replace hb9 := of_decide_eq_false (p := ((jN (z1.fdiv d)) < -1048576)) hb9
       exact zM <| zE mZ <| zE nI <| zZ
      ·replace hb9 := of_decide_eq_true (p := ((jN (z1.fdiv d)) < -1048576)) hb9
       exact zK <| zK <| zE vR <| zZ
     ·exact zK <| zK <| zE vR <| zM <| zK <| zK <| zE vR <| zZ
    refine jG rfl (fun h10 => ?_) (fun h10 => ?_)
    ·refine jA <| kY (wk (l := [(2, (.ref 1 0)), (4, (.ref 2 0)), (8, (.ref 11 0)), (9, (jQ 1)), (14, (vi (jN (z1.fdiv d)))), (33, (.d y3)), (34, (jQ 1)), (59, (vb ((!(kW (z1.fdiv d)) || decide ((jN (z1.fdiv d)) < -1048576)) || decide (((1048576 : Nat) : Int) < (jN (z1.fdiv d))))))]) (b := [(1, some (bx (jE (jB.mk 0 0 0 0)))), (11, some (bx (zI (A4.mk (jN (z0.fdiv d)) 0 0 0)))), (2, some (bx (jJ (jR d))))])) ?_
     refine kx [(3, (jQ 3))] [(1, some (bx (jE (jB.mk 0 0 0 0))))] (zE (eQ cH uY uZ) <| zT (kZ kK) <| zM <| zZ) ?_
     refine jI ⟨_, (kS (cs := (bx (jE (jB.mk 0 0 0 0)))) (d := (jE (jB.mk 0 0 0 0))) rfl rfl kK rfl rfl (.tmp (d := (.val (.int .i64 (((3 : Nat) : Int))))) rfl .nil)), ?_⟩
     obtain ⟨q1, q2⟩ := prim_n (q := (jB.mk z0 z1 z2 z3)) hd (x := z1) (.inr (.inl rfl)) h10
     rw [q1, q2]; rfl
    ·refine jF <| kY (wk (l := [(2, (.ref 1 0)), (4, (.ref 2 0)), (8, (.ref 11 0)), (9, (jQ 1)), (14, (vi (jN (z1.fdiv d)))), (33, (.d y3)), (34, (jQ 1)), (59, (vb ((!(kW (z1.fdiv d)) || decide ((jN (z1.fdiv d)) < -1048576)) || decide (((1048576 : Nat) : Int) < (jN (z1.fdiv d))))))]) (b := [(1, some (bx (jE (jB.mk 0 0 0 0)))), (11, some (bx (zI (A4.mk (jN (z0.fdiv d)) 0 0 0)))), (2, some (bx (jJ (jR d))))])) ?_
     refine kx [] [(11, some (bx (zI (A4.mk (jN (z0.fdiv d)) (jN (z1.fdiv d)) 0 0))))] (zM <| zM <| zE (oXr fE 1) <| zT (kZ qA) <| zZ) ?_
     refine kx [(34, (jQ 2))] [] (zE (qQ 2 (hr := by decide)) <| zM <| zZ) ?_
     refine kJ (kL.refl _) ?_
     refine jA <| kx [(35, (vb true))] [] (zE (xH true uP) <| zZ) ?_
     refine jA <| qM ?_
     refine jF <| jA <| jH <| jA <| kx [(9, (jQ 2)), (10, (.ref 18 0))] [(18, some (bx (jJ (jR z2))))] (zM <| zE (oXa ar179 jM (fun h => by cases h) 2) <| zN (uQ 18 uN uM) <| zM <| zT (kZ jM) <| zZ) ?_
     refine jA <| kx [(11, (.ref 19 0))] [(19, some (bx (jJ (jR (z2.fdiv d))))), (20, none)] (zR (kT jM) <| zR (kT jM) <| zE (kD (mW hz2 hdI (by decide) (by decide) hdn)) <| zM <| zE qG <| zE qG <| zE qG <| zN (uQ 19 uN uM) <| zN (uQ 20 uN uM) <| zT (kZ jM) <| zT (kZ jM) <| zM <| zZ) ?_
     refine jA <| kx [(14, (vi (jN (z2.fdiv d)))), (15, (vb (kW (z2.fdiv d))))] [] (zR (kT jM) <| zE (kD (l_small (z2.fdiv d) (xI (mR (k := 5) hz2 hdI (by decide)) (by decide)))) <| zM <| zE qG <| zE qG <| zM <| zM <| zZ) ?_
     refine jA <| jA <| kx [(59, (vb ((!(kW (z2.fdiv d)) || decide ((jN (z2.fdiv d)) < -1048576)) || decide (((1048576 : Nat) : Int) < (jN (z2.fdiv d))))))] [] ?_ ?_
     ·refine zM <| zE oNt <| zE (oV (vb (!(kW (z2.fdiv d)))) (kP (by kernel_rfl))) <| ?_
      rcases hb11 : (!(kW (z2.fdiv d))) with _ | _
      ·refine zM <| zE uP <| zE nI <| zE (oV (vb (false || decide ((jN (z2.fdiv d)) < -1048576))) (kP (by kernel_rfl))) <| ?_
       rcases hb12 : (false || decide ((jN (z2.fdiv d)) < -1048576)) with _ | _
       ·replace hb12 := of_decide_eq_false (p := ((jN (z2.fdiv d)) < -1048576)) hb12
        exact zM <| zE mZ <| zE nI <| zZ
       ·replace hb12 := of_decide_eq_true (p := ((jN (z2.fdiv d)) < -1048576)) hb12
        exact zK <| zK <| zE vR <| zZ
      ·exact zK <| zK <| zE vR <| zM <| zK <| zK <| zE vR <| zZ
     refine jG rfl (fun h13 => ?_) (fun h13 => ?_)
     ·refine jA <| kx [(3, (jQ 3))] [(1, some (bx (jE (jB.mk 0 0 0 0))))] (zE (eQ cH uY uZ) <| zT (kZ kK) <| zM <| zZ) ?_
      refine jI ⟨_, (kS (cs := (bx (jE (jB.mk 0 0 0 0)))) (d := (jE (jB.mk 0 0 0 0))) rfl rfl kK rfl rfl (.tmp (d := (.val (.int .i64 (((3 : Nat) : Int))))) rfl .nil)), ?_⟩
      obtain ⟨q1, q2⟩ := prim_n (q := (jB.mk z0 z1 z2 z3)) hd (x := z2) (.inr (.inr (.inl rfl))) h13
      rw [q1, q2]; rfl
     ·refine jF <| kx [] [(11, some (bx (zI (A4.mk (jN (z0.fdiv d)) (jN (z1.fdiv d)) (jN (z2.fdiv d)) 0))))] (zM <| zM <| zE (oXr fE 2) <| zT (kZ qA) <| zZ) ?_
      refine kx [(34, (jQ 3))] [] (zE (qQ 3 (hr := by decide)) <| zM <| zZ) ?_
      refine kJ (kL.refl _) ?_
      refine jA <| kx [(35, (vb true))] [] (zE (xH true uP) <| zZ) ?_
      refine jA <| qM ?_
      refine jF <| jA <| jH <| jA <| kx [(9, (jQ 3)), (10, (.ref 21 0))] [(21, some (bx (jJ (jR z3))))] (zM <| zE (oXa ar179 jM (fun h => by cases h) 3) <| zN (uQ 21 uN uM) <| zM <| zT (kZ jM) <| zZ) ?_
      refine jA <| kx [(11, (.ref 22 0))] [(22, some (bx (jJ (jR (z3.fdiv d))))), (23, none)] (zR (kT jM) <| zR (kT jM) <| zE (kD (mW hz3 hdI (by decide) (by decide) hdn)) <| zM <| zE qG <| zE qG <| zE qG <| zN (uQ 22 uN uM) <| zN (uQ 23 uN uM) <| zT (kZ jM) <| zT (kZ jM) <| zM <| zZ) ?_
      refine jA <| kx [(14, (vi (jN (z3.fdiv d)))), (15, (vb (kW (z3.fdiv d))))] [] (zR (kT jM) <| zE (kD (l_small (z3.fdiv d) (xI (mR (k := 5) hz3 hdI (by decide)) (by decide)))) <| zM <| zE qG <| zE qG <| zM <| zM <| zZ) ?_
      refine jA <| jA <| kx [(59, (vb ((!(kW (z3.fdiv d)) || decide ((jN (z3.fdiv d)) < -1048576)) || decide (((1048576 : Nat) : Int) < (jN (z3.fdiv d))))))] [] ?_ ?_
      ·refine zM <| zE oNt <| zE (oV (vb (!(kW (z3.fdiv d)))) (kP (by kernel_rfl))) <| ?_
       rcases hb14 : (!(kW (z3.fdiv d))) with _ | _
       ·refine zM <| zE uP <| zE nI <| zE (oV (vb (false || decide ((jN (z3.fdiv d)) < -1048576))) (kP (by kernel_rfl))) <| ?_
        rcases hb15 : (false || decide ((jN (z3.fdiv d)) < -1048576)) with _ | _
        ·replace hb15 := of_decide_eq_false (p := ((jN (z3.fdiv d)) < -1048576)) hb15
         exact zM <| zE mZ <| zE nI <| zZ
        ·replace hb15 := of_decide_eq_true (p := ((jN (z3.fdiv d)) < -1048576)) hb15
         exact zK <| zK <| zE vR <| zZ
       ·exact zK <| zK <| zE vR <| zM <| zK <| zK <| zE vR <| zZ
      refine jG rfl (fun h16 => ?_) (fun h16 => ?_)
      ·refine jA <| kY (wk (l := [(2, (.ref 1 0)), (4, (.ref 2 0)), (8, (.ref 11 0)), (9, (jQ 3)), (14, (vi (jN (z3.fdiv d)))), (33, (.d y3)), (34, (jQ 3)), (59, (vb ((!(kW (z3.fdiv d)) || decide ((jN (z3.fdiv d)) < -1048576)) || decide (((1048576 : Nat) : Int) < (jN (z3.fdiv d))))))]) (b := [(1, some (bx (jE (jB.mk 0 0 0 0)))), (11, some (bx (zI (A4.mk (jN (z0.fdiv d)) (jN (z1.fdiv d)) (jN (z2.fdiv d)) 0)))), (2, some (bx (jJ (jR d))))])) ?_
       refine kx [(3, (jQ 3))] [(1, some (bx (jE (jB.mk 0 0 0 0))))] (zE (eQ cH uY uZ) <| zT (kZ kK) <| zM <| zZ) ?_
       refine jI ⟨_, (kS (cs := (bx (jE (jB.mk 0 0 0 0)))) (d := (jE (jB.mk 0 0 0 0))) rfl rfl kK rfl rfl (.tmp (d := (.val (.int .i64 (((3 : Nat) : Int))))) rfl .nil)), ?_⟩
       obtain ⟨q1, q2⟩ := prim_n (q := (jB.mk z0 z1 z2 z3)) hd (x := z3) (.inr (.inr (.inr rfl))) h16
       rw [q1, q2]; rfl
      ·refine jF <| kY (wk (l := [(2, (.ref 1 0)), (4, (.ref 2 0)), (8, (.ref 11 0)), (9, (jQ 3)), (14, (vi (jN (z3.fdiv d)))), (33, (.d y3)), (34, (jQ 3)), (59, (vb ((!(kW (z3.fdiv d)) || decide ((jN (z3.fdiv d)) < -1048576)) || decide (((1048576 : Nat) : Int) < (jN (z3.fdiv d))))))]) (b := [(1, some (bx (jE (jB.mk 0 0 0 0)))), (11, some (bx (zI (A4.mk (jN (z0.fdiv d)) (jN (z1.fdiv d)) (jN (z2.fdiv d)) 0)))), (2, some (bx (jJ (jR d))))])) ?_
       refine kx [] [(11, some (bx (zI (A4.mk (jN (z0.fdiv d)) (jN (z1.fdiv d)) (jN (z2.fdiv d)) (jN (z3.fdiv d))))))] (zM <| zM <| zE (oXr fE 3) <| zT (kZ qA) <| zZ) ?_
       refine kx [(34, (jQ 4))] [] (zE (qQ 4 (hr := by decide)) <| zM <| zZ) ?_
       refine kJ (kL.refl _) ?_
       refine jA <| kx [(35, (vb false))] [] (zE (xH false uP) <| zZ) ?_
       refine jA <| qN ?_
       refine jW <| jA <| kx [(3, (jQ 0))] [(1, some (bx (jE (jB.mk (jN (z0.fdiv d)) (jN (z1.fdiv d)) (jN (z2.fdiv d)) (jN (z3.fdiv d))))))] (zE (oXr fE 0) <| zR (kM qA) <| zE (oXr fE 1) <| zR (kM qA) <| zE (oXr fE 2) <| zR (kM qA) <| zE (oXr fE 3) <| zR (kM qA) <| zE (eQ cH uY uZ) <| zT (kZ kK) <| zM <| zZ) ?_
       refine jI ⟨_, (kS (cs := (bx (jE (jB.mk (jN (z0.fdiv d)) (jN (z1.fdiv d)) (jN (z2.fdiv d)) (jN (z3.fdiv d)))))) (d := (jE (jB.mk (jN (z0.fdiv d)) (jN (z1.fdiv d)) (jN (z2.fdiv d)) (jN (z3.fdiv d))))) rfl rfl kK rfl rfl (.tmp (d := (.val (.int .i64 (((0 : Nat) : Int))))) rfl .nil)), ?_⟩
       obtain ⟨q1, q2⟩ := prim_y (q := (jB.mk z0 z1 z2 z3)) hd h7 h10 h13 h16
       rw [q1, q2]; rfl
end Go.Proofs.YtihgdjljnaekmaaGreat
