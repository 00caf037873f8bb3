/- Part 33 of a proof: rules, plain facts, and functions walked. -/
import Derived.Test.YtapjldagikfcmaaGreatM30
import Derived.Test.YtapjldagikfcmaaGreatM31
import Derived.Test.YtapjldagikfcmaaGreatM32
namespace Go.Proofs.YtapjldagikfcmaaGreat
open Go.Fid
set_option maxRecDepth 4000
set_option linter.unusedVariables false
set_option linter.unusedSimpArgs false
theorem cb50 : callB Tryz.prog 50 = true := by kernel_rfl
theorem cb133 : callB Tryz.prog 133 = true := by kernel_rfl
theorem cb135 : callB Tryz.prog 135 = true := by kernel_rfl
theorem cb136 : callB Tryz.prog 136 = true := by kernel_rfl
theorem cb142 : callB Tryz.prog 142 = true := by kernel_rfl
theorem in3 : intB Tryz.prog 3 = some .i64 := by kernel_rfl
theorem ze4 : xL Tryz.prog 4 = some [.bool false] := by kernel_rfl
theorem zo4 : cD [.bool false] [.val (.bool false)] := by simp [cD, Value.oneCell']
theorem q_floor (x : Rat) (hx : QL x 10000000) : kH Tryz.prog 136 [(jP (jD x))] (jV (kN (gU x))) := by
 refine jM Tryz.func136 rfl cb136 rfl ?_
 show uY _ _ _ _ ⟨[(0, (.d (jP (jD x))))], []⟩
 refine jA <| kx [(1, (.ref 0 0)), (2, (.ref 1 0))] [(0, some (bx (jP (jD x)))), (1, some (bx (jV (jI.mk false []))))] (zN (vD 0) <| zN (uK 1 hH hM) <| zZ) ?_
 refine jA <| kx [] [(0, some (bx (jP (jD x))))] (zR (kC jR) <| zE (kB (eY (jD x) x (jY (kA hx) (by decide)))) <| zT (qG jR) <| zZ) ?_
 refine jA ?_
 have bn1 : nO (kN (x.num.fdiv (x.den : Int))) (x.num.fdiv (x.den : Int)) 10000001 := (iok_fdiv (k := 10000001) (uO hx) (vE hx) (by decide))
 refine kx [(3, (.ref 2 0))] [(2, some (bx (jV (kN (x.num.fdiv (x.den : Int)))))), (3, none)] (zE (kE yI) <| zR (kC kK) <| zE (kE yJ) <| zR (kC kK) <| zE (kB (s_divide (uO hx) (vE hx) (by decide) (by decide) (by have := x.den_nz; omega))) <| zM <| zE vA <| zE vA <| zE vA <| zN (uK 2 hH hM) <| zN (uK 3 hH hM) <| zT (qG kK) <| zT (qG kK) <| zM <| zZ) ?_
 refine jA <| kx [] [(1, some (bx (jV (kN (x.num.fdiv (x.den : Int))))))] (zR (kC kK) <| zT (qG kK) <| zZ) ?_
 refine jF ⟨_, (qS (cs := (bx (jV (kN (x.num.fdiv (x.den : Int)))))) (d := (jV (kN (x.num.fdiv (x.den : Int))))) rfl rfl kK rfl rfl .nil), ?_⟩
 rfl
theorem q_small (z : Int) (hz : nO (kN z) z 10000001) : kH Tryz.prog 135 [(jV (kN z))] (.tup [(.val (.int .i64 ((uM z)))), (.val (.bool ((yO z))))]) := by
 have hzl := hz.l
 refine jM Tryz.func135 rfl cb135 rfl ?_
 show uY _ _ _ _ ⟨[(0, (.d (jV (kN z))))], []⟩
 refine jA <| kx [(1, (.ref 0 0)), (2, (.ref 1 0)), (3, (.ref 2 0))] [(0, some (bx (jV (kN z)))), (1, some (bx (.val (.int .i64 (0))))), (2, some (bx (.val (.bool (false)))))] (zN (vD 0) <| zN (uK 1 ze3 zo3) <| zN (uK 2 ze4 zo4) <| zZ) ?_
 refine jA <| kx [(4, (vl 181 1 jC (kM (kN z))))] [] (zR (kC kK) <| zE (kB (nM (kN z) (by omega))) <| zM <| zZ) ?_
 refine jA <| jA <| kx [(12, (vb (decide (3 < (((kM (kN z)).length : Nat) : Int)))))] [] (zM <| zE (nE kY (L := (kM (kN z)))) <| zE yZ <| zZ) ?_
 refine jO rfl (fun h1 => ?_) (fun h1 => ?_)
 ·replace h1 := of_decide_eq_true h1
  refine jA <| kx [] [(1, some (bx (.val (.int .i64 (0))))), (2, some (bx (.val (.bool (false)))))] (zT (qG qP) <| zT (qG dX) <| zZ) ?_
  refine jF ⟨_, (aI (cs := (bx (.val (.int .i64 (0))))) (d := (.val (.int .i64 (0)))) rfl rfl qP rfl rfl (aI (cs := (bx (.val (.bool (false))))) (d := (.val (.bool (false)))) rfl rfl dX rfl rfl .nil)), ?_⟩
  have hz0 := gz_long (z := z) (by omega)
  rw [smallI_f (fits64_f hz0), fits64_f hz0]; rfl
 ·replace h1 := of_decide_eq_false h1
  have h3 : (kM (kN z)).length ≤ 3 := by omega
  refine jB <| jA <| kx [(5, (.ref 3 0))] [(3, some (bx (.val (.int .u64 (0)))))] (zN (uK 3 ze277 zo277) <| zT (qG fQ) <| zZ) ?_
  refine jA <| pwp_backL backs cb229 rfl 7 jC (kM (kN z)) 0 (fun n => ⟨[(1, (.ref 0 0)), (2, (.ref 1 0)), (3, (.ref 2 0)), (4, (vl 181 1 jC (kM (kN z)))), (5, (.ref 3 0))], [(0, some (bx (jV (kN z)))), (1, some (bx (.val (.int .i64 (0))))), (2, some (bx (.val (.bool (false))))), (3, some (bx (.val (.int .u64 (((n : Nat) : Int))))))]⟩) (fun (j : Nat) n => n = val ((kM (kN z)).drop ((kM (kN z)).length - j)) ∧ n ≤ 9223372036854775808) 0 rfl rfl rfl rfl rfl rfl rfl rfl rfl rfl rfl rfl (fun _ => rfl) (fun _ => rfl) wk ⟨by simp [val], by decide⟩ (by omega) ?_ ?_
  ·rintro rl j n hj ⟨hn, hb⟩
   have hd := (gz_dig z).getD ((kM (kN z)).length - 1 - j)
   have hrm := gz_room (z := z) (j := j) (n := n)
   refine kx [(7, (fV ((kM (kN z)).getD ((kM (kN z)).length - 1 - j) 0)))] [] (zM <| zZ) ?_
   refine jE <| jA <| jA <| kx [(22, (vb (decide ((((9223372036854775808 - ((kM (kN z)).getD ((kM (kN z)).length - 1 - j) 0)) / 1000000000 : Nat) : Int) < ((n : Nat) : Int)))))] [] (zR (qR fQ) <| zM <| zE (mV yY yR ((kM (kN z)).getD ((kM (kN z)).length - 1 - j) 0)) <| zE (oSb (9223372036854775808 - ((kM (kN z)).getD ((kM (kN z)).length - 1 - j) 0)) (hr := by exact (wu64 (by omega) (by omega) (by omega)))) <| zE (oQu ((9223372036854775808 - ((kM (kN z)).getD ((kM (kN z)).length - 1 - j) 0)) / 1000000000) (hr := by exact (quo_u64 (9223372036854775808 - ((kM (kN z)).getD ((kM (kN z)).length - 1 - j) 0)) 1000000000 (by omega)))) <| zE yZ <| zZ) ?_
   refine jO rfl (fun h2 => ?_) (fun h2 => ?_)
   ·replace h2 := of_decide_eq_true h2
    refine jA <| kx [] [(1, some (bx (.val (.int .i64 (0))))), (2, some (bx (.val (.bool (false)))))] (zT (qG qP) <| zT (qG dX) <| zZ) ?_
    refine jF ⟨⟨[(2, (.ref 1 0)), (3, (.ref 2 0))], [(1, some (bx (.val (.int .i64 (0))))), (2, some (bx (.val (.bool (false)))))]⟩, wk, keys_of rfl, ⟨_, (aI (cs := (bx (.val (.int .i64 (0))))) (d := (.val (.int .i64 (0)))) rfl rfl qP rfl rfl (aI (cs := (bx (.val (.bool (false))))) (d := (.val (.bool (false)))) rfl rfl dX rfl rfl .nil)), ?_⟩⟩
    have hz0 := gz_over hj hn (by omega)
    rw [smallI_f (fits64_f hz0), fits64_f hz0]; rfl
   ·replace h2 := of_decide_eq_false h2
    refine jB <| kx [] [(3, some (bx (.val (.int .u64 (((((n * 1000000000) + ((kM (kN z)).getD ((kM (kN z)).length - 1 - j) 0)) : Nat) : Int))))))] (zR (qR fQ) <| zE (oMl (n * 1000000000)) <| zM <| zE (mV yY yR ((kM (kN z)).getD ((kM (kN z)).length - 1 - j) 0)) <| zE (uE ((n * 1000000000) + ((kM (kN z)).getD ((kM (kN z)).length - 1 - j) 0))) <| zT (qG fQ) <| zZ) ?_
    exact ⟨n * 1000000000 + ((kM (kN z)).getD ((kM (kN z)).length - 1 - j) 0), wk, ⟨gz_step hj hn, hrm (by omega)⟩⟩
  ·rintro n ⟨hn, hb⟩
   have hz1 := gz_end hn
   refine jA <| jE <| jA <| kx [(28, (vb (decide (0 < (((kM (kN z)).length : Nat) : Int)) && (kN z).neg)))] [] ?_ ?_
   ·refine zM <| zE (nE kY (L := (kM (kN z)))) <| zE yZ <| zE (oV (vb (decide (0 < (((kM (kN z)).length : Nat) : Int)))) (uS (by kernel_rfl))) <| ?_
    rcases hb3 : (decide (0 < (((kM (kN z)).length : Nat) : Int))) with _ | _
    ·replace hb3 := of_decide_eq_false hb3
     exact zK <| zK <| zE zU <| zM <| zZ
    ·replace hb3 := of_decide_eq_true hb3
     exact zE (kE zQ) <| zR (qR dX) <| zE oPa <| zM <| zZ
   refine jO rfl (fun h4 => ?_) (fun h4 => ?_)
   ·refine jA <| kx [] [(1, some (bx (.val (.int .i64 ((-((n : Nat) : Int))))))), (2, some (bx (.val (.bool (true)))))] (zR (qR fQ) <| zE (oNg (((18446744073709551616 - n) % 18446744073709551616 : Nat) : Int) (hr := by exact (negu64 hb))) <| zE (zCv nA in3 (-((n : Nat) : Int)) (hr := by exact (negi64 hb))) <| zT (qG qP) <| zT (qG dX) <| zZ) ?_
    refine jF ⟨_, (aI (cs := (bx (.val (.int .i64 ((-((n : Nat) : Int))))))) (d := (.val (.int .i64 ((-((n : Nat) : Int)))))) rfl rfl qP rfl rfl (aI (cs := (bx (.val (.bool (true))))) (d := (.val (.bool (true)))) rfl rfl dX rfl rfl .nil)), ?_⟩
    obtain ⟨q1, q2⟩ := sm_n hz1 hb (sm_neg h4)
    rw [q1, q2]; rfl
   ·refine jA <| kx [(39, (vb (((n : Nat) : Int) == 9223372036854775808)))] [] (zR (qR fQ) <| zE xK <| zM <| zZ) ?_
    refine jO rfl (fun h5 => ?_) (fun h5 => ?_)
    ·replace h5 := eq_of_beq h5
     refine jA <| kx [] [(1, some (bx (.val (.int .i64 (0))))), (2, some (bx (.val (.bool (false)))))] (zT (qG qP) <| zT (qG dX) <| zZ) ?_
     refine jF ⟨_, (aI (cs := (bx (.val (.int .i64 (0))))) (d := (.val (.int .i64 (0)))) rfl rfl qP rfl rfl (aI (cs := (bx (.val (.bool (false))))) (d := (.val (.bool (false)))) rfl rfl dX rfl rfl .nil)), ?_⟩
     obtain ⟨q1, q2⟩ := sm_x (z := z) (by have := sm_pos h4; omega)
     rw [q1, q2]; rfl
    ·replace h5 := ne_of_beq_false h5
     refine jB <| jA <| kx [] [(1, some (bx (.val (.int .i64 (((n : Nat) : Int)))))), (2, some (bx (.val (.bool (true)))))] (zR (qR fQ) <| zE (mV nA in3 n) <| zT (qG qP) <| zT (qG dX) <| zZ) ?_
     refine jF ⟨_, (aI (cs := (bx (.val (.int .i64 (((n : Nat) : Int)))))) (d := (.val (.int .i64 (((n : Nat) : Int))))) rfl rfl qP rfl rfl (aI (cs := (bx (.val (.bool (true))))) (d := (.val (.bool (true)))) rfl rfl dX rfl rfl .nil)), ?_⟩
     obtain ⟨q1, q2⟩ := sm_p hz1 (by omega) (sm_pos h4)
     rw [q1, q2]; rfl
theorem q_rpix (x : Rat) (hx : QL x 9999990) : kH Tryz.prog 133 [(jP (jD x))] (.tup [(.val (.int .i64 ((uM (gU (x / ((64 : Int) : Rat))))))), (.val (.bool ((yO (gU (x / ((64 : Int) : Rat)))))))]) := by
 refine jM Tryz.func133 rfl cb133 rfl ?_
 show uY _ _ _ _ ⟨[(0, (.d (jP (jD x))))], []⟩
 refine jA <| kx [(1, (.ref 0 0))] [(0, some (bx (jP (jD x))))] (zN (vD 0) <| zM <| zM <| zZ) ?_
 refine jA ?_
 have bn1 : QL ((64 : Int) : Rat) 1 := (kL (z := 64) (vR (by decide)) (by decide))
 refine kd [(4, (.ref 1 0))] [(1, some (bx (jP (jD (x / ((64 : Int) : Rat))))))] mo (wR (kC jR) <| wE (kB (gQ 64 (by decide) (by decide))) <| wE (kB (by have h := eJ (jD x) (jD ((64 : Int) : Rat)) x ((64 : Int) : Rat) (jY (kA hx) (by decide)) (jY (kA bn1) (by decide)); rw [mM (by decide), mN (by decide)] at h; exact h)) <| wM <| wE vA <| wE vA <| wN (uK 1 qZ uF) <| wT (qG jR) <| wM <| wZ) ?_
 refine jA ?_
 have bn2 : nO (kN (gU (x / ((64 : Int) : Rat)))) (gU (x / ((64 : Int) : Rat))) 9999992 := (iok_fl (k := 9999992) (kU (k := 9999991) hx bn1 (by decide)) (by decide))
 refine kx [(2, (vi (uM (gU (x / ((64 : Int) : Rat)))))), (3, (vb (yO (gU (x / ((64 : Int) : Rat))))))] [] (zR (kC jR) <| zE (kB (q_floor (x / ((64 : Int) : Rat)) (qV (kU (k := 9999991) hx bn1 (by decide)) (by decide)))) <| zE (kB (q_small (gU (x / ((64 : Int) : Rat))) (iu bn2))) <| zE vA <| zE vA <| zM <| zM <| zZ) ?_
 refine jF ⟨_, (.tmp (d := (.val (.int .i64 ((uM (gU (x / ((64 : Int) : Rat)))))))) rfl (.tmp (d := (.val (.bool ((yO (gU (x / ((64 : Int) : Rat)))))))) rfl .nil)), ?_⟩
 rfl
theorem qs_cell (x : Rat) (hx : QL x 10000000) (n : Nat) (hn : n ≤ 64) : kH Tryz.prog 142 [(jP (jD x)), (.val (.int .i64 (((n : Nat) : Int))))] (.val (.int .i64 ((xS x ((n : Nat) : Int))))) := by
 refine jM Tryz.func142 rfl cb142 rfl ?_
 show uY _ _ _ _ ⟨[(0, (.d (jP (jD x)))), (1, (kD n))], []⟩
 refine jA <| kx [(2, (.ref 0 0))] [(0, some (bx (jP (jD x))))] (zN (vD 0) <| zM <| zZ) ?_
 refine jA <| jA <| kx [(6, (kD n)), (7, (kD 0))] [] (zM <| zM <| zZ) ?_
 refine jE <| uN (α := Nat) (fun k => ⟨[(2, (.ref 0 0)), (6, (kD n)), (7, (kD k))], [(0, some (bx (jP (jD x))))]⟩) (fun k => k ≤ n ∧ ∀ i : Nat, i < k → gU (x / ((64 : Int) : Rat)) ≠ ((i : Nat) : Int)) (fun k => n - k) 0 wk ⟨Nat.zero_le _, fun i hi => by omega⟩ ?_
 rintro k ⟨hk, hv⟩
 refine jA <| kx [(8, (vb (decide (((k : Nat) : Int) < ((n : Nat) : Int)))))] [] (zE qY <| zZ) ?_
 refine jA <| jO rfl (fun h1 => ?_) (fun h1 => ?_)
 ·replace h1 := of_decide_eq_true h1
  refine jB <| jA <| jE <| jA <| kx [(5, (kD k))] [] (zM <| zM <| zZ) ?_
  refine jA <| kd [(24, (vb (decide (0 ≤ (bE x ((64 * ((k : Nat) : Int) : Int) : Rat))) && decide ((bE x ((64 * ((k : Nat) : Int) + 64 : Int) : Rat)) < 0))))] [] mo ?_ ?_
  ·refine wR (kC jR) <| wM <| wE (nJ (64 * ((k : Nat) : Int))) <| wE (kB (nQ (64 * ((k : Nat) : Int)) (by omega) (by omega))) <| wE (kB (g_compare (jD x) (jD ((64 * ((k : Nat) : Int) : Int) : Rat)) x ((64 * ((k : Nat) : Int) : Int) : Rat) (jY (kA hx) (by decide)) (jY (kA (kL (z := (64 * ((k : Nat) : Int))) (jN (by omega) (by omega)) (by decide))) (by decide)))) <| wE oGe <| wE (oV (vb (decide (0 ≤ (bE x ((64 * ((k : Nat) : Int) : Int) : Rat))))) (uS (by kernel_rfl))) <| ?_
   rcases hb2 : (decide (0 ≤ (bE x ((64 * ((k : Nat) : Int) : Int) : Rat)))) with _ | _
   ·replace hb2 := of_decide_eq_false hb2
    exact wK <| wK <| wK <| wK <| wK <| wK <| wK <| wE zU <| wZ
   ·replace hb2 := of_decide_eq_true hb2
    exact wR (kC jR) <| wM <| wE (nJ (64 * ((k : Nat) : Int))) <| wE (zAd (64 * ((k : Nat) : Int) + 64)) <| wE (kB (nQ (64 * ((k : Nat) : Int) + 64) (by omega) (by omega))) <| wE (kB (g_compare (jD x) (jD ((64 * ((k : Nat) : Int) + 64 : Int) : Rat)) x ((64 * ((k : Nat) : Int) + 64 : Int) : Rat) (jY (kA hx) (by decide)) (jY (kA (kL (z := (64 * ((k : Nat) : Int) + 64)) (jN (by omega) (by omega)) (by decide))) (by decide)))) <| wE qY <| wE oPa <| wZ
  refine jO rfl (fun h3 => ?_) (fun h3 => ?_)
  ·refine jA <| kx [(4, (kD k))] [] (zM <| zM <| zZ) ?_
   refine jF ⟨_, (.tmp (d := (.val (.int .i64 (((k : Nat) : Int))))) rfl .nil), ?_⟩
   rw [cell_at (x := x) (n := n) (by omega) h3]; rfl
  ·refine jB <| kx [(7, (kD (k + 1)))] [] (zE (uE (k + 1)) <| zM <| zZ) ?_
   exact ⟨(k + 1), wk, ⟨by omega, cell_step hv h3⟩, (by omega)⟩
 ·replace h1 := of_decide_eq_false h1
  refine kJ <| jA <| kx [(4, (vi (-1)))] [] (zM <| zZ) ?_
  refine jF ⟨_, (.tmp (d := (.val (.int .i64 (-1)))) rfl .nil), ?_⟩
  rw [cell_end (x := x) (n := n) ((show k = n by omega) ▸ hv)]; rfl
theorem qs_pix (lx ly lz la lb lc ld lf lu lv rx ry rz ra rb rc rd rf ru rv : Int) (b0 b1 b2 e00 e01 e02 e10 e11 e12 e20 e21 e22 : Rat) (xI : QL b0 3) (xH : QL b1 3) (xJ : QL b2 3) (qE : QL e00 400) (kZ : QL e01 400) (qA : QL e02 400) (qJ : QL e10 400) (qK : QL e11 400) (qI : QL e12 400) (qD : QL e20 400) (qB : QL e21 400) (qC : QL e22 400) (right : Bool) (w h : Nat) (mx : Int) (px : List Int) (x y : Rat) (hx : QL x 10000) (hy : QL y 10000) (tx ty tz ta tb tc td tf tu tv : Int) (d0 : Rat) (hd0 : (((e00 * (x / (jH e00 e01 e02 e00 e01 e02))) + (e10 * (y / (jH e10 e11 e12 e10 e11 e12)))) + (e20 * (((1 : Int) : Rat) / (jH e20 e21 e22 e20 e21 e22)))) = d0) (d1 : Rat) (hd1 : (((e01 * (x / (jH e00 e01 e02 e00 e01 e02))) + (e11 * (y / (jH e10 e11 e12 e10 e11 e12)))) + (e21 * (((1 : Int) : Rat) / (jH e20 e21 e22 e20 e21 e22)))) = d1) (d2 : Rat) (hd2 : (((e02 * (x / (jH e00 e01 e02 e00 e01 e02))) + (e12 * (y / (jH e10 e11 e12 e10 e11 e12)))) + (e22 * (((1 : Int) : Rat) / (jH e20 e21 e22 e20 e21 e22)))) = d2) (hz0 : xO e00 e01 e02 = false) (hz1 : xO e10 e11 e12 = false) (hz2 : xO e20 e21 e22 = false) (hsd : (bif right then (kG.mk (jQ.mk rx ry rz) (jL.mk ra rb rc rd) rf (jU.mk ru rv)) else (kG.mk (jQ.mk lx ly lz) (jL.mk la lb lc ld) lf (jU.mk lu lv))) = (kG.mk (jQ.mk tx ty tz) (jL.mk ta tb tc td) tf (jU.mk tu tv))) (hst : uQ tx ty tz tu tv tf ta tb tc td = 0) (hv : RstOk w h px) : kH Tryz.prog 50 [(yU (RLp.mk (kT.mk (kG.mk (jQ.mk lx ly lz) (jL.mk la lb lc ld) lf (jU.mk lu lv)) (kG.mk (jQ.mk rx ry rz) (jL.mk ra rb rc rd) rf (jU.mk ru rv))) (A3.mk (jD b0) (jD b1) (jD b2)) (A3.mk (A3.mk (jD e00) (jD e01) (jD e02)) (A3.mk (jD e10) (jD e11) (jD e12)) (A3.mk (jD e20) (jD e21) (jD e22))))), (.val (.bool (right))), (qW (xA.mk ((w : Nat) : Int) ((h : Nat) : Int) mx px)), (qM (uP.mk (jD x) (jD y)))] (.val (.int .i64 ((rsAt ta tb tc td tf tu tv w h px d0 d1 d2)))) := by
 obtain ⟨htx, hty, htz, htu, htv, htf, htq⟩ := vU hst
 obtain ⟨hta, htb, htc, htd, -⟩ := vQ htq
 have hnt := gX hta htb htc htd
 have hv0 := hv
 obtain ⟨w1, w2, w3, w4, w5, w6⟩ := hv
 obtain ⟨X, hX⟩ : ∃ q : Rat, (((tu : Int) : Rat) + ((((tf : Int) : Rat) * (jH (yX ta tb tc td) (gC ta tb tc td) (gI ta tb tc td) d0 d1 d2)) / (jH (vX ta tb tc td) (xD ta tb tc td) (xF ta tb tc td) d0 d1 d2))) = q := ⟨_, rfl⟩
 obtain ⟨Y, hY⟩ : ∃ q : Rat, (((tv : Int) : Rat) + ((((tf : Int) : Rat) * (jH (yW ta tb tc td) (gD ta tb tc td) (gJ ta tb tc td) d0 d1 d2)) / (jH (vX ta tb tc td) (xD ta tb tc td) (xF ta tb tc td) d0 d1 d2))) = q := ⟨_, rfl⟩
 let y1 := (yU (RLp.mk (kT.mk (kG.mk (jQ.mk lx ly lz) (jL.mk la lb lc ld) lf (jU.mk lu lv)) (kG.mk (jQ.mk rx ry rz) (jL.mk ra rb rc rd) rf (jU.mk ru rv))) (A3.mk (jD b0) (jD b1) (jD b2)) (A3.mk (A3.mk (jD e00) (jD e01) (jD e02)) (A3.mk (jD e10) (jD e11) (jD e12)) (A3.mk (jD e20) (jD e21) (jD e22)))))
 refine jM Tryz.func50 rfl cb50 rfl ?_
 show uY _ _ _ _ ⟨[(0, (.d y1)), (1, (vb right)), (2, (.d (qW (xA.mk ((w : Nat) : Int) ((h : Nat) : Int) mx px)))), (3, (.d (qM (uP.mk (jD x) (jD y)))))], []⟩
 refine jA <| kx [(4, (.ref 0 0)), (6, (.ref 1 0)), (7, (.ref 2 0))] [(0, some (bx y1)), (1, some (bx (qW (xA.mk ((w : Nat) : Int) ((h : Nat) : Int) mx px)))), (2, some (bx (qM (uP.mk (jD x) (jD y)))))] (zN (vD 0) <| zN (vD 1) <| zN (vD 2) <| zM <| zZ) ?_
 refine jA ?_
 rcases hs2 : (decide ((xV (jH (vX ta tb tc td) (xD ta tb tc td) (xF ta tb tc td) d0 d1 d2)) ≤ 0)) with _ | _
 ·have bn1 : QL d0 28411 := (kF (Eq.symm hd0) (kQ (k := 28411) (kQ (k := 25605) (jG (k := 12802) qE (kU (k := 12402) hx (jS (n := 400) (k := 2402) qE kZ qA qE kZ qA (by decide)) (by decide)) (by decide)) (jG (k := 12802) qJ (kU (k := 12402) hy (jS (n := 400) (k := 2402) qJ qK qI qJ qK qI (by decide)) (by decide)) (by decide)) (by decide)) (jG (k := 2805) qD (kU (k := 2405) (kL (z := 1) (n := 3) (jN (by decide) (by decide)) (by decide)) (jS (n := 400) (k := 2402) qD qB qC qD qB qC (by decide)) (by decide)) (by decide)) (by decide)))
  have bn2 : QL d1 28411 := (kF (Eq.symm hd1) (kQ (k := 28411) (kQ (k := 25605) (jG (k := 12802) kZ (kU (k := 12402) hx (jS (n := 400) (k := 2402) qE kZ qA qE kZ qA (by decide)) (by decide)) (by decide)) (jG (k := 12802) qK (kU (k := 12402) hy (jS (n := 400) (k := 2402) qJ qK qI qJ qK qI (by decide)) (by decide)) (by decide)) (by decide)) (jG (k := 2805) qB (kU (k := 2405) (kL (z := 1) (n := 3) (jN (by decide) (by decide)) (by decide)) (jS (n := 400) (k := 2402) qD qB qC qD qB qC (by decide)) (by decide)) (by decide)) (by decide)))
  have bn3 : QL d2 28411 := (kF (Eq.symm hd2) (kQ (k := 28411) (kQ (k := 25605) (jG (k := 12802) qA (kU (k := 12402) hx (jS (n := 400) (k := 2402) qE kZ qA qE kZ qA (by decide)) (by decide)) (by decide)) (jG (k := 12802) qI (kU (k := 12402) hy (jS (n := 400) (k := 2402) qJ qK qI qJ qK qI (by decide)) (by decide)) (by decide)) (by decide)) (jG (k := 2805) qC (kU (k := 2405) (kL (z := 1) (n := 3) (jN (by decide) (by decide)) (by decide)) (jS (n := 400) (k := 2402) qD qB qC qD qB qC (by decide)) (by decide)) (by decide)) (by decide)))
  have bn4 : QL X 340943 := (kF (Eq.symm hX) (kQ (k := 340943) (qi tu) (kU (k := 340939) (jG (k := 170471) (qi tf) (jS (n := 28411) (k := 170468) (qV (kR00) (by decide)) (qV (kR10) (by decide)) (qV (kR20) (by decide)) bn1 bn2 bn3 (by decide)) (by decide)) (jS (n := 28411) (k := 170468) (qV (kR02) (by decide)) (qV (kR12) (by decide)) (qV (kR22) (by decide)) bn1 bn2 bn3 (by decide)) (by decide)) (by decide)))
  have bn5 : QL Y 340943 := (kF (Eq.symm hY) (kQ (k := 340943) (qi tv) (kU (k := 340939) (jG (k := 170471) (qi tf) (jS (n := 28411) (k := 170468) (qV (kR01) (by decide)) (qV (kR11) (by decide)) (qV (kR21) (by decide)) bn1 bn2 bn3 (by decide)) (by decide)) (jS (n := 28411) (k := 170468) (qV (kR02) (by decide)) (qV (kR12) (by decide)) (qV (kR22) (by decide)) bn1 bn2 bn3 (by decide)) (by decide)) (by decide)))
  refine kd [(9, (.ref 3 0)), (10, (vi 0))] [(3, some (bx (qM (uP.mk (jD X) (jD Y)))))] mo (wR (kC nP) <| wM <| wE (kB (qs_side lx ly lz la lb lc ld lf lu lv rx ry rz ra rb rc rd rf ru rv b0 b1 b2 e00 e01 e02 e10 e11 e12 e20 e21 e22 xI xH xJ qE kZ qA qJ qK qI qD qB qC right tx ty tz ta tb tc td tf tu tv hsd)) <| wR (kC nP) <| wR (kC mB) <| wE (kB (by have h := qs_ray lx ly lz la lb lc ld lf lu lv rx ry rz ra rb rc rd rf ru rv b0 b1 b2 e00 e01 e02 e10 e11 e12 e20 e21 e22 xI xH xJ qE kZ qA qJ qK qI qD qB qC x y (qu hx) (qu hy) hz0 hz1 hz2; rw [hd0, hd1, hd2] at h; exact h)) <| wE (kB (by have h := qs_shown tx ty tz ta tb tc td tf tu tv d0 d1 d2 (qu bn1) (qu bn2) (qu bn3) hst (of_decide_eq_false hs2); rw [hX, hY] at h; exact h)) <| wM <| wE vA <| wE vA <| wN (uK 3 cA mZ) <| wT (qG mB) <| wM <| wZ) ?_
  refine jA <| jA <| kx [(24, (vb false))] [] (zM <| zE (kR false eS) <| zZ) ?_
  refine jT ?_
  refine jB <| jA <| kd [(11, (vi (xS X ((w : Nat) : Int)))), (12, (vi (xS Y ((h : Nat) : Int))))] [] mo (wE (kE fo113_0) <| wR (kC jR) <| wE (kE aP) <| wR (qR qP) <| wE (kB (qs_cell X (qu bn4) w w2)) <| wE (kE fo113_1) <| wR (kC jR) <| wE (kE fo24_1) <| wR (qR qP) <| wE (kB (qs_cell Y (qu bn5) h w4)) <| wM <| wM <| wZ) ?_
  refine jA <| jA <| kx [(40, (vb (decide ((xS X ((w : Nat) : Int)) < ((0 : Nat) : Int)) || decide ((xS Y ((h : Nat) : Int)) < ((0 : Nat) : Int)))))] [] ?_ ?_
  ·refine zM <| zE qY <| zE (oV (vb (decide ((xS X ((w : Nat) : Int)) < ((0 : Nat) : Int)))) (uS (by kernel_rfl))) <| ?_
   rcases hb1 : (decide ((xS X ((w : Nat) : Int)) < ((0 : Nat) : Int))) with _ | _
   ·replace hb1 := of_decide_eq_false hb1
    exact zM <| zE qY <| zE eT <| zZ
   ·replace hb1 := of_decide_eq_true hb1
    exact zK <| zK <| zE yH <| zZ
  refine jO rfl (fun h2 => ?_) (fun h2 => ?_)
  ·refine jA <| kx [(8, (vi (-1)))] [] (zM <| zZ) ?_
   refine jF ⟨_, (.tmp (d := (.val (.int .i64 (-1)))) rfl .nil), ?_⟩
   subst hX hY; rw [rsAt_p (of_decide_eq_false hs2), pxAt_no h2]; rfl
  ·obtain ⟨i0, i1, i2, i3, i4⟩ := px_in hv0 h2
   refine jB <| jA <| kx [(8, (vi (px.getD (((xS Y ((h : Nat) : Int)) * ((w : Nat) : Int) + (xS X ((w : Nat) : Int))).toNat) 0)))] [] (zE (kE mT) <| zR (qR dK) <| zM <| zE (kE aP) <| zR (qR qP) <| zE (nJ ((xS Y ((h : Nat) : Int)) * ((w : Nat) : Int)) (hr := by exact (qO rfl (by simp only [vP]; omega) (by simp only [vS]; omega)))) <| zM <| zE (uE (((xS Y ((h : Nat) : Int)) * ((w : Nat) : Int) + (xS X ((w : Nat) : Int))).toNat) (hr := by exact (qO i2 (by simp only [vP]; omega) (by simp only [vS]; omega)))) <| zE (aC uB (((xS Y ((h : Nat) : Int)) * ((w : Nat) : Int) + (xS X ((w : Nat) : Int))).toNat) (0 : Int)) <| zE (xN qP) <| zM <| zZ) ?_
   refine jF ⟨_, (.tmp (d := (.val (.int .i64 ((px.getD (((xS Y ((h : Nat) : Int)) * ((w : Nat) : Int) + (xS X ((w : Nat) : Int))).toNat) 0))))) rfl .nil), ?_⟩
   subst hX hY; rw [rsAt_p (of_decide_eq_false hs2), pxAt_yes h2]; rfl
 ·have bn6 : QL d0 28411 := (kF (Eq.symm hd0) (kQ (k := 28411) (kQ (k := 25605) (jG (k := 12802) qE (kU (k := 12402) hx (jS (n := 400) (k := 2402) qE kZ qA qE kZ qA (by decide)) (by decide)) (by decide)) (jG (k := 12802) qJ (kU (k := 12402) hy (jS (n := 400) (k := 2402) qJ qK qI qJ qK qI (by decide)) (by decide)) (by decide)) (by decide)) (jG (k := 2805) qD (kU (k := 2405) (kL (z := 1) (n := 3) (jN (by decide) (by decide)) (by decide)) (jS (n := 400) (k := 2402) qD qB qC qD qB qC (by decide)) (by decide)) (by decide)) (by decide)))
  have bn7 : QL d1 28411 := (kF (Eq.symm hd1) (kQ (k := 28411) (kQ (k := 25605) (jG (k := 12802) kZ (kU (k := 12402) hx (jS (n := 400) (k := 2402) qE kZ qA qE kZ qA (by decide)) (by decide)) (by decide)) (jG (k := 12802) qK (kU (k := 12402) hy (jS (n := 400) (k := 2402) qJ qK qI qJ qK qI (by decide)) (by decide)) (by decide)) (by decide)) (jG (k := 2805) qB (kU (k := 2405) (kL (z := 1) (n := 3) (jN (by decide) (by decide)) (by decide)) (jS (n := 400) (k := 2402) qD qB qC qD qB qC (by decide)) (by decide)) (by decide)) (by decide)))
  have bn8 : QL d2 28411 := (kF (Eq.symm hd2) (kQ (k := 28411) (kQ (k := 25605) (jG (k := 12802) qA (kU (k := 12402) hx (jS (n := 400) (k := 2402) qE kZ qA qE kZ qA (by decide)) (by decide)) (by decide)) (jG (k := 12802) qI (kU (k := 12402) hy (jS (n := 400) (k := 2402) qJ qK qI qJ qK qI (by decide)) (by decide)) (by decide)) (by decide)) (jG (k := 2805) qC (kU (k := 2405) (kL (z := 1) (n := 3) (jN (by decide) (by decide)) (by decide)) (jS (n := 400) (k := 2402) qD qB qC qD qB qC (by decide)) (by decide)) (by decide)) (by decide)))
  refine kd [(9, (.ref 3 0)), (10, (vi 20))] [(3, some (bx (qM (uP.mk (jZ.mk (jI.mk false []) (jI.mk false [])) (jZ.mk (jI.mk false []) (jI.mk false []))))))] mo (wR (kC nP) <| wM <| wE (kB (qs_side lx ly lz la lb lc ld lf lu lv rx ry rz ra rb rc rd rf ru rv b0 b1 b2 e00 e01 e02 e10 e11 e12 e20 e21 e22 xI xH xJ qE kZ qA qJ qK qI qD qB qC right tx ty tz ta tb tc td tf tu tv hsd)) <| wR (kC nP) <| wR (kC mB) <| wE (kB (by have h := qs_ray lx ly lz la lb lc ld lf lu lv rx ry rz ra rb rc rd rf ru rv b0 b1 b2 e00 e01 e02 e10 e11 e12 e20 e21 e22 xI xH xJ qE kZ qA qJ qK qI qD qB qC x y (qu hx) (qu hy) hz0 hz1 hz2; rw [hd0, hd1, hd2] at h; exact h)) <| wE (kB (qs_shownN tx ty tz ta tb tc td tf tu tv d0 d1 d2 (qu bn6) (qu bn7) (qu bn8) hst (of_decide_eq_true hs2))) <| wM <| wE vA <| wE vA <| wN (uK 3 cA mZ) <| wT (qG mB) <| wM <| wZ) ?_
  refine jA <| jA <| kx [(24, (vb true))] [] (zM <| zE (kR true eS) <| zZ) ?_
  refine jX ?_
  refine jA <| kx [(8, (vi (-1)))] [] (zM <| zZ) ?_
  refine jF ⟨_, (.tmp (d := (.val (.int .i64 (-1)))) rfl .nil), ?_⟩
  rw [rsAt_n (of_decide_eq_true hs2)]; rfl
end Go.Proofs.YtapjldagikfcmaaGreat
set_option linter.unusedVariables false
set_option linter.unusedSimpArgs false
namespace Go.Fid
open Go.RowKit (Below)
section
variable {P : Program} {n : Fr} {ops : Array Oper} {K : SL → BS → Prop} {S S0 S1 : SL} {B B0 B1 : BS} {l : List Oper} {o : Oper} {D : SL}
theorem zOh (k E s : Nat) (r : SK P n ops K ((dO o, .own k E s 0) :: S) ((k, some []) :: B) l) (h : nilK o = true := by kernel_rfl) (g : goK n ops S o = true := by kernel_rfl) (h1 : (S.all fun p => !p.2.names k) = true := by kernel_rfl)
    (h2 : FrB k B := by repeat first | exact frb_nil _ | refine frb_map rfl ?_ | refine frb_d rfl ?_ | refine frb_cs rfl rfl ?_ | refine frb_none rfl ?_) : SK P n ops K S B (o :: l) := zO k E s r h g (freshB_of h1 h2)
end
end Go.Fid
