/- Part 20 of a proof: rules, plain facts, and functions walked. -/
import Derived.Test.YtnajallgoaiahaaGreatDoorM19
import Derived.Test.YtnajallgoaiahaaGreatDoorM11
namespace Go.Proofs.YtnajallgoaiahaaGreatDoor
open Go.Fid
set_option maxRecDepth 4000
set_option linter.unusedVariables false
set_option linter.unusedSimpArgs false
theorem cb28 : callB Tryz.prog 28 = true := by kernel_rfl
theorem cb29 : callB Tryz.prog 29 = true := by kernel_rfl
theorem cb30 : callB Tryz.prog 30 = true := by kernel_rfl
theorem cb31 : callB Tryz.prog 31 = true := by kernel_rfl
theorem cb35 : callB Tryz.prog 35 = true := by kernel_rfl
theorem cb54 : callB Tryz.prog 54 = true := by kernel_rfl
theorem cb56 : callB Tryz.prog 56 = true := by kernel_rfl
theorem cb84 : callB Tryz.prog 84 = true := by kernel_rfl
theorem cb85 : callB Tryz.prog 85 = true := by kernel_rfl
theorem cb86 : callB Tryz.prog 86 = true := by kernel_rfl
theorem cb95 : callB Tryz.prog 95 = true := by kernel_rfl
theorem g_reduced (num den : jE) (a b : Int) (fG : yK num a 68719476736) (dT : yK den b 68719476736) (hb : b ≠ 0) : jW Tryz.prog 86 [(jQ num), (jQ den)] (jL (jS (Rat.divInt a b))) := by
 refine jM Tryz.func86 rfl cb86 rfl ?_
 show qJ _ _ _ _ ⟨[(0, (.d (jQ num))), (1, (.d (jQ den)))], []⟩
 refine jB <| kx [(2, (.ref 0 0)), (3, (.ref 1 0)), (4, (.ref 2 0))] [(0, some (bx (jQ num))), (1, some (bx (jQ den))), (2, some (bx (jL (jJ.mk (jE.mk false []) (jE.mk false [])))))] (zN (uZ 0) <| zN (uZ 1) <| zN (qS 2 qO qR) <| zZ) ?_
 refine jB <| kx [(5, (.ref 3 0))] [(3, some (bx (jQ (kJ ((Int.gcd a b : Nat) : Int)))))] (zR (kK kB) <| zR (kK kB) <| zE (kG (rs_gcd fG dT (by decide) (by decide))) <| zN (qS 3 zJ zL) <| zT (qF kB) <| zZ) ?_
 refine jB <| jB <| kx [(17, (vb (decide ((uB b) < 0))))] [] (zR (kK kB) <| zE (kG (rs_sign dT (by decide))) <| zE vW <| zZ) ?_
 refine jK (b := decide ((uB b) < 0)) rfl (fun h1 => ?_) (fun h1 => ?_)
 ·replace h1 := of_decide_eq_true h1
  have hlt := signI_lt.1 h1
  refine kx [] [(3, some (bx (jQ (kJ (-(((Int.gcd a b : Nat) : Int)))))))] (zR (kK kB) <| zE (kG (rs_neg (mT (k := 68719476736) fG dT (by decide)) (by decide))) <| zT (qF kB) <| zZ) ?_
  refine jB <| kx [(6, (.ref 4 0))] [(4, some (bx (jQ (kJ (a.fdiv (-(((Int.gcd a b : Nat) : Int)))))))), (5, none)] (zR (kK kB) <| zR (kK kB) <| zE (kG (rs_divide fG (mC (mT (k := 68719476736) fG dT (by decide))) (by decide) (by decide) (by have := gcd_ne (a := a) hb; omega))) <| zM <| zE vX <| zE vX <| zE vX <| zN (qS 4 zJ zL) <| zN (qS 5 zJ zL) <| zT (qF kB) <| zT (qF kB) <| zM <| zZ) ?_
  refine jB <| kx [(9, (.ref 6 0))] [(6, some (bx (jQ (kJ (b.fdiv (-(((Int.gcd a b : Nat) : Int)))))))), (7, none)] (zR (kK kB) <| zR (kK kB) <| zE (kG (rs_divide dT (mC (mT (k := 68719476736) fG dT (by decide))) (by decide) (by decide) (by have := gcd_ne (a := a) hb; omega))) <| zM <| zE vX <| zE vX <| zE vX <| zN (qS 6 zJ zL) <| zN (qS 7 zJ zL) <| zT (qF kB) <| zT (qF kB) <| zM <| zZ) ?_
  refine jB <| kx [] [(2, some (bx (jL (jJ.mk (kJ (a.fdiv (-(((Int.gcd a b : Nat) : Int))))) (kJ (b.fdiv (-(((Int.gcd a b : Nat) : Int)))))))))] (zR (kK kB) <| zR (kK kB) <| zE (fM pl45 qO qR) <| zT (qF jO) <| zZ) ?_
  refine jH ⟨_, (qA (cs := (bx (jL (jJ.mk (kJ (a.fdiv (-(((Int.gcd a b : Nat) : Int))))) (kJ (b.fdiv (-(((Int.gcd a b : Nat) : Int))))))))) (d := (jL (jJ.mk (kJ (a.fdiv (-(((Int.gcd a b : Nat) : Int))))) (kJ (b.fdiv (-(((Int.gcd a b : Nat) : Int)))))))) rfl rfl jO rfl rfl .nil), ?_⟩
  rw [← red_neg2 hlt]; rfl
 ·replace h1 := of_decide_eq_false h1
  have hge : ¬ b < 0 := fun hh => h1 (signI_lt.2 hh)
  refine jF <| jB <| kx [(6, (.ref 8 0))] [(8, some (bx (jQ (kJ (a.fdiv (((Int.gcd a b : Nat) : Int))))))), (9, none)] (zR (kK kB) <| zR (kK kB) <| zE (kG (rs_divide fG (mT (k := 68719476736) fG dT (by decide)) (by decide) (by decide) (by have := gcd_ne (a := a) hb; omega))) <| zM <| zE vX <| zE vX <| zE vX <| zN (qS 8 zJ zL) <| zN (qS 9 zJ zL) <| zT (qF kB) <| zT (qF kB) <| zM <| zZ) ?_
  refine jB <| kx [(9, (.ref 10 0))] [(10, some (bx (jQ (kJ (b.fdiv (((Int.gcd a b : Nat) : Int))))))), (11, none)] (zR (kK kB) <| zR (kK kB) <| zE (kG (rs_divide dT (mT (k := 68719476736) fG dT (by decide)) (by decide) (by decide) (by have := gcd_ne (a := a) hb; omega))) <| zM <| zE vX <| zE vX <| zE vX <| zN (qS 10 zJ zL) <| zN (qS 11 zJ zL) <| zT (qF kB) <| zT (qF kB) <| zM <| zZ) ?_
  refine jB <| kx [] [(2, some (bx (jL (jJ.mk (kJ (a.fdiv (((Int.gcd a b : Nat) : Int)))) (kJ (b.fdiv (((Int.gcd a b : Nat) : Int))))))))] (zR (kK kB) <| zR (kK kB) <| zE (fM pl45 qO qR) <| zT (qF jO) <| zZ) ?_
  refine jH ⟨_, (qA (cs := (bx (jL (jJ.mk (kJ (a.fdiv (((Int.gcd a b : Nat) : Int)))) (kJ (b.fdiv (((Int.gcd a b : Nat) : Int)))))))) (d := (jL (jJ.mk (kJ (a.fdiv (((Int.gcd a b : Nat) : Int)))) (kJ (b.fdiv (((Int.gcd a b : Nat) : Int))))))) rfl rfl jO rfl rfl .nil), ?_⟩
  rw [red_pos hge hb]; rfl
theorem g_whole1 (n : Int) (hlo : -9223372036854775808 ≤ n) (hhi : n ≤ 9223372036854775807) : jW Tryz.prog 95 [(.val (.int .i64 (n)))] (jQ (kJ n)) := by
 refine jM Tryz.func95 rfl cb95 rfl ?_
 show qJ _ _ _ _ ⟨[(0, (vi n))], []⟩
 refine jB <| kx [(2, (.ref 0 0))] [(0, some (bx (jQ (jE.mk false []))))] (zN (qS 0 zJ zL) <| zZ) ?_
 refine jB <| kx [] [(0, some (bx (jQ (kJ n))))] (zM <| zE (kG (r_of n (by omega) (by omega))) <| zT (qF kB) <| zZ) ?_
 refine jH ⟨_, (qA (cs := (bx (jQ (kJ n)))) (d := (jQ (kJ n))) rfl rfl kB rfl rfl .nil), ?_⟩
 rfl
theorem dS (n : Int) (hlo : -9223372036854775808 ≤ n) (hhi : n ≤ 9223372036854775807) : jW Tryz.prog 56 [(.val (.int .i64 (n)))] (jL (jS ((n : Int) : Rat))) := by
 refine jM Tryz.func56 rfl cb56 rfl ?_
 show qJ _ _ _ _ ⟨[(0, (vi n))], []⟩
 refine jB <| kx [(2, (.ref 0 0))] [(0, some (bx (jL (jJ.mk (jE.mk false []) (jE.mk false [])))))] (zN (qS 0 qO qR) <| zZ) ?_
 refine jB <| kx [] [(0, some (bx (jL (jJ.mk (kJ n) (kJ 1)))))] (zM <| zE (kG (g_whole1 n (by omega) (by omega))) <| zE (kG (g_whole1 1 (by decide) (by decide))) <| zE (fM pl45 qO qR) <| zT (qF jO) <| zZ) ?_
 refine jH ⟨_, (qA (cs := (bx (jL (jJ.mk (kJ n) (kJ 1))))) (d := (jL (jJ.mk (kJ n) (kJ 1)))) rfl rfl jO rfl rfl .nil), ?_⟩
 rfl
theorem g_valid (x : jJ) (p : Rat) (hx : yT x p 17179869184) : jW Tryz.prog 54 [(jL x)] (.val (.bool ((jX x)))) := by
 refine jM Tryz.func54 rfl cb54 rfl ?_
 show qJ _ _ _ _ ⟨[(0, (.d (jL x)))], []⟩
 refine jB <| kx [(1, (.ref 0 0))] [(0, some (bx (jL x)))] (zN (uZ 0) <| zM <| zZ) ?_
 refine jB <| jB <| kx [(18, (vb ((!(uO x.num) || !(uO x.den)) || decide ((uB (kC x.den)) ≤ 0))))] [] ?_ ?_
 ·refine zE (qC zW) <| zR (kK kB) <| zE (kG (r_valid x.num (Nat.le_trans (yJ hx.n1).l (by decide)))) <| zE cE <| zE (oV (vb (!(uO x.num))) (uA (by kernel_rfl))) <| ?_
  rcases hb1 : (!(uO x.num)) with _ | _
  ·refine zE (qC xD) <| zR (kK kB) <| zE (kG (r_valid x.den (Nat.le_trans (yJ hx.n2).l (by decide)))) <| zE cE <| zE oPo <| zE (oV (vb (false || !(uO x.den))) (uA (by kernel_rfl))) <| ?_
   rcases hb2 : (false || !(uO x.den)) with _ | _
   ·exact zE (qC xD) <| zR (kK kB) <| zE (kG (rs_sign (yJ hx.n2) (by decide))) <| zE oLe <| zE oPo <| zZ
   ·exact zK <| zK <| zK <| zK <| zE cR <| zZ
  ·exact zK <| zK <| zK <| zK <| zE cR <| zM <| zK <| zK <| zK <| zK <| zE cR <| zZ
 refine jK rfl (fun h3 => ?_) (fun h3 => ?_)
 ·refine jB <| kx [(2, (vb false))] [] (zM <| zZ) ?_
  refine jH ⟨_, (.tmp (d := (.val (.bool (false)))) rfl .nil), ?_⟩
  rw [validR_no h3]; rfl
 ·refine jF <| jB <| kx [(2, (vb ((uY (((Int.gcd (kC x.num) (kC x.den) : Nat) : Int)) 1) == 0)))] [] (zE (qC zW) <| zR (kK kB) <| zE (qC xD) <| zR (kK kB) <| zE (kG (rs_gcd (yJ hx.n1) (yJ hx.n2) (by decide) (by decide))) <| zE (kG (g_whole1 1 (by decide) (by decide))) <| zE (kG (rs_compare (mT (k := 17179869184) (yJ hx.n1) (yJ hx.n2) (by decide)) (fV (z := 1) (by decide)) (by decide) (by decide))) <| zE gJ <| zM <| zZ) ?_
  refine jH ⟨_, (.tmp (d := (.val (.bool (((uY (((Int.gcd (kC x.num) (kC x.den) : Nat) : Int)) 1) == 0))))) rfl .nil), ?_⟩
  rw [validR_yes h3]; rfl
theorem g_value (x : jJ) (p : Rat) (hx : yT x p 17179869184) : jW Tryz.prog 84 [(jL x)] (jL (jS p)) := by
 refine jM Tryz.func84 rfl cb84 rfl ?_
 show qJ _ _ _ _ ⟨[(0, (.d (jL x)))], []⟩
 refine jB <| kx [(1, (.ref 0 0)), (2, (.ref 1 0))] [(0, some (bx (jL x))), (1, some (bx (jL (jJ.mk (jE.mk false []) (jE.mk false [])))))] (zN (uZ 0) <| zN (qS 1 qO qR) <| zZ) ?_
 refine jB <| jB <| kx [(4, (vb (jX x)))] [] (zR (kK jO) <| zE (kG (g_valid x p hx)) <| zZ) ?_
 refine jK (b := (jX x)) rfl (fun h1 => ?_) (fun h1 => ?_)
 ·refine jB <| kx [] [(1, some (bx (jL x)))] (zR (kK jO) <| zT (qF jO) <| zZ) ?_
  refine jH ⟨_, (qA (cs := (bx (jL x))) (d := (jL x)) rfl rfl jO rfl rfl .nil), ?_⟩
  rw [← hx.v, ofQ_toQ h1]; rfl
 ·refine jF <| jB <| kx [] [(1, some (bx (jL (jS ((0 : Int) : Rat)))))] (zE (kG (dS 0 (by decide) (by decide))) <| zT (qF jO) <| zZ) ?_
  refine jH ⟨_, (qA (cs := (bx (jL (jS ((0 : Int) : Rat))))) (d := (jL (jS ((0 : Int) : Rat)))) rfl rfl jO rfl rfl .nil), ?_⟩
  rw [← hx.v, toQ_bad h1]; rfl
theorem g_sign (x : jJ) (p : Rat) (hx : yT x p 17179869184) : jW Tryz.prog 28 [(jL x)] (.val (.int .i64 ((vT p)))) := by
 refine jM Tryz.func28 rfl cb28 rfl ?_
 show qJ _ _ _ _ ⟨[(0, (.d (jL x)))], []⟩
 refine jB <| kx [(1, (.ref 0 0))] [(0, some (bx (jL x)))] (zN (uZ 0) <| zM <| zZ) ?_
 refine jB <| kx [(2, (vi (uB p.num)))] [] (zR (kK jO) <| zE (kG (g_value x p hx)) <| zE (oFv ft45_0 kB) <| zE (kG (rs_sign (uM hx.ql) (by decide))) <| zM <| zZ) ?_
 refine jH ⟨_, (.tmp (d := (.val (.int .i64 ((uB p.num))))) rfl .nil), ?_⟩
 rfl
theorem g_neg (x : jJ) (p : Rat) (hx : yT x p 17179869184) : jW Tryz.prog 85 [(jL x)] (jL (jS (-p))) := by
 refine jM Tryz.func85 rfl cb85 rfl ?_
 show qJ _ _ _ _ ⟨[(0, (.d (jL x)))], []⟩
 refine jB <| kx [(1, (.ref 0 0)), (2, (.ref 1 0))] [(0, some (bx (jL x))), (1, some (bx (jL (jJ.mk (jE.mk false []) (jE.mk false [])))))] (zN (uZ 0) <| zN (qS 1 qO qR) <| zZ) ?_
 refine jB <| kx [(3, (.ref 2 0))] [(2, some (bx (jL (jS p))))] (zR (kK jO) <| zE (kG (g_value x p hx)) <| zN (qS 2 qO qR) <| zT (qF jO) <| zZ) ?_
 refine jB <| kd [] [(1, some (bx (jL (jJ.mk (kJ (-p.num)) ((jS p).den)))))] mo (wE (qC zW) <| wR (kK kB) <| wE (kG (rs_neg (uM hx.ql) (by decide))) <| wE (qC xD) <| wR (kK kB) <| wE (fM pl45 qO qR) <| wT (qF jO) <| wZ) ?_
 refine jH ⟨_, (qA (cs := (bx (jL (jJ.mk (kJ (-p.num)) ((jS p).den))))) (d := (jL (jJ.mk (kJ (-p.num)) ((jS p).den)))) rfl rfl jO rfl rfl .nil), ?_⟩
 rfl
theorem g_add (x : jJ) (y : jJ) (p : Rat) (q : Rat) (hx : yT x p 17179869184) (hy : yT y q 17179869184) : jW Tryz.prog 35 [(jL x), (jL y)] (jL (jS (p + q))) := by
 refine jM Tryz.func35 rfl cb35 rfl ?_
 show qJ _ _ _ _ ⟨[(0, (.d (jL x))), (1, (.d (jL y)))], []⟩
 refine jB <| kx [(2, (.ref 0 0)), (3, (.ref 1 0)), (4, (.ref 2 0))] [(0, some (bx (jL x))), (1, some (bx (jL y))), (2, some (bx (jL (jJ.mk (jE.mk false []) (jE.mk false [])))))] (zN (uZ 0) <| zN (uZ 1) <| zN (qS 2 qO qR) <| zZ) ?_
 refine jB <| kx [(5, (.ref 3 0))] [(3, some (bx (jL (jS p))))] (zR (kK jO) <| zE (kG (g_value x p hx)) <| zN (qS 3 qO qR) <| zT (qF jO) <| zZ) ?_
 refine jB <| kx [(6, (.ref 4 0))] [(4, some (bx (jL (jS q))))] (zR (kK jO) <| zE (kG (g_value y q hy)) <| zN (qS 4 qO qR) <| zT (qF jO) <| zZ) ?_
 refine jB <| kd [] [(2, some (bx (jL (jS (Rat.divInt ((p.num * (q.den : Int)) + (q.num * (p.den : Int))) ((p.den : Int) * (q.den : Int)))))))] mo (wE (qC zW) <| wR (kK kB) <| wE (qC xD) <| wR (kK kB) <| wE (kG (rs_mul (uM hx.ql) (uH hy.ql) (by decide) (by decide))) <| wE (qC zW) <| wR (kK kB) <| wE (qC xD) <| wR (kK kB) <| wE (kG (rs_mul (uM hy.ql) (uH hx.ql) (by decide) (by decide))) <| wE (kG (rs_add (zP (k := 34359738368) (uM hx.ql) (uH hy.ql) (by decide)) (zP (k := 34359738368) (uM hy.ql) (uH hx.ql) (by decide)) (by decide) (by decide))) <| wE (qC xD) <| wR (kK kB) <| wE (qC xD) <| wR (kK kB) <| wE (kG (rs_mul (uH hx.ql) (uH hy.ql) (by decide) (by decide))) <| wE (kG (g_reduced (kJ ((p.num * (q.den : Int)) + (q.num * (p.den : Int)))) (kJ ((p.den : Int) * (q.den : Int))) ((p.num * (q.den : Int)) + (q.num * (p.den : Int))) ((p.den : Int) * (q.den : Int)) (gN (iok_add (k := 34359738369) (zP (k := 34359738368) (uM hx.ql) (uH hy.ql) (by decide)) (zP (k := 34359738368) (uM hy.ql) (uH hx.ql) (by decide)) (by decide)) (by decide)) (gN (zP (k := 34359738368) (uH hx.ql) (uH hy.ql) (by decide)) (by decide)) (mul_ne (aA _) (aA _)))) <| wT (qF jO) <| wZ) ?_
 refine jH ⟨_, (qA (cs := (bx (jL (jS (Rat.divInt ((p.num * (q.den : Int)) + (q.num * (p.den : Int))) ((p.den : Int) * (q.den : Int))))))) (d := (jL (jS (Rat.divInt ((p.num * (q.den : Int)) + (q.num * (p.den : Int))) ((p.den : Int) * (q.den : Int)))))) rfl rfl jO rfl rfl .nil), ?_⟩
 rw [add_divInt]; rfl
theorem g_sub (x : jJ) (y : jJ) (p : Rat) (q : Rat) (hx : yT x p 17179869184) (hy : yT y q 17179869184) : jW Tryz.prog 29 [(jL x), (jL y)] (jL (jS (p - q))) := by
 refine jM Tryz.func29 rfl cb29 rfl ?_
 show qJ _ _ _ _ ⟨[(0, (.d (jL x))), (1, (.d (jL y)))], []⟩
 refine jB <| kx [(2, (.ref 0 0)), (3, (.ref 1 0)), (4, (.ref 2 0))] [(0, some (bx (jL x))), (1, some (bx (jL y))), (2, some (bx (jL (jJ.mk (jE.mk false []) (jE.mk false [])))))] (zN (uZ 0) <| zN (uZ 1) <| zN (qS 2 qO qR) <| zZ) ?_
 refine jB <| kd [] [(2, some (bx (jL (jS (p + (-q))))))] mo (wR (kK jO) <| wR (kK jO) <| wE (kG (g_neg y q hy)) <| wE (kG (g_add x (jS (-q)) p (-q) hx (kM (ql_neg hy.ql)))) <| wT (qF jO) <| wZ) ?_
 refine jH ⟨_, (qA (cs := (bx (jL (jS (p + (-q)))))) (d := (jL (jS (p + (-q))))) rfl rfl jO rfl rfl .nil), ?_⟩
 rw [Rat.sub_eq_add_neg]; rfl
theorem g_mul (x : jJ) (y : jJ) (p : Rat) (q : Rat) (hx : yT x p 17179869184) (hy : yT y q 17179869184) : jW Tryz.prog 31 [(jL x), (jL y)] (jL (jS (p * q))) := by
 refine jM Tryz.func31 rfl cb31 rfl ?_
 show qJ _ _ _ _ ⟨[(0, (.d (jL x))), (1, (.d (jL y)))], []⟩
 refine jB <| kx [(2, (.ref 0 0)), (3, (.ref 1 0)), (4, (.ref 2 0))] [(0, some (bx (jL x))), (1, some (bx (jL y))), (2, some (bx (jL (jJ.mk (jE.mk false []) (jE.mk false [])))))] (zN (uZ 0) <| zN (uZ 1) <| zN (qS 2 qO qR) <| zZ) ?_
 refine jB <| kx [(5, (.ref 3 0))] [(3, some (bx (jL (jS p))))] (zR (kK jO) <| zE (kG (g_value x p hx)) <| zN (qS 3 qO qR) <| zT (qF jO) <| zZ) ?_
 refine jB <| kx [(6, (.ref 4 0))] [(4, some (bx (jL (jS q))))] (zR (kK jO) <| zE (kG (g_value y q hy)) <| zN (qS 4 qO qR) <| zT (qF jO) <| zZ) ?_
 refine jB <| kd [] [(2, some (bx (jL (jS (Rat.divInt (p.num * q.num) ((p.den : Int) * (q.den : Int)))))))] mo (wE (qC zW) <| wR (kK kB) <| wE (qC zW) <| wR (kK kB) <| wE (kG (rs_mul (uM hx.ql) (uM hy.ql) (by decide) (by decide))) <| wE (qC xD) <| wR (kK kB) <| wE (qC xD) <| wR (kK kB) <| wE (kG (rs_mul (uH hx.ql) (uH hy.ql) (by decide) (by decide))) <| wE (kG (g_reduced (kJ (p.num * q.num)) (kJ ((p.den : Int) * (q.den : Int))) (p.num * q.num) ((p.den : Int) * (q.den : Int)) (gN (zP (k := 34359738368) (uM hx.ql) (uM hy.ql) (by decide)) (by decide)) (gN (zP (k := 34359738368) (uH hx.ql) (uH hy.ql) (by decide)) (by decide)) (mul_ne (aA _) (aA _)))) <| wT (qF jO) <| wZ) ?_
 refine jH ⟨_, (qA (cs := (bx (jL (jS (Rat.divInt (p.num * q.num) ((p.den : Int) * (q.den : Int))))))) (d := (jL (jS (Rat.divInt (p.num * q.num) ((p.den : Int) * (q.den : Int)))))) rfl rfl jO rfl rfl .nil), ?_⟩
 rw [mul_divInt]; rfl
theorem g_compare (x : jJ) (y : jJ) (p : Rat) (q : Rat) (hx : yT x p 4294967296) (hy : yT y q 4294967296) : jW Tryz.prog 30 [(jL x), (jL y)] (.val (.int .i64 ((yE p q)))) := by
 refine jM Tryz.func30 rfl cb30 rfl ?_
 show qJ _ _ _ _ ⟨[(0, (.d (jL x))), (1, (.d (jL y)))], []⟩
 refine jB <| kx [(2, (.ref 0 0)), (3, (.ref 1 0))] [(0, some (bx (jL x))), (1, some (bx (jL y)))] (zN (uZ 0) <| zN (uZ 1) <| zM <| zZ) ?_
 refine jB <| kx [(4, (vi (vT (p - q))))] [] (zR (kK jO) <| zR (kK jO) <| zE (kG (g_sub x y p q (jR hx (by decide)) (jR hy (by decide)))) <| zE (kG (g_sign (jS (p - q)) (p - q) (jR (kM (mS (k := 8589934593) hx.ql hy.ql (by decide))) (by decide)))) <| zM <| zZ) ?_
 refine jH ⟨_, (.tmp (d := (.val (.int .i64 ((vT (p - q)))))) rfl .nil), ?_⟩
 rw [← signQ_sub]; rfl
end Go.Proofs.YtnajallgoaiahaaGreatDoor
namespace Go.Proofs.YtnajallgoaiahaaGreatDoor
open Go.Fid
set_option maxRecDepth 4000
set_option linter.unusedVariables false
set_option linter.unusedSimpArgs false
theorem cb24 : callB Tryz.prog 24 = true := by kernel_rfl
theorem cb26 : callB Tryz.prog 26 = true := by kernel_rfl
theorem cb99 : callB Tryz.prog 99 = true := by kernel_rfl
theorem xJ : zV Tryz.prog 61 0 = some 0 := by kernel_rfl
theorem xR : zV Tryz.prog 61 1 = some 4 := by kernel_rfl
theorem g_same (x : jJ) (y : jJ) (p : Rat) (q : Rat) (hx : yT x p 4294967296) (hy : yT y q 4294967296) : jW Tryz.prog 24 [(jL x), (jL y)] (.val (.bool ((cK x y)))) := by
 refine jM Tryz.func24 rfl cb24 rfl ?_
 show qJ _ _ _ _ ⟨[(0, (.d (jL x))), (1, (.d (jL y)))], []⟩
 refine jB <| kx [(2, (.ref 0 0)), (3, (.ref 1 0))] [(0, some (bx (jL x))), (1, some (bx (jL y)))] (zN (uZ 0) <| zN (uZ 1) <| zM <| zZ) ?_
 refine jB <| kx [(4, (vb (((jX x) && (jX y)) && ((yE p q) == 0))))] [] ?_ ?_
 ·refine zR (kK jO) <| zE (kG (g_valid x p (jR hx (by decide)))) <| zE (oV (vb (jX x)) (uA (by kernel_rfl))) <| ?_
  rcases hb1 : (jX x) with _ | _
  ·exact zK <| zK <| zE nA <| zM <| zK <| zK <| zK <| zK <| zE nA <| zM <| zZ
  ·refine zR (kK jO) <| zE (kG (g_valid y q (jR hy (by decide)))) <| zE oPa <| zE (oV (vb (true && (jX y))) (uA (by kernel_rfl))) <| ?_
   rcases hb2 : (true && (jX y)) with _ | _
   ·exact zK <| zK <| zK <| zK <| zE nA <| zM <| zZ
   ·exact zR (kK jO) <| zR (kK jO) <| zE (kG (g_compare x y p q hx hy)) <| zE gJ <| zE oPa <| zM <| zZ
 refine jH ⟨_, (.tmp (d := (.val (.bool ((((jX x) && (jX y)) && ((yE p q) == 0)))))) rfl .nil), ?_⟩
 unfold cK
 rw [← sameR_eq, hx.v, hy.v]; rfl
theorem zD (x : jJ) (p : Rat) (hx : yT x p 140737488355328) : jW Tryz.prog 26 [(jL x)] (.val (.int .i64 ((((xE x) : Nat) : Int)))) := by
 have h1 := hx.n1
 have h2 := hx.n2
 refine jM Tryz.func26 rfl cb26 rfl ?_
 show qJ _ _ _ _ ⟨[(0, (.d (jL x)))], []⟩
 refine jB <| kx [(1, (.ref 0 0))] [(0, some (bx (jL x)))] (zN (uZ 0) <| zM <| zZ) ?_
 refine jB <| kx [(2, (jN (x.num.gs.length + x.den.gs.length)))] [] (zE (qC zW) <| zE (qC vU) <| zR (uC xY) <| zE (zB kN) <| zE (qC xD) <| zE (qC vU) <| zR (uC xY) <| zE (zB kN) <| zE (vJ (x.num.gs.length + x.den.gs.length)) <| zM <| zZ) ?_
 refine jH ⟨_, (.tmp (d := (.val (.int .i64 ((((x.num.gs.length + x.den.gs.length) : Nat) : Int))))) rfl .nil), ?_⟩
 rfl
theorem g_samerange (a b : kD) (ha : GOk 4294967296 a) (hb : GOk 4294967296 b) : jW Tryz.prog 99 [(jG a), (jG b)] (.val (.bool ((cK a.lo b.lo && cK a.hi b.hi)))) := by
 refine jM Tryz.func99 rfl cb99 rfl ?_
 show qJ _ _ _ _ ⟨[(0, (.d (jG a))), (1, (.d (jG b)))], []⟩
 refine jB <| kx [(2, (.ref 0 0)), (3, (.ref 1 0))] [(0, some (bx (jG a))), (1, some (bx (jG b)))] (zN (uZ 0) <| zN (uZ 1) <| zM <| zZ) ?_
 refine jB <| kx [(4, (vb ((cK a.lo b.lo) && (cK a.hi b.hi))))] [] ?_ ?_
 ·refine zE (qC xJ) <| zR (kK jO) <| zE (qC xJ) <| zR (kK jO) <| zE (kG (g_same a.lo b.lo (kH a.lo) (kH b.lo) ha.1 hb.1)) <| zE (oV (vb (cK a.lo b.lo)) (uA (by kernel_rfl))) <| ?_
  rcases hb1 : (cK a.lo b.lo) with _ | _
  ·exact zK <| zK <| zK <| zK <| zK <| zE nA <| zM <| zZ
  ·exact zE (qC xR) <| zR (kK jO) <| zE (qC xR) <| zR (kK jO) <| zE (kG (g_same a.hi b.hi (kH a.hi) (kH b.hi) ha.2 hb.2)) <| zE oPa <| zM <| zZ
 refine jH ⟨_, (.tmp (d := (.val (.bool (((cK a.lo b.lo) && (cK a.hi b.hi)))))) rfl .nil), ?_⟩
 rfl
end Go.Proofs.YtnajallgoaiahaaGreatDoor
namespace Go.Proofs.YtnajallgoaiahaaGreatDoor
open Go.Fid
set_option maxRecDepth 4000
set_option linter.unusedVariables false
set_option linter.unusedSimpArgs false
theorem cb38 : callB Tryz.prog 38 = true := by kernel_rfl
theorem cb66 : callB Tryz.prog 66 = true := by kernel_rfl
theorem cb98 : callB Tryz.prog 98 = true := by kernel_rfl
theorem cb107 : callB Tryz.prog 107 = true := by kernel_rfl
theorem cb108 : callB Tryz.prog 108 = true := by kernel_rfl
theorem cb125 : callB Tryz.prog 125 = true := by kernel_rfl
theorem cb152 : callB Tryz.prog 152 = true := by kernel_rfl
theorem cb164 : callB Tryz.prog 164 = true := by kernel_rfl
theorem cb165 : callB Tryz.prog 165 = true := by kernel_rfl
theorem cb166 : callB Tryz.prog 166 = true := by kernel_rfl
theorem cb244 : callB Tryz.prog 244 = true := by kernel_rfl
theorem cb260 : callB Tryz.prog 260 = true := by kernel_rfl
theorem uL : vI Tryz.prog 24 = some (45, 4) := by kernel_rfl
theorem yR : vI Tryz.prog 86 = some (61, 8) := by kernel_rfl
theorem pl61 : dN Tryz.prog 61 = some [(0, 4), (4, 4)] := by kernel_rfl
theorem kS : qU Tryz.prog 61 = some (true, 8) := by kernel_rfl
theorem uI : xW Tryz.prog 61 = some [.bool false, .slice none 0 0, .bool false, .slice none 0 0, .bool false, .slice none 0 0, .bool false, .slice none 0 0] := by kernel_rfl
theorem uP : fH [.bool false, .slice none 0 0, .bool false, .slice none 0 0, .bool false, .slice none 0 0, .bool false, .slice none 0 0] [.val (.bool false), .sl 140 1 [], .val (.bool false), .sl 140 1 [], .val (.bool false), .sl 140 1 [], .val (.bool false), .sl 140 1 []] := by simp [fH, Value.oneCell']
theorem h_valid (a : kD) (ha : GOk 4294967296 a) : jW Tryz.prog 98 [(jG a)] (.val (.bool ((xB a)))) := by
 refine jM Tryz.func98 rfl cb98 rfl ?_
 show qJ _ _ _ _ ⟨[(0, (.d (jG a)))], []⟩
 refine jB <| kx [(1, (.ref 0 0))] [(0, some (bx (jG a)))] (zN (uZ 0) <| zM <| zZ) ?_
 refine jB <| kx [(2, (vb (((jX a.lo) && (jX a.hi)) && decide ((yE (kH a.lo) (kH a.hi)) ≤ 0))))] [] ?_ ?_
 ·refine zE (qC xJ) <| zR (kK jO) <| zE (kG (g_valid a.lo (kH a.lo) (jR ha.1 (by decide)))) <| zE (oV (vb (jX a.lo)) (uA (by kernel_rfl))) <| ?_
  rcases hb1 : (jX a.lo) with _ | _
  ·exact zK <| zK <| zK <| zE nA <| zM <| zK <| zK <| zK <| zK <| zK <| zK <| zE nA <| zM <| zZ
  ·refine zE (qC xR) <| zR (kK jO) <| zE (kG (g_valid a.hi (kH a.hi) (jR ha.2 (by decide)))) <| zE oPa <| zE (oV (vb (true && (jX a.hi))) (uA (by kernel_rfl))) <| ?_
   rcases hb2 : (true && (jX a.hi)) with _ | _
   ·exact zK <| zK <| zK <| zK <| zK <| zK <| zE nA <| zM <| zZ
   ·exact zE (qC xJ) <| zR (kK jO) <| zE (qC xR) <| zR (kK jO) <| zE (kG (g_compare a.lo a.hi (kH a.lo) (kH a.hi) ha.1 ha.2)) <| zE oLe <| zE oPa <| zM <| zZ
 refine jH ⟨_, (.tmp (d := (.val (.bool ((((jX a.lo) && (jX a.hi)) && decide ((yE (kH a.lo) (kH a.hi)) ≤ 0)))))) rfl .nil), ?_⟩
 rw [validG_eq]; rfl
theorem i_valid (a : kD) (ha : GOk 4294967296 a) : jW Tryz.prog 125 [(jG a)] (.val (.bool ((xB a)))) := by
 refine jM Tryz.func125 rfl cb125 rfl ?_
 show qJ _ _ _ _ ⟨[(0, (.d (jG a)))], []⟩
 refine jB <| kx [(1, (.ref 0 0))] [(0, some (bx (jG a)))] (zN (uZ 0) <| zM <| zZ) ?_
 refine jB <| kx [(2, (vb (((jX a.lo) && (jX a.hi)) && decide ((yE (kH a.lo) (kH a.hi)) ≤ 0))))] [] ?_ ?_
 ·refine zE (qC xJ) <| zR (kK jO) <| zE (kG (xU a.lo (kH a.lo) (jR ha.1 (by decide)))) <| zE (oV (vb (jX a.lo)) (uA (by kernel_rfl))) <| ?_
  rcases hb1 : (jX a.lo) with _ | _
  ·exact zK <| zK <| zK <| zE nA <| zM <| zK <| zK <| zK <| zK <| zK <| zK <| zE nA <| zM <| zZ
  ·refine zE (qC xR) <| zR (kK jO) <| zE (kG (xU a.hi (kH a.hi) (jR ha.2 (by decide)))) <| zE oPa <| zE (oV (vb (true && (jX a.hi))) (uA (by kernel_rfl))) <| ?_
   rcases hb2 : (true && (jX a.hi)) with _ | _
   ·exact zK <| zK <| zK <| zK <| zK <| zK <| zE nA <| zM <| zZ
   ·exact zE (qC xJ) <| zR (kK jO) <| zE (qC xR) <| zR (kK jO) <| zE (kG (mI a.lo a.hi (kH a.lo) (kH a.hi) (jR ha.1 (by decide)) (jR ha.2 (by decide)))) <| zE oLe <| zE oPa <| zM <| zZ
 refine jH ⟨_, (.tmp (d := (.val (.bool ((((jX a.lo) && (jX a.hi)) && decide ((yE (kH a.lo) (kH a.hi)) ≤ 0)))))) rfl .nil), ?_⟩
 rw [validG_eq]; rfl
theorem i_valids (l : List kD) (hl : ∀ a ∈ l, GOk 4294967296 a) (hb : l.length ≤ 1000000) : jW Tryz.prog 152 [(.sl 61 8 (List.map jG l))] (.val (.bool ((l.all xB)))) := by
 let y1 := (kD.mk (jJ.mk (jE.mk false []) (jE.mk false [])) (jJ.mk (jE.mk false []) (jE.mk false [])))
 refine jM Tryz.func152 rfl cb152 rfl ?_
 show qJ _ _ _ _ ⟨[(0, (vl 61 8 jG l))], []⟩
 refine jB <| kx [] [] (zM <| zZ) ?_
 refine jB <| jB <| kx [(5, (vl 61 8 jG l)), (6, (jN l.length)), (7, (jN 0))] [] (zM <| zE (zB yR) <| zM <| zZ) ?_
 refine jI <| kU (α := Nat) (fun i => ⟨[(5, (vl 61 8 jG l)), (6, (jN l.length)), (7, (jN i))], []⟩) (fun i => i ≤ l.length ∧ (l.take i).all xB = true) (fun i => l.length - i) 0 wk ⟨Nat.zero_le _, by simp⟩ ?_
 rintro i ⟨hi, hv⟩
 refine jB <| kx [(8, (vb (decide (((i : Nat) : Int) < ((l.length : Nat) : Int)))))] [] (zE vW <| zZ) ?_
 refine jB <| jK rfl (fun h1 => ?_) (fun h1 => ?_)
 ·replace h1 := of_decide_eq_true h1
  refine jF <| jB <| jI <| jB <| kx [(4, (.ref 0 0))] [(0, some (bx (jG (l.getD i y1))))] (zE (hZ yR i y1) <| zE (gH kS) <| zN (qS 0 uI uP) <| zT (qF kS) <| zZ) ?_
  refine jB <| kx [(13, (vb (!(xB (l.getD i y1)))))] [] (zR (kK kS) <| zE (kG (i_valid (l.getD i y1) (gok_get hl (show i < l.length by omega)))) <| zE cE <| zZ) ?_
  refine jK rfl (fun h2 => ?_) (fun h2 => ?_)
  ·refine jB <| kx [(2, (vb false))] [] (zM <| zZ) ?_
   refine jH ⟨_, (.tmp (d := (.val (.bool (false)))) rfl .nil), ?_⟩
   rw [all_not (f := xB) (l := l) (i := i) (d := (kD.mk (jJ.mk (jE.mk false []) (jE.mk false [])) (jJ.mk (jE.mk false []) (jE.mk false [])))) (by omega) (by simpa using h2)]; rfl
  ·refine jF <| kx [(7, (jN (i + 1)))] [] (zE (vJ (i + 1)) <| zM <| zZ) ?_
   exact ⟨(i + 1), wk, ⟨by omega, all_take (d := (kD.mk (jJ.mk (jE.mk false []) (jE.mk false [])) (jJ.mk (jE.mk false []) (jE.mk false [])))) (by omega) hv (by simpa using h2)⟩, (by first | omega | (dsimp only; omega))⟩
 ·replace h1 := of_decide_eq_false h1
  have hie : i = l.length := by omega
  rw [hie, List.take_length] at hv
  refine kP <| jB <| kx [(2, (vb true))] [] (zM <| zZ) ?_
  refine jH ⟨_, (.tmp (d := (.val (.bool (true)))) rfl .nil), ?_⟩
  rw [hv]; rfl
theorem i_zero (p q : Rat) (hp : QL p 1073741824) (hq : QL q 1073741824) : jW Tryz.prog 166 [(jG (kD.mk (jS p) (jS q)))] (.val (.bool ((cJ p q)))) := by
 refine jM Tryz.func166 rfl cb166 rfl ?_
 show qJ _ _ _ _ ⟨[(0, (.d (jG (kD.mk (jS p) (jS q)))))], []⟩
 refine jB <| kx [(1, (.ref 0 0))] [(0, some (bx (jG (kD.mk (jS p) (jS q)))))] (zN (uZ 0) <| zM <| zZ) ?_
 refine jB <| kx [(2, (vb (decide ((vT p) ≤ 0) && decide (0 ≤ (vT q)))))] [] ?_ ?_
 ·refine zE (qC xJ) <| zR (kK jO) <| zE (kG (fF (jS p) p (jR (kM hp) (by decide)))) <| zE oLe <| zE (oV (vb (decide ((vT p) ≤ 0))) (uA (by kernel_rfl))) <| ?_
  rcases hb1 : (decide ((vT p) ≤ 0)) with _ | _
  ·replace hb1 := of_decide_eq_false hb1
   exact zK <| zK <| zK <| zK <| zE nA <| zM <| zZ
  ·replace hb1 := of_decide_eq_true hb1
   exact zE (qC xR) <| zR (kK jO) <| zE (kG (fF (jS q) q (jR (kM hq) (by decide)))) <| zE oGe <| zE oPa <| zM <| zZ
 refine jH ⟨_, (.tmp (d := (.val (.bool ((decide ((vT p) ≤ 0) && decide (0 ≤ (vT q))))))) rfl .nil), ?_⟩
 rw [zeroG_eq]; rfl
theorem i_spanned (p : Rat) (qs : List Rat) (hp : QL p 17179869184) (hqs : ∀ q ∈ qs, QL q 17179869184) (hb : qs.length ≤ 1000000) : jW Tryz.prog 165 [(jL (jS p)), (.sl 45 4 (List.map jL (List.map jS qs)))] (jG (kD.mk (jS (eG p qs)) (jS (dJ p qs)))) := by
 refine jM Tryz.func165 rfl cb165 rfl ?_
 show qJ _ _ _ _ ⟨[(0, (.d (jL (jS p)))), (1, (vl 45 4 jL (List.map jS qs)))], []⟩
 refine jB <| kx [(2, (.ref 0 0)), (4, (.ref 1 0))] [(0, some (bx (jL (jS p)))), (1, some (bx (jG (kD.mk (jJ.mk (jE.mk false []) (jE.mk false [])) (jJ.mk (jE.mk false []) (jE.mk false []))))))] (zN (uZ 0) <| zN (qS 1 uI uP) <| zZ) ?_
 refine jB <| kx [(5, (.ref 2 0))] [(2, some (bx (jG (kD.mk (jS p) (jS p)))))] (zR (kK jO) <| zR (kK jO) <| zE (fM pl61 uI uP) <| zN (qS 2 uI uP) <| zT (qF kS) <| zZ) ?_
 refine jB <| jB <| kx [(11, (vl 45 4 jL (List.map jS qs))), (12, (jN qs.length)), (13, (jN 0))] [] (zM <| zE (oLn uL qs.length) <| zM <| zZ) ?_
 refine jI <| kU (α := Nat × Rat × Rat) (fun (i, lo, hi) => ⟨[(4, (.ref 1 0)), (5, (.ref 2 0)), (11, (vl 45 4 jL (List.map jS qs))), (12, (jN qs.length)), (13, (jN i))], [(1, some (bx (jG (kD.mk (jJ.mk (jE.mk false []) (jE.mk false [])) (jJ.mk (jE.mk false []) (jE.mk false [])))))), (2, some (bx (jG (kD.mk (jS lo) (jS hi)))))]⟩) (fun (i, lo, hi) => i ≤ qs.length ∧ lo = eG p (qs.take i) ∧ hi = dJ p (qs.take i)) (fun (i, lo, hi) => qs.length - i) (0, p, p) wk ⟨Nat.zero_le _, rfl, rfl⟩ ?_
 rintro ⟨i, lo, hi⟩ ⟨hi1, hl, hh⟩
 have htk : ∀ q ∈ qs.take i, QL q 17179869184 := fun q hq => hqs q (List.mem_of_mem_take hq)
 have hlo : QL lo 17179869184 := by rw [hl]; exact ql_mnL hp htk
 have hhi : QL hi 17179869184 := by rw [hh]; exact ql_mxL hp htk
 refine jB <| kx [(14, (vb (decide (((i : Nat) : Int) < ((qs.length : Nat) : Int)))))] [] (zE vW <| zZ) ?_
 refine jB <| jK rfl (fun h1 => ?_) (fun h1 => ?_)
 ·replace h1 := of_decide_eq_true h1
  refine jF <| jB <| jI <| jB <| kx [(7, (.ref 3 0))] [(3, some (bx (jL (jS (qs.getD i 0)))))] (zE (oXm uL jS i 0) <| zE (gH jO) <| zN (qS 3 qO qR) <| zT (qF jO) <| zZ) ?_
  refine jB <| jB <| kx [(21, (vb (decide ((yE (qs.getD i 0) lo) < 0))))] [] (zR (kK jO) <| zE (qC xJ) <| zR (kK jO) <| zE (kG (mI (jS (qs.getD i 0)) (jS lo) (qs.getD i 0) lo (kM (ql_getD hqs (by decide) i)) (kM hlo))) <| zE vW <| zZ) ?_
  refine jK (b := decide ((yE (qs.getD i 0) lo) < 0)) rfl (fun h2 => ?_) (fun h2 => ?_)
  ·replace h2 := of_decide_eq_true h2
   have hc1 := h2
   refine kx [] [(2, some (bx (jG (kD.mk (jS (qs.getD i 0)) (jS hi)))))] (zR (kK jO) <| zE (qC xJ) <| zT (qF jO) <| zZ) ?_
   refine jB <| kx [(28, (vb (decide (0 < (yE (qs.getD i 0) hi)))))] [] (zR (kK jO) <| zE (qC xR) <| zR (kK jO) <| zE (kG (mI (jS (qs.getD i 0)) (jS hi) (qs.getD i 0) hi (kM (ql_getD hqs (by decide) i)) (kM hhi))) <| zE yN <| zZ) ?_
   refine jK (b := decide (0 < (yE (qs.getD i 0) hi))) rfl (fun h3 => ?_) (fun h3 => ?_)
   ·replace h3 := of_decide_eq_true h3
    have hc2 := h3
    refine kx [] [(2, some (bx (jG (kD.mk (jS (qs.getD i 0)) (jS (qs.getD i 0))))))] (zR (kK jO) <| zE (qC xR) <| zT (qF jO) <| zZ) ?_
    refine kx [(13, (jN (i + 1)))] [] (zE (vJ (i + 1)) <| zM <| zZ) ?_
    exact ⟨(i + 1, qs.getD i 0, qs.getD i 0), wk, ⟨by omega, mnL_lt (by omega) hl hc1, mxL_gt (by omega) hh hc2⟩, (by first | omega | (dsimp only; omega))⟩
   ·replace h3 := of_decide_eq_false h3
    have hc2 := h3
    refine jF <| kx [(13, (jN (i + 1)))] [] (zE (vJ (i + 1)) <| zM <| zZ) ?_
    exact ⟨(i + 1, qs.getD i 0, hi), wk, ⟨by omega, mnL_lt (by omega) hl hc1, mxL_le (by omega) hh hc2⟩, (by first | omega | (dsimp only; omega))⟩
  ·replace h2 := of_decide_eq_false h2
   have hc1 := h2
   refine jF <| jB <| kx [(28, (vb (decide (0 < (yE (qs.getD i 0) hi)))))] [] (zR (kK jO) <| zE (qC xR) <| zR (kK jO) <| zE (kG (mI (jS (qs.getD i 0)) (jS hi) (qs.getD i 0) hi (kM (ql_getD hqs (by decide) i)) (kM hhi))) <| zE yN <| zZ) ?_
   refine jK (b := decide (0 < (yE (qs.getD i 0) hi))) rfl (fun h4 => ?_) (fun h4 => ?_)
   ·replace h4 := of_decide_eq_true h4
    have hc2 := h4
    refine kx [] [(2, some (bx (jG (kD.mk (jS lo) (jS (qs.getD i 0))))))] (zR (kK jO) <| zE (qC xR) <| zT (qF jO) <| zZ) ?_
    refine kx [(13, (jN (i + 1)))] [] (zE (vJ (i + 1)) <| zM <| zZ) ?_
    exact ⟨(i + 1, lo, qs.getD i 0), wk, ⟨by omega, mnL_ge (by omega) hl hc1, mxL_gt (by omega) hh hc2⟩, (by first | omega | (dsimp only; omega))⟩
   ·replace h4 := of_decide_eq_false h4
    have hc2 := h4
    refine jF <| kx [(13, (jN (i + 1)))] [] (zE (vJ (i + 1)) <| zM <| zZ) ?_
    exact ⟨(i + 1, lo, hi), wk, ⟨by omega, mnL_ge (by omega) hl hc1, mxL_le (by omega) hh hc2⟩, (by first | omega | (dsimp only; omega))⟩
 ·replace h1 := of_decide_eq_false h1
  have hie : i = qs.length := by omega
  rw [hie, List.take_length] at hl hh
  refine kP <| jB <| kx [] [(1, some (bx (jG (kD.mk (jS lo) (jS hi)))))] (zR (kK kS) <| zT (qF kS) <| zZ) ?_
  refine jH ⟨_, (qA (cs := (bx (jG (kD.mk (jS lo) (jS hi))))) (d := (jG (kD.mk (jS lo) (jS hi)))) rfl rfl kS rfl rfl .nil), ?_⟩
  rw [hl, hh]; rfl
theorem i_quot (p q : Rat) (hp : QL p 1073741824) (hq : QL q 1073741824) (hq0 : q ≠ 0) : jW Tryz.prog 260 [(jL (jS p)), (jL (jS q))] (jL (jS (p / q))) := by
 refine jM Tryz.func260 rfl cb260 rfl ?_
 show qJ _ _ _ _ ⟨[(0, (.d (jL (jS p)))), (1, (.d (jL (jS q))))], []⟩
 refine jB <| kx [(2, (.ref 0 0)), (3, (.ref 1 0)), (4, (.ref 2 0))] [(0, some (bx (jL (jS p)))), (1, some (bx (jL (jS q)))), (2, some (bx (jL (jJ.mk (jE.mk false []) (jE.mk false [])))))] (zN (uZ 0) <| zN (uZ 1) <| zN (qS 2 qO qR) <| zZ) ?_
 refine jB <| kx [(5, (.ref 3 0))] [(3, some (bx (jL (divR p q))))] (zR (kK jO) <| zR (kK jO) <| zE (kG (f_divide (jS p) (jS q) p q (jR (kM hp) (by decide)) (jR (kM hq) (by decide)))) <| zM <| zE vX <| zE vX <| zN (qS 3 qO qR) <| zT (qF jO) <| zM <| zZ) ?_
 refine jB <| kx [] [(2, some (bx (jL (divR p q))))] (zR (kK jO) <| zT (qF jO) <| zZ) ?_
 refine jH ⟨_, (qA (cs := (bx (jL (divR p q)))) (d := (jL (divR p q))) rfl rfl jO rfl rfl .nil), ?_⟩
 rw [divR_ne hq0]; rfl
theorem i_cornersM (p q r s : Rat) (hp : QL p 1073741824) (hq : QL q 1073741824) (hr : QL r 1073741824) (hs : QL s 1073741824) : jW Tryz.prog 164 [(.val (.func (.func 82) #[] #[])), (jG (kD.mk (jS p) (jS q))), (jG (kD.mk (jS r) (jS s)))] (jG (kD.mk (jS (eG (p * r) [(p * s), (q * r), (q * s)])) (jS (dJ (p * r) [(p * s), (q * r), (q * s)])))) := by
 refine jM Tryz.func164 rfl cb164 rfl ?_
 show qJ _ _ _ _ ⟨[(0, (.d (.val (.func (.func 82) #[] #[])))), (1, (.d (jG (kD.mk (jS p) (jS q))))), (2, (.d (jG (kD.mk (jS r) (jS s)))))], []⟩
 refine jB <| kx [(4, (.ref 0 0)), (5, (.ref 1 0)), (6, (.ref 2 0))] [(0, some (bx (jG (kD.mk (jS p) (jS q))))), (1, some (bx (jG (kD.mk (jS r) (jS s))))), (2, some (bx (jG (kD.mk (jJ.mk (jE.mk false []) (jE.mk false [])) (jJ.mk (jE.mk false []) (jE.mk false []))))))] (zN (uZ 0) <| zN (uZ 1) <| zN (qS 2 uI uP) <| zZ) ?_
 refine jB <| kd [] [(2, some (bx (jG (kD.mk (jS (eG (p * r) [(p * s), (q * r), (q * s)])) (jS (dJ (p * r) [(p * s), (q * r), (q * s)]))))))] mo (wM <| wE (qC xJ) <| wR (kK jO) <| wE (qC xJ) <| wR (kK jO) <| wE (kG (dL (jS p) (jS r) p r (jR (kM hp) (by decide)) (jR (kM hr) (by decide)))) <| wM <| wE (qC xJ) <| wR (kK jO) <| wE (qC xR) <| wR (kK jO) <| wE (kG (dL (jS p) (jS s) p s (jR (kM hp) (by decide)) (jR (kM hs) (by decide)))) <| wM <| wE (qC xR) <| wR (kK jO) <| wE (qC xJ) <| wR (kK jO) <| wE (kG (dL (jS q) (jS r) q r (jR (kM hq) (by decide)) (jR (kM hr) (by decide)))) <| wM <| wE (qC xR) <| wR (kK jO) <| wE (qC xR) <| wR (kK jO) <| wE (kG (dL (jS q) (jS s) q s (jR (kM hq) (by decide)) (jR (kM hs) (by decide)))) <| wE (nU uL qO qR) <| wE (kG (i_spanned (p * r) [(p * s), (q * r), (q * s)] (zI (qQ (k := 2147483648) hp hr (by decide)) (by decide)) (List.forall_mem_cons.2 ⟨(zI (qQ (k := 2147483648) hp hs (by decide)) (by decide)), (List.forall_mem_cons.2 ⟨(zI (qQ (k := 2147483648) hq hr (by decide)) (by decide)), (List.forall_mem_cons.2 ⟨(zI (qQ (k := 2147483648) hq hs (by decide)) (by decide)), (fun a h => by cases h)⟩)⟩)⟩) (by simp))) <| wT (qF kS) <| wZ) ?_
 refine jH ⟨_, (qA (cs := (bx (jG (kD.mk (jS (eG (p * r) [(p * s), (q * r), (q * s)])) (jS (dJ (p * r) [(p * s), (q * r), (q * s)])))))) (d := (jG (kD.mk (jS (eG (p * r) [(p * s), (q * r), (q * s)])) (jS (dJ (p * r) [(p * s), (q * r), (q * s)]))))) rfl rfl kS rfl rfl .nil), ?_⟩
 rfl
theorem i_cornersD (p q r s : Rat) (hp : QL p 1073741824) (hq : QL q 1073741824) (hr : QL r 1073741824) (hs : QL s 1073741824) (hr0 : r ≠ 0) (hs0 : s ≠ 0) : jW Tryz.prog 164 [(.val (.func (.func 260) #[] #[])), (jG (kD.mk (jS p) (jS q))), (jG (kD.mk (jS r) (jS s)))] (jG (kD.mk (jS (eG (p / r) [(p / s), (q / r), (q / s)])) (jS (dJ (p / r) [(p / s), (q / r), (q / s)])))) := by
 refine jM Tryz.func164 rfl cb164 rfl ?_
 show qJ _ _ _ _ ⟨[(0, (.d (.val (.func (.func 260) #[] #[])))), (1, (.d (jG (kD.mk (jS p) (jS q))))), (2, (.d (jG (kD.mk (jS r) (jS s)))))], []⟩
 refine jB <| kx [(4, (.ref 0 0)), (5, (.ref 1 0)), (6, (.ref 2 0))] [(0, some (bx (jG (kD.mk (jS p) (jS q))))), (1, some (bx (jG (kD.mk (jS r) (jS s))))), (2, some (bx (jG (kD.mk (jJ.mk (jE.mk false []) (jE.mk false [])) (jJ.mk (jE.mk false []) (jE.mk false []))))))] (zN (uZ 0) <| zN (uZ 1) <| zN (qS 2 uI uP) <| zZ) ?_
 refine jB <| kd [] [(2, some (bx (jG (kD.mk (jS (eG (p / r) [(p / s), (q / r), (q / s)])) (jS (dJ (p / r) [(p / s), (q / r), (q / s)]))))))] mo (wM <| wE (qC xJ) <| wR (kK jO) <| wE (qC xJ) <| wR (kK jO) <| wE (kG (i_quot p r hp hr (by assumption))) <| wM <| wE (qC xJ) <| wR (kK jO) <| wE (qC xR) <| wR (kK jO) <| wE (kG (i_quot p s hp hs (by assumption))) <| wM <| wE (qC xR) <| wR (kK jO) <| wE (qC xJ) <| wR (kK jO) <| wE (kG (i_quot q r hq hr (by assumption))) <| wM <| wE (qC xR) <| wR (kK jO) <| wE (qC xR) <| wR (kK jO) <| wE (kG (i_quot q s hq hs (by assumption))) <| wE (nU uL qO qR) <| wE (kG (i_spanned (p / r) [(p / s), (q / r), (q / s)] (zI (ql_div (k := 2147483648) hp hr (by decide)) (by decide)) (List.forall_mem_cons.2 ⟨(zI (ql_div (k := 2147483648) hp hs (by decide)) (by decide)), (List.forall_mem_cons.2 ⟨(zI (ql_div (k := 2147483648) hq hr (by decide)) (by decide)), (List.forall_mem_cons.2 ⟨(zI (ql_div (k := 2147483648) hq hs (by decide)) (by decide)), (fun a h => by cases h)⟩)⟩)⟩) (by simp))) <| wT (qF kS) <| wZ) ?_
 refine jH ⟨_, (qA (cs := (bx (jG (kD.mk (jS (eG (p / r) [(p / s), (q / r), (q / s)])) (jS (dJ (p / r) [(p / s), (q / r), (q / s)])))))) (d := (jG (kD.mk (jS (eG (p / r) [(p / s), (q / r), (q / s)])) (jS (dJ (p / r) [(p / s), (q / r), (q / s)]))))) rfl rfl kS rfl rfl .nil), ?_⟩
 rfl
theorem i_mul (p q r s : Rat) (hp : QL p 1073741824) (hq : QL q 1073741824) (hr : QL r 1073741824) (hs : QL s 1073741824) (hpq : p ≤ q) (hrs : r ≤ s) : jW Tryz.prog 107 [(jG (kD.mk (jS p) (jS q))), (jG (kD.mk (jS r) (jS s)))] (.tup [(jG (kD.mk (jS (eG (p * r) [(p * s), (q * r), (q * s)])) (jS (dJ (p * r) [(p * s), (q * r), (q * s)])))), (.val (.int .i64 (0)))]) := by
 refine jM Tryz.func107 rfl cb107 rfl ?_
 show qJ _ _ _ _ ⟨[(0, (.d (jG (kD.mk (jS p) (jS q))))), (1, (.d (jG (kD.mk (jS r) (jS s)))))], []⟩
 refine jB <| kx [(2, (.ref 0 0)), (3, (.ref 1 0)), (4, (.ref 2 0))] [(0, some (bx (jG (kD.mk (jS p) (jS q))))), (1, some (bx (jG (kD.mk (jS r) (jS s))))), (2, some (bx (jG (kD.mk (jJ.mk (jE.mk false []) (jE.mk false [])) (jJ.mk (jE.mk false []) (jE.mk false []))))))] (zN (uZ 0) <| zN (uZ 1) <| zN (qS 2 uI uP) <| zM <| zZ) ?_
 refine jB <| jB <| kx [(10, (vb false))] [] (zR (kK kS) <| zR (kK kS) <| zE (nU yR uI uP) <| zE (kG (by have h := i_valids [(kD.mk (jS p) (jS q)), (kD.mk (jS r) (jS s))] (List.forall_mem_cons.2 ⟨(nT (⟨uE (jR (kM hp) (by decide : 1073741824 ≤ 1073741824)), uE (jR (kM hq) (by decide : 1073741824 ≤ 1073741824))⟩) (by decide)), (List.forall_mem_cons.2 ⟨(nT (⟨uE (jR (kM hr) (by decide : 1073741824 ≤ 1073741824)), uE (jR (kM hs) (by decide : 1073741824 ≤ 1073741824))⟩) (by decide)), (fun a h => by cases h)⟩)⟩) (by simp); rw [show List.all [(kD.mk (jS p) (jS q)), (kD.mk (jS r) (jS s))] xB = true from by simp [yO hpq, yO hrs]] at h; exact h)) <| zE cE <| zZ) ?_
 refine kO ?_
 refine jF <| jB <| kx [(5, (jN 0))] [(2, some (bx (jG (kD.mk (jS (eG (p * r) [(p * s), (q * r), (q * s)])) (jS (dJ (p * r) [(p * s), (q * r), (q * s)]))))))] (zR (kK kS) <| zR (kK kS) <| zE (kG (i_cornersM p q r s hp hq hr hs)) <| zT (qF kS) <| zM <| zZ) ?_
 refine jH ⟨_, (qA (cs := (bx (jG (kD.mk (jS (eG (p * r) [(p * s), (q * r), (q * s)])) (jS (dJ (p * r) [(p * s), (q * r), (q * s)])))))) (d := (jG (kD.mk (jS (eG (p * r) [(p * s), (q * r), (q * s)])) (jS (dJ (p * r) [(p * s), (q * r), (q * s)]))))) rfl rfl kS rfl rfl (.tmp (d := (.val (.int .i64 (0)))) rfl .nil)), ?_⟩
 rfl
theorem i_divide (p q r s : Rat) (hp : QL p 1073741824) (hq : QL q 1073741824) (hr : QL r 1073741824) (hs : QL s 1073741824) (hpq : p ≤ q) (hrs : r ≤ s) (hz : cJ r s = false) : jW Tryz.prog 244 [(jG (kD.mk (jS p) (jS q))), (jG (kD.mk (jS r) (jS s)))] (.tup [(jG (kD.mk (jS (eG (p / r) [(p / s), (q / r), (q / s)])) (jS (dJ (p / r) [(p / s), (q / r), (q / s)])))), (.val (.int .i64 (0)))]) := by
 obtain ⟨hr0, hs0⟩ := zeroG_ne hrs hz
 refine jM Tryz.func244 rfl cb244 rfl ?_
 show qJ _ _ _ _ ⟨[(0, (.d (jG (kD.mk (jS p) (jS q))))), (1, (.d (jG (kD.mk (jS r) (jS s)))))], []⟩
 refine jB <| kx [(2, (.ref 0 0)), (3, (.ref 1 0)), (4, (.ref 2 0))] [(0, some (bx (jG (kD.mk (jS p) (jS q))))), (1, some (bx (jG (kD.mk (jS r) (jS s))))), (2, some (bx (jG (kD.mk (jJ.mk (jE.mk false []) (jE.mk false [])) (jJ.mk (jE.mk false []) (jE.mk false []))))))] (zN (uZ 0) <| zN (uZ 1) <| zN (qS 2 uI uP) <| zM <| zZ) ?_
 refine jB <| jB <| kx [(11, (vb false))] [] (zR (kK kS) <| zR (kK kS) <| zE (nU yR uI uP) <| zE (kG (by have h := i_valids [(kD.mk (jS p) (jS q)), (kD.mk (jS r) (jS s))] (List.forall_mem_cons.2 ⟨(nT (⟨uE (jR (kM hp) (by decide : 1073741824 ≤ 1073741824)), uE (jR (kM hq) (by decide : 1073741824 ≤ 1073741824))⟩) (by decide)), (List.forall_mem_cons.2 ⟨(nT (⟨uE (jR (kM hr) (by decide : 1073741824 ≤ 1073741824)), uE (jR (kM hs) (by decide : 1073741824 ≤ 1073741824))⟩) (by decide)), (fun a h => by cases h)⟩)⟩) (by simp); rw [show List.all [(kD.mk (jS p) (jS q)), (kD.mk (jS r) (jS s))] xB = true from by simp [yO hpq, yO hrs]] at h; exact h)) <| zE cE <| zZ) ?_
 refine kO ?_
 refine jF <| jB <| jB <| kx [(14, (vb false))] [] (zR (kK kS) <| zE (kG (by have h := i_zero r s hr hs; rw [show cJ r s = false from hz] at h; exact h)) <| zZ) ?_
 refine kO ?_
 refine jF <| jB <| kx [(6, (.d (.val (.func (.func 260) #[] #[]))))] [] (zM <| zZ) ?_
 refine jB <| kx [(5, (jN 0))] [(2, some (bx (jG (kD.mk (jS (eG (p / r) [(p / s), (q / r), (q / s)])) (jS (dJ (p / r) [(p / s), (q / r), (q / s)]))))))] (zM <| zR (kK kS) <| zR (kK kS) <| zE (kG (i_cornersD p q r s hp hq hr hs (by assumption) (by assumption))) <| zT (qF kS) <| zM <| zZ) ?_
 refine jH ⟨_, (qA (cs := (bx (jG (kD.mk (jS (eG (p / r) [(p / s), (q / r), (q / s)])) (jS (dJ (p / r) [(p / s), (q / r), (q / s)])))))) (d := (jG (kD.mk (jS (eG (p / r) [(p / s), (q / r), (q / s)])) (jS (dJ (p / r) [(p / s), (q / r), (q / s)]))))) rfl rfl kS rfl rfl (.tmp (d := (.val (.int .i64 (0)))) rfl .nil)), ?_⟩
 rfl
theorem i_square (p q : Rat) (hp : QL p 1073741824) (hq : QL q 1073741824) (hpq : p ≤ q) : jW Tryz.prog 108 [(jG (kD.mk (jS p) (jS q)))] (.tup [(jG (kD.mk (jS (sqL p q)) (jS (sqH p q)))), (.val (.int .i64 (0)))]) := by
 refine jM Tryz.func108 rfl cb108 rfl ?_
 show qJ _ _ _ _ ⟨[(0, (.d (jG (kD.mk (jS p) (jS q)))))], []⟩
 refine jB <| kx [(1, (.ref 0 0)), (2, (.ref 1 0))] [(0, some (bx (jG (kD.mk (jS p) (jS q))))), (1, some (bx (jG (kD.mk (jJ.mk (jE.mk false []) (jE.mk false [])) (jJ.mk (jE.mk false []) (jE.mk false []))))))] (zN (uZ 0) <| zN (qS 1 uI uP) <| zM <| zZ) ?_
 refine jB <| jB <| kx [(7, (vb false))] [] (zR (kK kS) <| zE (kG (by have h := i_valid (kD.mk (jS p) (jS q)) (nT (⟨uE (jR (kM hp) (by decide : 1073741824 ≤ 1073741824)), uE (jR (kM hq) (by decide : 1073741824 ≤ 1073741824))⟩) (by decide)); rw [show xB (kD.mk (jS p) (jS q)) = true from yO hpq] at h; exact h)) <| zE cE <| zZ) ?_
 refine kO ?_
 refine jF <| jB <| kd [(4, (.ref 2 0))] [(2, some (bx (jG (kD.mk (jS (eG (p * p) [(q * q)])) (jS (dJ (p * p) [(q * q)]))))))] mo (wE (qC xJ) <| wR (kK jO) <| wE (qC xJ) <| wR (kK jO) <| wE (kG (dL (jS p) (jS p) p p (jR (kM hp) (by decide)) (jR (kM hp) (by decide)))) <| wE (qC xR) <| wR (kK jO) <| wE (qC xR) <| wR (kK jO) <| wE (kG (dL (jS q) (jS q) q q (jR (kM hq) (by decide)) (jR (kM hq) (by decide)))) <| wE (nU uL qO qR) <| wE (kG (i_spanned (p * p) [(q * q)] (zI (qQ (k := 2147483648) hp hp (by decide)) (by decide)) (List.forall_mem_cons.2 ⟨(zI (qQ (k := 2147483648) hq hq (by decide)) (by decide)), (fun a h => by cases h)⟩) (by simp))) <| wN (qS 2 uI uP) <| wT (qF kS) <| wZ) ?_
 refine jB <| jB <| kx [(22, (vb (cJ p q)))] [] (zR (kK kS) <| zE (kG (i_zero p q hp hq)) <| zZ) ?_
 refine jK (b := (cJ p q)) rfl (fun h1 => ?_) (fun h1 => ?_)
 ·refine kx [] [(2, some (bx (jG (kD.mk (jS ((0 : Int) : Rat)) (jS (dJ (p * p) [(q * q)]))))))] (zE (kG (f_whole 0 (by decide) (by decide))) <| zE (qC xJ) <| zT (qF jO) <| zZ) ?_
  refine jB <| kx [(3, (jN 0))] [(1, some (bx (jG (kD.mk (jS ((0 : Int) : Rat)) (jS (dJ (p * p) [(q * q)]))))))] (zR (kK kS) <| zT (qF kS) <| zM <| zZ) ?_
  refine jH ⟨_, (qA (cs := (bx (jG (kD.mk (jS ((0 : Int) : Rat)) (jS (dJ (p * p) [(q * q)])))))) (d := (jG (kD.mk (jS ((0 : Int) : Rat)) (jS (dJ (p * p) [(q * q)]))))) rfl rfl kS rfl rfl (.tmp (d := (.val (.int .i64 (0)))) rfl .nil)), ?_⟩
  rw [show sqL p q = _ from if_pos h1]; rfl
 ·refine jF <| jB <| kx [(3, (jN 0))] [(1, some (bx (jG (kD.mk (jS (eG (p * p) [(q * q)])) (jS (dJ (p * p) [(q * q)]))))))] (zR (kK kS) <| zT (qF kS) <| zM <| zZ) ?_
  refine jH ⟨_, (qA (cs := (bx (jG (kD.mk (jS (eG (p * p) [(q * q)])) (jS (dJ (p * p) [(q * q)])))))) (d := (jG (kD.mk (jS (eG (p * p) [(q * q)])) (jS (dJ (p * p) [(q * q)]))))) rfl rfl kS rfl rfl (.tmp (d := (.val (.int .i64 (0)))) rfl .nil)), ?_⟩
  rw [show sqL p q = _ from if_neg (by rw [h1]; simp)]; rfl
theorem h_whole (lo hi : Int) (h1 : -9223372036854775808 ≤ lo) (h2 : lo ≤ 9223372036854775807) (h3 : -9223372036854775808 ≤ hi) (h4 : hi ≤ 9223372036854775807) : jW Tryz.prog 66 [(.val (.int .i64 (lo))), (.val (.int .i64 (hi)))] (jG (kD.mk (jS ((lo : Int) : Rat)) (jS ((hi : Int) : Rat)))) := by
 refine jM Tryz.func66 rfl cb66 rfl ?_
 show qJ _ _ _ _ ⟨[(0, (vi lo)), (1, (vi hi))], []⟩
 refine jB <| kx [(4, (.ref 0 0))] [(0, some (bx (jG (kD.mk (jJ.mk (jE.mk false []) (jE.mk false [])) (jJ.mk (jE.mk false []) (jE.mk false []))))))] (zN (qS 0 uI uP) <| zZ) ?_
 refine jB <| kx [] [(0, some (bx (jG (kD.mk (jS ((lo : Int) : Rat)) (jS ((hi : Int) : Rat))))))] (zM <| zE (kG (dS lo (by omega) (by omega))) <| zM <| zE (kG (dS hi (by omega) (by omega))) <| zE (fM pl61 uI uP) <| zT (qF kS) <| zZ) ?_
 refine jH ⟨_, (qA (cs := (bx (jG (kD.mk (jS ((lo : Int) : Rat)) (jS ((hi : Int) : Rat)))))) (d := (jG (kD.mk (jS ((lo : Int) : Rat)) (jS ((hi : Int) : Rat))))) rfl rfl kS rfl rfl .nil), ?_⟩
 rfl
theorem h_same (a b : kD) (ha : GOk 4294967296 a) (hb : GOk 4294967296 b) : jW Tryz.prog 38 [(jG a), (jG b)] (.val (.bool ((sameG a b)))) := by
 refine jM Tryz.func38 rfl cb38 rfl ?_
 show qJ _ _ _ _ ⟨[(0, (.d (jG a))), (1, (.d (jG b)))], []⟩
 refine jB <| kx [(2, (.ref 0 0)), (3, (.ref 1 0))] [(0, some (bx (jG a))), (1, some (bx (jG b)))] (zN (uZ 0) <| zN (uZ 1) <| zM <| zZ) ?_
 refine jB <| kx [(4, (vb (((xB a) && (xB b)) && (cK a.lo b.lo && cK a.hi b.hi))))] [] ?_ ?_
 ·refine zR (kK kS) <| zE (kG (h_valid a ha)) <| zE (oV (vb (xB a)) (uA (by kernel_rfl))) <| ?_
  rcases hb1 : (xB a) with _ | _
  ·exact zK <| zK <| zE nA <| zM <| zK <| zK <| zK <| zE nA <| zM <| zZ
  ·refine zR (kK kS) <| zE (kG (h_valid b hb)) <| zE oPa <| zE (oV (vb (true && (xB b))) (uA (by kernel_rfl))) <| ?_
   rcases hb2 : (true && (xB b)) with _ | _
   ·exact zK <| zK <| zK <| zE nA <| zM <| zZ
   ·exact zR (kK kS) <| zR (kK kS) <| zE (kG (g_samerange a b ha hb)) <| zE oPa <| zM <| zZ
 refine jH ⟨_, (.tmp (d := (.val (.bool ((((xB a) && (xB b)) && (cK a.lo b.lo && cK a.hi b.hi)))))) rfl .nil), ?_⟩
 rfl
end Go.Proofs.YtnajallgoaiahaaGreatDoor
