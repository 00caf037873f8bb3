/- Part 20 of a proof: rules, plain facts, and functions walked. -/
import Derived.Test.YtnajallgoaiahaaGreatDoorM19
import Derived.Test.YtnajallgoaiahaaGreatDoorM11
import Derived.Test.YtnajallgoaiahaaGreatDoorM12
namespace Go.Proofs.YtnajallgoaiahaaGreatDoor
open Go.Fid
set_option maxRecDepth 4000
set_option linter.unusedVariables false
set_option linter.unusedSimpArgs false
theorem cb28 : callB Tryz.prog 28 = true := by kernel_rfl
theorem cb29 : callB Tryz.prog 29 = true := by kernel_rfl
theorem cb30 : callB Tryz.prog 30 = true := by kernel_rfl
theorem cb31 : callB Tryz.prog 31 = true := by kernel_rfl
theorem cb35 : callB Tryz.prog 35 = true := by kernel_rfl
theorem cb54 : callB Tryz.prog 54 = true := by kernel_rfl
theorem cb56 : callB Tryz.prog 56 = true := by kernel_rfl
theorem cb63 : callB Tryz.prog 63 = true := by kernel_rfl
theorem cb84 : callB Tryz.prog 84 = true := by kernel_rfl
theorem cb85 : callB Tryz.prog 85 = true := by kernel_rfl
theorem cb86 : callB Tryz.prog 86 = true := by kernel_rfl
theorem cb94 : callB Tryz.prog 94 = true := by kernel_rfl
theorem cb95 : callB Tryz.prog 95 = true := by kernel_rfl
theorem g_reduced (num den : kS) (a b : Int) (fD : yP num a 68719476736) (cZ : yP den b 68719476736) (hb : b ≠ 0) : jT Tryz.prog 86 [(jK num), (jK den)] (jH (jM (Rat.divInt a b))) := by
 refine jJ Tryz.func86 rfl cb86 rfl ?_
 show qR _ _ _ _ ⟨[(0, (.d (jK num))), (1, (.d (jK den)))], []⟩
 refine jB<|kx [(2, (.ref 0 0)), (3, (.ref 1 0)), (4, (.ref 2 0))] [(0, some (bx (jK num))), (1, some (bx (jK den))), (2, some (bx (jH kW)))] (zN (xA 0)<|zN (xA 1)<|zN (uU 2 qA qO)<|zZ) ?_
 refine jB<|kx [(5, (.ref 3 0))] [(3, some (bx (jK (kJ ((Int.gcd a b : Nat) : Int)))))] (zR (kP jV)<|zR (kP jV)<|zE (jZ (rs_gcd fD cZ (by decide) (by decide)))<|zN (uU 3 zL zP)<|zT (qM jV)<|zZ) ?_
 refine jB<|jB<|kx [(17, (vb (decide ((uB b) < 0))))] [] (zR (kP jV)<|zE (jZ (rs_sign cZ (by decide)))<|zE vZ<|zZ) ?_
 refine jF (b := decide ((uB b) < 0)) rfl (fun h1 => ?_) (fun h1 => ?_)
 ·replace h1 := uH h1
  have hlt := signI_lt.1 h1
  refine kx [] [(3, some (bx (jK (kJ (-(((Int.gcd a b : Nat) : Int)))))))] (zR (kP jV)<|zE (jZ (rs_neg (cA (k := 68719476736) fD cZ (by decide)) (by decide)))<|zT (qM jV)<|zZ) ?_
  refine jB<|kx [(6, (.ref 4 0))] [(4, some (bx (jK (kJ (a.fdiv (-(((Int.gcd a b : Nat) : Int)))))))), (5, none)] (zR (kP jV)<|zR (kP jV)<|zE (jZ (rs_divide fD (mG (cA (k := 68719476736) fD cZ (by decide))) (by decide) (by decide) (by have := gcd_ne (a := a) hb; omega)))<|zM<|zE vP<|zE vP<|zE vP<|zN (uU 4 zL zP)<|zN (uU 5 zL zP)<|zT (qM jV)<|zT (qM jV)<|zM<|zZ) ?_
  refine jB<|kx [(9, (.ref 6 0))] [(6, some (bx (jK (kJ (b.fdiv (-(((Int.gcd a b : Nat) : Int)))))))), (7, none)] (zR (kP jV)<|zR (kP jV)<|zE (jZ (rs_divide cZ (mG (cA (k := 68719476736) fD cZ (by decide))) (by decide) (by decide) (by have := gcd_ne (a := a) hb; omega)))<|zM<|zE vP<|zE vP<|zE vP<|zN (uU 6 zL zP)<|zN (uU 7 zL zP)<|zT (qM jV)<|zT (qM jV)<|zM<|zZ) ?_
  refine jB<|kx [] [(2, some (bx (jH (kD.mk (kJ (a.fdiv (-(((Int.gcd a b : Nat) : Int))))) (kJ (b.fdiv (-(((Int.gcd a b : Nat) : Int)))))))))] (zR (kP jV)<|zR (kP jV)<|zE (bS pl45 qA qO)<|zT (qM jO)<|zZ) ?_
  refine jE ⟨_, (kU (cs := (bx (jH (kD.mk (kJ (a.fdiv (-(((Int.gcd a b : Nat) : Int))))) (kJ (b.fdiv (-(((Int.gcd a b : Nat) : Int))))))))) (d := (jH (kD.mk (kJ (a.fdiv (-(((Int.gcd a b : Nat) : Int))))) (kJ (b.fdiv (-(((Int.gcd a b : Nat) : Int)))))))) rfl rfl jO rfl rfl .nil), ?_⟩
  rw [← red_neg2 hlt]; rfl
 ·replace h1 := vB h1
  have hge : ¬ b < 0 := fun hh => h1 (signI_lt.2 hh)
  refine jD<|jB<|kx [(6, (.ref 8 0))] [(8, some (bx (jK (kJ (a.fdiv (((Int.gcd a b : Nat) : Int))))))), (9, none)] (zR (kP jV)<|zR (kP jV)<|zE (jZ (rs_divide fD (cA (k := 68719476736) fD cZ (by decide)) (by decide) (by decide) (by have := gcd_ne (a := a) hb; omega)))<|zM<|zE vP<|zE vP<|zE vP<|zN (uU 8 zL zP)<|zN (uU 9 zL zP)<|zT (qM jV)<|zT (qM jV)<|zM<|zZ) ?_
  refine jB<|kx [(9, (.ref 10 0))] [(10, some (bx (jK (kJ (b.fdiv (((Int.gcd a b : Nat) : Int))))))), (11, none)] (zR (kP jV)<|zR (kP jV)<|zE (jZ (rs_divide cZ (cA (k := 68719476736) fD cZ (by decide)) (by decide) (by decide) (by have := gcd_ne (a := a) hb; omega)))<|zM<|zE vP<|zE vP<|zE vP<|zN (uU 10 zL zP)<|zN (uU 11 zL zP)<|zT (qM jV)<|zT (qM jV)<|zM<|zZ) ?_
  refine jB<|kx [] [(2, some (bx (jH (kD.mk (kJ (a.fdiv (((Int.gcd a b : Nat) : Int)))) (kJ (b.fdiv (((Int.gcd a b : Nat) : Int))))))))] (zR (kP jV)<|zR (kP jV)<|zE (bS pl45 qA qO)<|zT (qM jO)<|zZ) ?_
  refine jE ⟨_, (kU (cs := (bx (jH (kD.mk (kJ (a.fdiv (((Int.gcd a b : Nat) : Int)))) (kJ (b.fdiv (((Int.gcd a b : Nat) : Int)))))))) (d := (jH (kD.mk (kJ (a.fdiv (((Int.gcd a b : Nat) : Int)))) (kJ (b.fdiv (((Int.gcd a b : Nat) : Int))))))) rfl rfl jO rfl rfl .nil), ?_⟩
  rw [red_pos hge hb]; rfl
theorem g_whole1 (n : Int) (hlo : -9223372036854775808 ≤ n) (hhi : n ≤ 9223372036854775807) : jT Tryz.prog 95 [(.val (.int .i64 (n)))] (jK (kJ n)) := by
 refine jJ Tryz.func95 rfl cb95 rfl ?_
 show qR _ _ _ _ ⟨[(0, (vi n))], []⟩
 refine jB<|kx [(2, (.ref 0 0))] [(0, some (bx (jK (kS.mk false []))))] (zN (uU 0 zL zP)<|zZ) ?_
 refine jB<|kx [] [(0, some (bx (jK (kJ n))))] (zM<|zE (jZ (r_of n (by omega) (by omega)))<|zT (qM jV)<|zZ) ?_
 refine jE ⟨_, (kU (cs := (bx (jK (kJ n)))) (d := (jK (kJ n))) rfl rfl jV rfl rfl .nil), ?_⟩
 rfl
theorem zV (n : Int) (hlo : -9223372036854775808 ≤ n) (hhi : n ≤ 9223372036854775807) : jT Tryz.prog 56 [(.val (.int .i64 (n)))] (jH (jM ((n : Int) : Rat))) := by
 refine jJ Tryz.func56 rfl cb56 rfl ?_
 show qR _ _ _ _ ⟨[(0, (vi n))], []⟩
 refine jB<|kx [(2, (.ref 0 0))] [(0, some (bx (jH kW)))] (zN (uU 0 qA qO)<|zZ) ?_
 refine jB<|kx [] [(0, some (bx (jH (kD.mk (kJ n) (kJ 1)))))] (zM<|zE (jZ (g_whole1 n (by omega) (by omega)))<|zE (jZ (g_whole1 1 (by decide) (by decide)))<|zE (bS pl45 qA qO)<|zT (qM jO)<|zZ) ?_
 refine jE ⟨_, (kU (cs := (bx (jH (kD.mk (kJ n) (kJ 1))))) (d := (jH (kD.mk (kJ n) (kJ 1)))) rfl rfl jO rfl rfl .nil), ?_⟩
 rfl
theorem iC (x : kD) (p : Rat) (hx : mF x p 17179869184) : jT Tryz.prog 54 [(jH x)] (.val (.bool ((kN x)))) := by
 refine jJ Tryz.func54 rfl cb54 rfl ?_
 show qR _ _ _ _ ⟨[(0, (.d (jH x)))], []⟩
 refine jB<|kx [(1, (.ref 0 0))] [(0, some (bx (jH x)))] (zN (xA 0)<|zM<|zZ) ?_
 refine jB<|jB<|kx [(18, (vb ((!(uM x.num) || !(uM x.den)) || decide ((uB (jW x.den)) ≤ 0))))] [] ?_ ?_
 ·refine zE (qD yA)<|zR (kP jV)<|zE (jZ (r_valid x.num (Nat.le_trans (yQ hx.n1).l (by decide))))<|zE fC<|zE (oV (vb (!(uM x.num))) (qH (by kernel_rfl)))<|?_
  rcases hb1 : (!(uM x.num)) with _ | _
  ·refine zE (qD xE)<|zR (kP jV)<|zE (jZ (r_valid x.den (Nat.le_trans (yQ hx.n2).l (by decide))))<|zE fC<|zE aO<|zE (oV (vb (false || !(uM x.den))) (qH (by kernel_rfl)))<|?_
   rcases hb2 : (false || !(uM x.den)) with _ | _
   ·exact zE (qD xE)<|zR (kP jV)<|zE (jZ (rs_sign (yQ hx.n2) (by decide)))<|zE oLe<|zE aO<|zZ
   ·exact zK<|zK<|zK<|zK<|zE hZ<|zZ
  ·exact zK<|zK<|zK<|zK<|zE hZ<|zM<|zK<|zK<|zK<|zK<|zE hZ<|zZ
 refine jF rfl (fun h3 => ?_) (fun h3 => ?_)
 ·refine jB<|kx [(2, (vb false))] [] (zM<|zZ) ?_
  refine jE ⟨_, (.tmp (d := (.val (.bool (false)))) rfl .nil), ?_⟩
  rw [validR_no h3]; rfl
 ·refine jD<|jB<|kx [(2, (vb ((uX (((Int.gcd (jW x.num) (jW x.den) : Nat) : Int)) 1) == 0)))] [] (zE (qD yA)<|zR (kP jV)<|zE (qD xE)<|zR (kP jV)<|zE (jZ (rs_gcd (yQ hx.n1) (yQ hx.n2) (by decide) (by decide)))<|zE (jZ (g_whole1 1 (by decide) (by decide)))<|zE (jZ (rs_compare (cA (k := 17179869184) (yQ hx.n1) (yQ hx.n2) (by decide)) (aS (z := 1) (by decide)) (by decide) (by decide)))<|zE gA<|zM<|zZ) ?_
  refine jE ⟨_, (.tmp (d := (.val (.bool (((uX (((Int.gcd (jW x.num) (jW x.den) : Nat) : Int)) 1) == 0))))) rfl .nil), ?_⟩
  rw [validR_yes h3]; rfl
theorem aB (x : kD) (p : Rat) (hx : mF x p 17179869184) : jT Tryz.prog 84 [(jH x)] (jH (jM p)) := by
 refine jJ Tryz.func84 rfl cb84 rfl ?_
 show qR _ _ _ _ ⟨[(0, (.d (jH x)))], []⟩
 refine jB<|kx [(1, (.ref 0 0)), (2, (.ref 1 0))] [(0, some (bx (jH x))), (1, some (bx (jH kW)))] (zN (xA 0)<|zN (uU 1 qA qO)<|zZ) ?_
 refine jB<|jB<|kx [(4, (vb (kN x)))] [] (zR (kP jO)<|zE (jZ (iC x p hx))<|zZ) ?_
 refine jF (b := (kN x)) rfl (fun h1 => ?_) (fun h1 => ?_)
 ·refine jB<|kx [] [(1, some (bx (jH x)))] (zR (kP jO)<|zT (qM jO)<|zZ) ?_
  refine jE ⟨_, (kU (cs := (bx (jH x))) (d := (jH x)) rfl rfl jO rfl rfl .nil), ?_⟩
  rw [← hx.v, ofQ_toQ h1]; rfl
 ·refine jD<|jB<|kx [] [(1, some (bx (jH (jM ((0 : Int) : Rat)))))] (zE (jZ (zV 0 (by decide) (by decide)))<|zT (qM jO)<|zZ) ?_
  refine jE ⟨_, (kU (cs := (bx (jH (jM ((0 : Int) : Rat))))) (d := (jH (jM ((0 : Int) : Rat)))) rfl rfl jO rfl rfl .nil), ?_⟩
  rw [← hx.v, toQ_bad h1]; rfl
theorem g_sign (x : kD) (p : Rat) (hx : mF x p 17179869184) : jT Tryz.prog 28 [(jH x)] (.val (.int .i64 ((dZ p)))) := by
 refine jJ Tryz.func28 rfl cb28 rfl ?_
 show qR _ _ _ _ ⟨[(0, (.d (jH x)))], []⟩
 refine jB<|kx [(1, (.ref 0 0))] [(0, some (bx (jH x)))] (zN (xA 0)<|zM<|zZ) ?_
 refine jB<|kx [(2, (vi (uB p.num)))] [] (zR (kP jO)<|zE (jZ (aB x p hx))<|zE (oFv ft45_0 jV)<|zE (jZ (rs_sign (uO hx.ql) (by decide)))<|zM<|zZ) ?_
 refine jE ⟨_, (.tmp (d := (.val (.int .i64 ((uB p.num))))) rfl .nil), ?_⟩
 rfl
theorem g_neg (x : kD) (p : Rat) (hx : mF x p 17179869184) : jT Tryz.prog 85 [(jH x)] (jH (jM (-p))) := by
 refine jJ Tryz.func85 rfl cb85 rfl ?_
 show qR _ _ _ _ ⟨[(0, (.d (jH x)))], []⟩
 refine jB<|kx [(1, (.ref 0 0)), (2, (.ref 1 0))] [(0, some (bx (jH x))), (1, some (bx (jH kW)))] (zN (xA 0)<|zN (uU 1 qA qO)<|zZ) ?_
 refine jB<|kx [(3, (.ref 2 0))] [(2, some (bx (jH (jM p))))] (zR (kP jO)<|zE (jZ (aB x p hx))<|zN (uU 2 qA qO)<|zT (qM jO)<|zZ) ?_
 refine jB<|kd [] [(1, some (bx (jH (kD.mk (kJ (-p.num)) ((jM p).den)))))] mo (wE (qD yA)<|wR (kP jV)<|wE (jZ (rs_neg (uO hx.ql) (by decide)))<|wE (qD xE)<|wR (kP jV)<|wE (bS pl45 qA qO)<|wT (qM jO)<|wZ) ?_
 refine jE ⟨_, (kU (cs := (bx (jH (kD.mk (kJ (-p.num)) ((jM p).den))))) (d := (jH (kD.mk (kJ (-p.num)) ((jM p).den)))) rfl rfl jO rfl rfl .nil), ?_⟩
 rfl
theorem g_add (x : kD) (y : kD) (p : Rat) (q : Rat) (hx : mF x p 17179869184) (hy : mF y q 17179869184) : jT Tryz.prog 35 [(jH x), (jH y)] (jH (jM (p + q))) := by
 refine jJ Tryz.func35 rfl cb35 rfl ?_
 show qR _ _ _ _ ⟨[(0, (.d (jH x))), (1, (.d (jH y)))], []⟩
 refine jB<|kx [(2, (.ref 0 0)), (3, (.ref 1 0)), (4, (.ref 2 0))] [(0, some (bx (jH x))), (1, some (bx (jH y))), (2, some (bx (jH kW)))] (zN (xA 0)<|zN (xA 1)<|zN (uU 2 qA qO)<|zZ) ?_
 refine jB<|kx [(5, (.ref 3 0))] [(3, some (bx (jH (jM p))))] (zR (kP jO)<|zE (jZ (aB x p hx))<|zN (uU 3 qA qO)<|zT (qM jO)<|zZ) ?_
 refine jB<|kx [(6, (.ref 4 0))] [(4, some (bx (jH (jM q))))] (zR (kP jO)<|zE (jZ (aB y q hy))<|zN (uU 4 qA qO)<|zT (qM jO)<|zZ) ?_
 refine jB<|kd [] [(2, some (bx (jH (jM (Rat.divInt ((p.num * (q.den : Int)) + (q.num * (p.den : Int))) ((p.den : Int) * (q.den : Int)))))))] mo (wE (qD yA)<|wR (kP jV)<|wE (qD xE)<|wR (kP jV)<|wE (jZ (rs_mul (uO hx.ql) (uE hy.ql) (by decide) (by decide)))<|wE (qD yA)<|wR (kP jV)<|wE (qD xE)<|wR (kP jV)<|wE (jZ (rs_mul (uO hy.ql) (uE hx.ql) (by decide) (by decide)))<|wE (jZ (rs_add (zW (k := 34359738368) (uO hx.ql) (uE hy.ql) (by decide)) (zW (k := 34359738368) (uO hy.ql) (uE hx.ql) (by decide)) (by decide) (by decide)))<|wE (qD xE)<|wR (kP jV)<|wE (qD xE)<|wR (kP jV)<|wE (jZ (rs_mul (uE hx.ql) (uE hy.ql) (by decide) (by decide)))<|wE (jZ (g_reduced (kJ ((p.num * (q.den : Int)) + (q.num * (p.den : Int)))) (kJ ((p.den : Int) * (q.den : Int))) ((p.num * (q.den : Int)) + (q.num * (p.den : Int))) ((p.den : Int) * (q.den : Int)) (gU (iok_add (k := 34359738369) (zW (k := 34359738368) (uO hx.ql) (uE hy.ql) (by decide)) (zW (k := 34359738368) (uO hy.ql) (uE hx.ql) (by decide)) (by decide)) (by decide)) (gU (zW (k := 34359738368) (uE hx.ql) (uE hy.ql) (by decide)) (by decide)) (mul_ne (aG _) (aG _))))<|wT (qM jO)<|wZ) ?_
 refine jE ⟨_, (kU (cs := (bx (jH (jM (Rat.divInt ((p.num * (q.den : Int)) + (q.num * (p.den : Int))) ((p.den : Int) * (q.den : Int))))))) (d := (jH (jM (Rat.divInt ((p.num * (q.den : Int)) + (q.num * (p.den : Int))) ((p.den : Int) * (q.den : Int)))))) rfl rfl jO rfl rfl .nil), ?_⟩
 rw [add_divInt]; rfl
theorem g_sub (x : kD) (y : kD) (p : Rat) (q : Rat) (hx : mF x p 17179869184) (hy : mF y q 17179869184) : jT Tryz.prog 29 [(jH x), (jH y)] (jH (jM (p - q))) := by
 refine jJ Tryz.func29 rfl cb29 rfl ?_
 show qR _ _ _ _ ⟨[(0, (.d (jH x))), (1, (.d (jH y)))], []⟩
 refine jB<|kx [(2, (.ref 0 0)), (3, (.ref 1 0)), (4, (.ref 2 0))] [(0, some (bx (jH x))), (1, some (bx (jH y))), (2, some (bx (jH kW)))] (zN (xA 0)<|zN (xA 1)<|zN (uU 2 qA qO)<|zZ) ?_
 refine jB<|kd [] [(2, some (bx (jH (jM (p + (-q))))))] mo (wR (kP jO)<|wR (kP jO)<|wE (jZ (g_neg y q hy))<|wE (jZ (g_add x (jM (-q)) p (-q) hx (jX (ql_neg hy.ql))))<|wT (qM jO)<|wZ) ?_
 refine jE ⟨_, (kU (cs := (bx (jH (jM (p + (-q)))))) (d := (jH (jM (p + (-q))))) rfl rfl jO rfl rfl .nil), ?_⟩
 rw [Rat.sub_eq_add_neg]; rfl
theorem g_mul (x : kD) (y : kD) (p : Rat) (q : Rat) (hx : mF x p 17179869184) (hy : mF y q 17179869184) : jT Tryz.prog 31 [(jH x), (jH y)] (jH (jM (p * q))) := by
 refine jJ Tryz.func31 rfl cb31 rfl ?_
 show qR _ _ _ _ ⟨[(0, (.d (jH x))), (1, (.d (jH y)))], []⟩
 refine jB<|kx [(2, (.ref 0 0)), (3, (.ref 1 0)), (4, (.ref 2 0))] [(0, some (bx (jH x))), (1, some (bx (jH y))), (2, some (bx (jH kW)))] (zN (xA 0)<|zN (xA 1)<|zN (uU 2 qA qO)<|zZ) ?_
 refine jB<|kx [(5, (.ref 3 0))] [(3, some (bx (jH (jM p))))] (zR (kP jO)<|zE (jZ (aB x p hx))<|zN (uU 3 qA qO)<|zT (qM jO)<|zZ) ?_
 refine jB<|kx [(6, (.ref 4 0))] [(4, some (bx (jH (jM q))))] (zR (kP jO)<|zE (jZ (aB y q hy))<|zN (uU 4 qA qO)<|zT (qM jO)<|zZ) ?_
 refine jB<|kd [] [(2, some (bx (jH (jM (Rat.divInt (p.num * q.num) ((p.den : Int) * (q.den : Int)))))))] mo (wE (qD yA)<|wR (kP jV)<|wE (qD yA)<|wR (kP jV)<|wE (jZ (rs_mul (uO hx.ql) (uO hy.ql) (by decide) (by decide)))<|wE (qD xE)<|wR (kP jV)<|wE (qD xE)<|wR (kP jV)<|wE (jZ (rs_mul (uE hx.ql) (uE hy.ql) (by decide) (by decide)))<|wE (jZ (g_reduced (kJ (p.num * q.num)) (kJ ((p.den : Int) * (q.den : Int))) (p.num * q.num) ((p.den : Int) * (q.den : Int)) (gU (zW (k := 34359738368) (uO hx.ql) (uO hy.ql) (by decide)) (by decide)) (gU (zW (k := 34359738368) (uE hx.ql) (uE hy.ql) (by decide)) (by decide)) (mul_ne (aG _) (aG _))))<|wT (qM jO)<|wZ) ?_
 refine jE ⟨_, (kU (cs := (bx (jH (jM (Rat.divInt (p.num * q.num) ((p.den : Int) * (q.den : Int))))))) (d := (jH (jM (Rat.divInt (p.num * q.num) ((p.den : Int) * (q.den : Int)))))) rfl rfl jO rfl rfl .nil), ?_⟩
 rw [mul_divInt]; rfl
theorem g_new (num den : kS) (a b : Int) (fD : yP num a 68719476736) (cZ : yP den b 68719476736) : jT Tryz.prog 94 [(jK num), (jK den)] (.tup [(jH (newR a b)), (.val (.int .i64 ((newC b))))]) := by
 refine jJ Tryz.func94 rfl cb94 rfl ?_
 show qR _ _ _ _ ⟨[(0, (.d (jK num))), (1, (.d (jK den)))], []⟩
 refine jB<|kx [(2, (.ref 0 0)), (3, (.ref 1 0)), (4, (.ref 2 0))] [(0, some (bx (jK num))), (1, some (bx (jK den))), (2, some (bx (jH kW)))] (zN (xA 0)<|zN (xA 1)<|zN (uU 2 qA qO)<|zM<|zZ) ?_
 refine jB<|jB<|kx [(8, (vb ((uB b) == 0)))] [] (zR (kP jV)<|zE (jZ (rs_sign cZ (by decide)))<|zE gA<|zZ) ?_
 refine jF (b := ((uB b) == 0)) rfl (fun h1 => ?_) (fun h1 => ?_)
 ·replace h1 := eq_of_beq h1
  have hb : b = 0 := sign0 h1
  refine jB<|kx [(5, (jN 14))] [(2, some (bx (jH kW)))] (zE (bS pl45 qA qO)<|zT (qM jO)<|zM<|zZ) ?_
  refine jE ⟨_, (kU (cs := (bx (jH kW))) (d := (jH kW)) rfl rfl jO rfl rfl (.tmp (d := (.val (.int .i64 (14)))) rfl .nil)), ?_⟩
  rw [hb]; rfl
 ·replace h1 := ne_of_beq_false h1
  have hb : b ≠ 0 := fun hh => h1 (by rw [hh]; rfl)
  refine jD<|jB<|kx [(5, (jN 0))] [(2, some (bx (jH (jM (Rat.divInt a b)))))] (zR (kP jV)<|zR (kP jV)<|zE (jZ (g_reduced num den a b fD cZ (by assumption)))<|zT (qM jO)<|zM<|zZ) ?_
  refine jE ⟨_, (kU (cs := (bx (jH (jM (Rat.divInt a b))))) (d := (jH (jM (Rat.divInt a b)))) rfl rfl jO rfl rfl (.tmp (d := (.val (.int .i64 (0)))) rfl .nil)), ?_⟩
  unfold newR newC; rw [if_neg hb, if_neg hb]; rfl
theorem g_divide (x : kD) (y : kD) (p : Rat) (q : Rat) (hx : mF x p 17179869184) (hy : mF y q 17179869184) : jT Tryz.prog 63 [(jH x), (jH y)] (.tup [(jH (divR p q)), (.val (.int .i64 ((divC q))))]) := by
 refine jJ Tryz.func63 rfl cb63 rfl ?_
 show qR _ _ _ _ ⟨[(0, (.d (jH x))), (1, (.d (jH y)))], []⟩
 refine jB<|kx [(2, (.ref 0 0)), (3, (.ref 1 0)), (4, (.ref 2 0))] [(0, some (bx (jH x))), (1, some (bx (jH y))), (2, some (bx (jH kW)))] (zN (xA 0)<|zN (xA 1)<|zN (uU 2 qA qO)<|zM<|zZ) ?_
 refine jB<|kx [(6, (.ref 3 0))] [(3, some (bx (jH (jM p))))] (zR (kP jO)<|zE (jZ (aB x p hx))<|zN (uU 3 qA qO)<|zT (qM jO)<|zZ) ?_
 refine jB<|kx [(7, (.ref 4 0))] [(4, some (bx (jH (jM q))))] (zR (kP jO)<|zE (jZ (aB y q hy))<|zN (uU 4 qA qO)<|zT (qM jO)<|zZ) ?_
 refine jB<|kd [(5, (vi (newC ((p.den : Int) * q.num))))] [(2, some (bx (jH (newR (p.num * (q.den : Int)) ((p.den : Int) * q.num)))))] mo (wE (qD yA)<|wR (kP jV)<|wE (qD xE)<|wR (kP jV)<|wE (jZ (rs_mul (uO hx.ql) (uE hy.ql) (by decide) (by decide)))<|wE (qD xE)<|wR (kP jV)<|wE (qD yA)<|wR (kP jV)<|wE (jZ (rs_mul (uE hx.ql) (uO hy.ql) (by decide) (by decide)))<|wE (jZ (g_new (kJ (p.num * (q.den : Int))) (kJ ((p.den : Int) * q.num)) (p.num * (q.den : Int)) ((p.den : Int) * q.num) (gU (zW (k := 34359738368) (uO hx.ql) (uE hy.ql) (by decide)) (by decide)) (gU (zW (k := 34359738368) (uE hx.ql) (uO hy.ql) (by decide)) (by decide))))<|wE vP<|wE vP<|wT (qM jO)<|wM<|wZ) ?_
 refine jE ⟨_, (kU (cs := (bx (jH (newR (p.num * (q.den : Int)) ((p.den : Int) * q.num))))) (d := (jH (newR (p.num * (q.den : Int)) ((p.den : Int) * q.num)))) rfl rfl jO rfl rfl (.tmp (d := (.val (.int .i64 ((newC ((p.den : Int) * q.num)))))) rfl .nil)), ?_⟩
 rw [newR_div, newC_div]; rfl
theorem g_compare (x : kD) (y : kD) (p : Rat) (q : Rat) (hx : mF x p 4294967296) (hy : mF y q 4294967296) : jT Tryz.prog 30 [(jH x), (jH y)] (.val (.int .i64 ((yJ p q)))) := by
 refine jJ Tryz.func30 rfl cb30 rfl ?_
 show qR _ _ _ _ ⟨[(0, (.d (jH x))), (1, (.d (jH y)))], []⟩
 refine jB<|kx [(2, (.ref 0 0)), (3, (.ref 1 0))] [(0, some (bx (jH x))), (1, some (bx (jH y)))] (zN (xA 0)<|zN (xA 1)<|zM<|zZ) ?_
 refine jB<|kx [(4, (vi (dZ (p - q))))] [] (zR (kP jO)<|zR (kP jO)<|zE (jZ (g_sub x y p q (jP hx (by decide)) (jP hy (by decide))))<|zE (jZ (g_sign (jM (p - q)) (p - q) (jP (jX (dS (k := 8589934593) hx.ql hy.ql (by decide))) (by decide))))<|zM<|zZ) ?_
 refine jE ⟨_, (.tmp (d := (.val (.int .i64 ((dZ (p - q)))))) rfl .nil), ?_⟩
 rw [← signQ_sub]; rfl
theorem cb24 : callB Tryz.prog 24 = true := by kernel_rfl
theorem cb99 : callB Tryz.prog 99 = true := by kernel_rfl
theorem gS : vR Tryz.prog 61 0 = some 0 := by kernel_rfl
theorem gR : vR Tryz.prog 61 1 = some 4 := by kernel_rfl
theorem g_same (x : kD) (y : kD) (p : Rat) (q : Rat) (hx : mF x p 4294967296) (hy : mF y q 4294967296) : jT Tryz.prog 24 [(jH x), (jH y)] (.val (.bool ((cM x y)))) := by
 refine jJ Tryz.func24 rfl cb24 rfl ?_
 show qR _ _ _ _ ⟨[(0, (.d (jH x))), (1, (.d (jH y)))], []⟩
 refine jB<|kx [(2, (.ref 0 0)), (3, (.ref 1 0))] [(0, some (bx (jH x))), (1, some (bx (jH y)))] (zN (xA 0)<|zN (xA 1)<|zM<|zZ) ?_
 refine jB<|kx [(4, (vb (((kN x) && (kN y)) && ((yJ p q) == 0))))] [] ?_ ?_
 ·refine zR (kP jO)<|zE (jZ (iC x p (jP hx (by decide))))<|zE (oV (vb (kN x)) (qH (by kernel_rfl)))<|?_
  rcases hb1 : (kN x) with _ | _
  ·exact zK<|zK<|zE yM<|zM<|zK<|zK<|zK<|zK<|zE yM<|zM<|zZ
  ·refine zR (kP jO)<|zE (jZ (iC y q (jP hy (by decide))))<|zE aJ<|zE (oV (vb (true && (kN y))) (qH (by kernel_rfl)))<|?_
   rcases hb2 : (true && (kN y)) with _ | _
   ·exact zK<|zK<|zK<|zK<|zE yM<|zM<|zZ
   ·exact zR (kP jO)<|zR (kP jO)<|zE (jZ (g_compare x y p q hx hy))<|zE gA<|zE aJ<|zM<|zZ
 refine jE ⟨_, (.tmp (d := (.val (.bool ((((kN x) && (kN y)) && ((yJ p q) == 0)))))) rfl .nil), ?_⟩
 unfold cM
 rw [← sameR_eq, hx.v, hy.v]; rfl
theorem g_samerange (a b : kR) (ha : GOk 4294967296 a) (hb : GOk 4294967296 b) : jT Tryz.prog 99 [(jQ a), (jQ b)] (.val (.bool ((cM a.lo b.lo && cM a.hi b.hi)))) := by
 refine jJ Tryz.func99 rfl cb99 rfl ?_
 show qR _ _ _ _ ⟨[(0, (.d (jQ a))), (1, (.d (jQ b)))], []⟩
 refine jB<|kx [(2, (.ref 0 0)), (3, (.ref 1 0))] [(0, some (bx (jQ a))), (1, some (bx (jQ b)))] (zN (xA 0)<|zN (xA 1)<|zM<|zZ) ?_
 refine jB<|kx [(4, (vb ((cM a.lo b.lo) && (cM a.hi b.hi))))] [] ?_ ?_
 ·refine zE (qD gS)<|zR (kP jO)<|zE (qD gS)<|zR (kP jO)<|zE (jZ (g_same a.lo b.lo (qB a.lo) (qB b.lo) ha.1 hb.1))<|zE (oV (vb (cM a.lo b.lo)) (qH (by kernel_rfl)))<|?_
  rcases hb1 : (cM a.lo b.lo) with _ | _
  ·exact zK<|zK<|zK<|zK<|zK<|zE yM<|zM<|zZ
  ·exact zE (qD gR)<|zR (kP jO)<|zE (qD gR)<|zR (kP jO)<|zE (jZ (g_same a.hi b.hi (qB a.hi) (qB b.hi) ha.2 hb.2))<|zE aJ<|zM<|zZ
 refine jE ⟨_, (.tmp (d := (.val (.bool (((cM a.lo b.lo) && (cM a.hi b.hi)))))) rfl .nil), ?_⟩
 rfl
theorem cb38 : callB Tryz.prog 38 = true := by kernel_rfl
theorem cb66 : callB Tryz.prog 66 = true := by kernel_rfl
theorem cb98 : callB Tryz.prog 98 = true := by kernel_rfl
theorem cb107 : callB Tryz.prog 107 = true := by kernel_rfl
theorem cb125 : callB Tryz.prog 125 = true := by kernel_rfl
theorem cb152 : callB Tryz.prog 152 = true := by kernel_rfl
theorem cb164 : callB Tryz.prog 164 = true := by kernel_rfl
theorem cb165 : callB Tryz.prog 165 = true := by kernel_rfl
theorem qN : uZ Tryz.prog 24 = some (45, 4) := by kernel_rfl
theorem fH : uZ Tryz.prog 86 = some (61, 8) := by kernel_rfl
theorem pl61 : mT Tryz.prog 61 = some [(0, 4), (4, 4)] := by kernel_rfl
theorem uA : qL Tryz.prog 61 = some (true, 8) := by kernel_rfl
theorem xY : xH Tryz.prog 61 = some [.bool false, .slice none 0 0, .bool false, .slice none 0 0, .bool false, .slice none 0 0, .bool false, .slice none 0 0] := by kernel_rfl
theorem yC : eC [.bool false, .slice none 0 0, .bool false, .slice none 0 0, .bool false, .slice none 0 0, .bool false, .slice none 0 0] [.val (.bool false), .sl 140 1 [], .val (.bool false), .sl 140 1 [], .val (.bool false), .sl 140 1 [], .val (.bool false), .sl 140 1 []] := by simp [eC, Value.oneCell']
theorem h_valid (a : kR) (ha : GOk 4294967296 a) : jT Tryz.prog 98 [(jQ a)] (.val (.bool ((xR a)))) := by
 refine jJ Tryz.func98 rfl cb98 rfl ?_
 show qR _ _ _ _ ⟨[(0, (.d (jQ a)))], []⟩
 refine jB<|kx [(1, (.ref 0 0))] [(0, some (bx (jQ a)))] (zN (xA 0)<|zM<|zZ) ?_
 refine jB<|kx [(2, (vb (((kN a.lo) && (kN a.hi)) && decide ((yJ (qB a.lo) (qB a.hi)) ≤ 0))))] [] ?_ ?_
 ·refine zE (qD gS)<|zR (kP jO)<|zE (jZ (iC a.lo (qB a.lo) (jP ha.1 (by decide))))<|zE (oV (vb (kN a.lo)) (qH (by kernel_rfl)))<|?_
  rcases hb1 : (kN a.lo) with _ | _
  ·exact zK<|zK<|zK<|zE yM<|zM<|zK<|zK<|zK<|zK<|zK<|zK<|zE yM<|zM<|zZ
  ·refine zE (qD gR)<|zR (kP jO)<|zE (jZ (iC a.hi (qB a.hi) (jP ha.2 (by decide))))<|zE aJ<|zE (oV (vb (true && (kN a.hi))) (qH (by kernel_rfl)))<|?_
   rcases hb2 : (true && (kN a.hi)) with _ | _
   ·exact zK<|zK<|zK<|zK<|zK<|zK<|zE yM<|zM<|zZ
   ·exact zE (qD gS)<|zR (kP jO)<|zE (qD gR)<|zR (kP jO)<|zE (jZ (g_compare a.lo a.hi (qB a.lo) (qB a.hi) ha.1 ha.2))<|zE oLe<|zE aJ<|zM<|zZ
 refine jE ⟨_, (.tmp (d := (.val (.bool ((((kN a.lo) && (kN a.hi)) && decide ((yJ (qB a.lo) (qB a.hi)) ≤ 0)))))) rfl .nil), ?_⟩
 rw [validG_eq]; rfl
theorem i_valid (a : kR) (ha : GOk 4294967296 a) : jT Tryz.prog 125 [(jQ a)] (.val (.bool ((xR a)))) := by
 refine jJ Tryz.func125 rfl cb125 rfl ?_
 show qR _ _ _ _ ⟨[(0, (.d (jQ a)))], []⟩
 refine jB<|kx [(1, (.ref 0 0))] [(0, some (bx (jQ a)))] (zN (xA 0)<|zM<|zZ) ?_
 refine jB<|kx [(2, (vb (((kN a.lo) && (kN a.hi)) && decide ((yJ (qB a.lo) (qB a.hi)) ≤ 0))))] [] ?_ ?_
 ·refine zE (qD gS)<|zR (kP jO)<|zE (jZ (mB a.lo (qB a.lo) (jP ha.1 (by decide))))<|zE (oV (vb (kN a.lo)) (qH (by kernel_rfl)))<|?_
  rcases hb1 : (kN a.lo) with _ | _
  ·exact zK<|zK<|zK<|zE yM<|zM<|zK<|zK<|zK<|zK<|zK<|zK<|zE yM<|zM<|zZ
  ·refine zE (qD gR)<|zR (kP jO)<|zE (jZ (mB a.hi (qB a.hi) (jP ha.2 (by decide))))<|zE aJ<|zE (oV (vb (true && (kN a.hi))) (qH (by kernel_rfl)))<|?_
   rcases hb2 : (true && (kN a.hi)) with _ | _
   ·exact zK<|zK<|zK<|zK<|zK<|zK<|zE yM<|zM<|zZ
   ·exact zE (qD gS)<|zR (kP jO)<|zE (qD gR)<|zR (kP jO)<|zE (jZ (mM a.lo a.hi (qB a.lo) (qB a.hi) (jP ha.1 (by decide)) (jP ha.2 (by decide))))<|zE oLe<|zE aJ<|zM<|zZ
 refine jE ⟨_, (.tmp (d := (.val (.bool ((((kN a.lo) && (kN a.hi)) && decide ((yJ (qB a.lo) (qB a.hi)) ≤ 0)))))) rfl .nil), ?_⟩
 rw [validG_eq]; rfl
theorem i_valids (l : List kR) (hl : ∀ a ∈ l, GOk 4294967296 a) (hb : l.length ≤ 1000000) : jT Tryz.prog 152 [(.sl 61 8 (List.map jQ l))] (.val (.bool ((l.all xR)))) := by
 let y1 := (kR.mk kW kW)
 refine jJ Tryz.func152 rfl cb152 rfl ?_
 show qR _ _ _ _ ⟨[(0, (vl 61 8 jQ l))], []⟩
 refine jB<|kx [] [] (zM<|zZ) ?_
 refine jB<|jB<|kx [(5, (vl 61 8 jQ l)), (6, (jN l.length)), (7, (jN 0))] [] (zM<|zE (vX fH)<|zM<|zZ) ?_
 refine jG<|kI (α := Nat) (fun i => ⟨[(5, (vl 61 8 jQ l)), (6, (jN l.length)), (7, (jN i))], []⟩) (fun i => i ≤ l.length ∧ (l.take i).all xR = true) (fun i => l.length - i) 0 wk ⟨Nat.zero_le _, by simp⟩ ?_
 rintro i ⟨hi, hv⟩
 refine jB<|kx [(8, (vb (decide (((i : Nat) : Int) < ((l.length : Nat) : Int)))))] [] (zE vZ<|zZ) ?_
 refine jB<|jF rfl (fun h1 => ?_) (fun h1 => ?_)
 ·replace h1 := uH h1
  refine jD<|jB<|jG<|jB<|kx [(4, (.ref 0 0))] [(0, some (bx (jQ (l.getD i y1))))] (zE (zU fH i y1)<|zE (dM uA)<|zN (uU 0 xY yC)<|zT (qM uA)<|zZ) ?_
  refine jB<|kx [(13, (vb (!(xR (l.getD i y1)))))] [] (zR (kP uA)<|zE (jZ (i_valid (l.getD i y1) (gok_get hl (show i < l.length by omega))))<|zE fC<|zZ) ?_
  refine jF rfl (fun h2 => ?_) (fun h2 => ?_)
  ·refine jB<|kx [(2, (vb false))] [] (zM<|zZ) ?_
   refine jE ⟨_, (.tmp (d := (.val (.bool (false)))) rfl .nil), ?_⟩
   rw [all_not (f := xR) (l := l) (i := i) (d := (kR.mk kW kW)) (by omega) (by simpa using h2)]; rfl
  ·refine jD<|kx [(7, (jN (i + 1)))] [] (zE (vG (i + 1))<|zM<|zZ) ?_
   exact ⟨(i + 1), wk, ⟨by omega, all_take (d := (kR.mk kW kW)) (by omega) hv (by simpa using h2)⟩, (by first|omega|(dsimp only;omega))⟩
 ·replace h1 := vB h1
  have hie : i = l.length := by omega
  rw [hie, List.take_length] at hv
  refine kC<|jB<|kx [(2, (vb true))] [] (zM<|zZ) ?_
  refine jE ⟨_, (.tmp (d := (.val (.bool (true)))) rfl .nil), ?_⟩
  rw [hv]; rfl
theorem i_spanned (p : Rat) (qs : List Rat) (hp : QL p 17179869184) (hqs : ∀ q ∈ qs, QL q 17179869184) (hb : qs.length ≤ 1000000) : jT Tryz.prog 165 [(jH (jM p)), (.sl 45 4 (List.map jH (List.map jM qs)))] (jQ (kR.mk (jM (mnL p qs)) (jM (mxL p qs)))) := by
 refine jJ Tryz.func165 rfl cb165 rfl ?_
 show qR _ _ _ _ ⟨[(0, (.d (jH (jM p)))), (1, (vl 45 4 jH (List.map jM qs)))], []⟩
 refine jB<|kx [(2, (.ref 0 0)), (4, (.ref 1 0))] [(0, some (bx (jH (jM p)))), (1, some (bx (jQ (kR.mk kW kW))))] (zN (xA 0)<|zN (uU 1 xY yC)<|zZ) ?_
 refine jB<|kx [(5, (.ref 2 0))] [(2, some (bx (jQ (kR.mk (jM p) (jM p)))))] (zR (kP jO)<|zR (kP jO)<|zE (bS pl61 xY yC)<|zN (uU 2 xY yC)<|zT (qM uA)<|zZ) ?_
 refine jB<|jB<|kx [(11, (vl 45 4 jH (List.map jM qs))), (12, (jN qs.length)), (13, (jN 0))] [] (zM<|zE (oLn qN qs.length)<|zM<|zZ) ?_
 refine jG<|kI (α := Nat × Rat × Rat) (fun (i, lo, hi) => ⟨[(4, (.ref 1 0)), (5, (.ref 2 0)), (11, (vl 45 4 jH (List.map jM qs))), (12, (jN qs.length)), (13, (jN i))], [(1, some (bx (jQ (kR.mk kW kW)))), (2, some (bx (jQ (kR.mk (jM lo) (jM hi)))))]⟩) (fun (i, lo, hi) => i ≤ qs.length ∧ lo = mnL p (qs.take i) ∧ hi = mxL p (qs.take i)) (fun (i, lo, hi) => qs.length - i) (0, p, p) wk ⟨Nat.zero_le _, rfl, rfl⟩ ?_
 rintro ⟨i, lo, hi⟩ ⟨hi1, hl, hh⟩
 have htk : ∀ q ∈ qs.take i, QL q 17179869184 := fun q hq => hqs q (List.mem_of_mem_take hq)
 have hlo : QL lo 17179869184 := by rw [hl]; exact ql_mnL hp htk
 have hhi : QL hi 17179869184 := by rw [hh]; exact ql_mxL hp htk
 refine jB<|kx [(14, (vb (decide (((i : Nat) : Int) < ((qs.length : Nat) : Int)))))] [] (zE vZ<|zZ) ?_
 refine jB<|jF rfl (fun h1 => ?_) (fun h1 => ?_)
 ·replace h1 := uH h1
  refine jD<|jB<|jG<|jB<|kx [(7, (.ref 3 0))] [(3, some (bx (jH (jM (qs.getD i 0)))))] (zE (oXm qN jM i 0)<|zE (dM jO)<|zN (uU 3 qA qO)<|zT (qM jO)<|zZ) ?_
  refine jB<|jB<|kx [(21, (vb (decide ((yJ (qs.getD i 0) lo) < 0))))] [] (zR (kP jO)<|zE (qD gS)<|zR (kP jO)<|zE (jZ (mM (jM (qs.getD i 0)) (jM lo) (qs.getD i 0) lo (jX (xN hqs (by decide) i)) (jX hlo)))<|zE vZ<|zZ) ?_
  refine jF (b := decide ((yJ (qs.getD i 0) lo) < 0)) rfl (fun h2 => ?_) (fun h2 => ?_)
  ·replace h2 := uH h2
   have hc1 := h2
   refine kx [] [(2, some (bx (jQ (kR.mk (jM (qs.getD i 0)) (jM hi)))))] (zR (kP jO)<|zE (qD gS)<|zT (qM jO)<|zZ) ?_
   refine jB<|kx [(28, (vb (decide (0 < (yJ (qs.getD i 0) hi)))))] [] (zR (kP jO)<|zE (qD gR)<|zR (kP jO)<|zE (jZ (mM (jM (qs.getD i 0)) (jM hi) (qs.getD i 0) hi (jX (xN hqs (by decide) i)) (jX hhi)))<|zE mO<|zZ) ?_
   refine jF (b := decide (0 < (yJ (qs.getD i 0) hi))) rfl (fun h3 => ?_) (fun h3 => ?_)
   ·replace h3 := uH h3
    have hc2 := h3
    refine kx [] [(2, some (bx (jQ (kR.mk (jM (qs.getD i 0)) (jM (qs.getD i 0))))))] (zR (kP jO)<|zE (qD gR)<|zT (qM jO)<|zZ) ?_
    refine kx [(13, (jN (i + 1)))] [] (zE (vG (i + 1))<|zM<|zZ) ?_
    exact ⟨(i + 1, qs.getD i 0, qs.getD i 0), wk, ⟨by omega, mnL_lt (by omega) hl hc1, mxL_gt (by omega) hh hc2⟩, (by first|omega|(dsimp only;omega))⟩
   ·replace h3 := vB h3
    have hc2 := h3
    refine jD<|kx [(13, (jN (i + 1)))] [] (zE (vG (i + 1))<|zM<|zZ) ?_
    exact ⟨(i + 1, qs.getD i 0, hi), wk, ⟨by omega, mnL_lt (by omega) hl hc1, mxL_le (by omega) hh hc2⟩, (by first|omega|(dsimp only;omega))⟩
  ·replace h2 := vB h2
   have hc1 := h2
   refine jD<|jB<|kx [(28, (vb (decide (0 < (yJ (qs.getD i 0) hi)))))] [] (zR (kP jO)<|zE (qD gR)<|zR (kP jO)<|zE (jZ (mM (jM (qs.getD i 0)) (jM hi) (qs.getD i 0) hi (jX (xN hqs (by decide) i)) (jX hhi)))<|zE mO<|zZ) ?_
   refine jF (b := decide (0 < (yJ (qs.getD i 0) hi))) rfl (fun h4 => ?_) (fun h4 => ?_)
   ·replace h4 := uH h4
    have hc2 := h4
    refine kx [] [(2, some (bx (jQ (kR.mk (jM lo) (jM (qs.getD i 0))))))] (zR (kP jO)<|zE (qD gR)<|zT (qM jO)<|zZ) ?_
    refine kx [(13, (jN (i + 1)))] [] (zE (vG (i + 1))<|zM<|zZ) ?_
    exact ⟨(i + 1, lo, qs.getD i 0), wk, ⟨by omega, mnL_ge (by omega) hl hc1, mxL_gt (by omega) hh hc2⟩, (by first|omega|(dsimp only;omega))⟩
   ·replace h4 := vB h4
    have hc2 := h4
    refine jD<|kx [(13, (jN (i + 1)))] [] (zE (vG (i + 1))<|zM<|zZ) ?_
    exact ⟨(i + 1, lo, hi), wk, ⟨by omega, mnL_ge (by omega) hl hc1, mxL_le (by omega) hh hc2⟩, (by first|omega|(dsimp only;omega))⟩
 ·replace h1 := vB h1
  have hie : i = qs.length := by omega
  rw [hie, List.take_length] at hl hh
  refine kC<|jB<|kx [] [(1, some (bx (jQ (kR.mk (jM lo) (jM hi)))))] (zR (kP uA)<|zT (qM uA)<|zZ) ?_
  refine jE ⟨_, (kU (cs := (bx (jQ (kR.mk (jM lo) (jM hi))))) (d := (jQ (kR.mk (jM lo) (jM hi)))) rfl rfl uA rfl rfl .nil), ?_⟩
  rw [hl, hh]; rfl
theorem i_cornersM (p q r s : Rat) (hp : QL p 1073741824) (hq : QL q 1073741824) (hr : QL r 1073741824) (hs : QL s 1073741824) : jT Tryz.prog 164 [(.val (.func (.func 82) #[] #[])), (jQ (kR.mk (jM p) (jM q))), (jQ (kR.mk (jM r) (jM s)))] (jQ (kR.mk (jM (mnL (p * r) [(p * s), (q * r), (q * s)])) (jM (mxL (p * r) [(p * s), (q * r), (q * s)])))) := by
 refine jJ Tryz.func164 rfl cb164 rfl ?_
 show qR _ _ _ _ ⟨[(0, (.d (.val (.func (.func 82) #[] #[])))), (1, (.d (jQ (kR.mk (jM p) (jM q))))), (2, (.d (jQ (kR.mk (jM r) (jM s)))))], []⟩
 refine jB<|kx [(4, (.ref 0 0)), (5, (.ref 1 0)), (6, (.ref 2 0))] [(0, some (bx (jQ (kR.mk (jM p) (jM q))))), (1, some (bx (jQ (kR.mk (jM r) (jM s))))), (2, some (bx (jQ (kR.mk kW kW))))] (zN (xA 0)<|zN (xA 1)<|zN (uU 2 xY yC)<|zZ) ?_
 refine jB<|kd [] [(2, some (bx (jQ (kR.mk (jM (mnL (p * r) [(p * s), (q * r), (q * s)])) (jM (mxL (p * r) [(p * s), (q * r), (q * s)]))))))] mo (wM<|wE (qD gS)<|wR (kP jO)<|wE (qD gS)<|wR (kP jO)<|wE (jZ (fV (jM p) (jM r) p r (jP (jX hp) (by decide)) (jP (jX hr) (by decide))))<|wM<|wE (qD gS)<|wR (kP jO)<|wE (qD gR)<|wR (kP jO)<|wE (jZ (fV (jM p) (jM s) p s (jP (jX hp) (by decide)) (jP (jX hs) (by decide))))<|wM<|wE (qD gR)<|wR (kP jO)<|wE (qD gS)<|wR (kP jO)<|wE (jZ (fV (jM q) (jM r) q r (jP (jX hq) (by decide)) (jP (jX hr) (by decide))))<|wM<|wE (qD gR)<|wR (kP jO)<|wE (qD gR)<|wR (kP jO)<|wE (jZ (fV (jM q) (jM s) q s (jP (jX hq) (by decide)) (jP (jX hs) (by decide))))<|wE (gN qN qA qO)<|wE (jZ (i_spanned (p * r) [(p * s), (q * r), (q * s)] (xQ (qF (k := 2147483648) hp hr (by decide)) (by decide)) (List.forall_mem_cons.2 ⟨(xQ (qF (k := 2147483648) hp hs (by decide)) (by decide)), (List.forall_mem_cons.2 ⟨(xQ (qF (k := 2147483648) hq hr (by decide)) (by decide)), (List.forall_mem_cons.2 ⟨(xQ (qF (k := 2147483648) hq hs (by decide)) (by decide)), (fun a h => by cases h)⟩)⟩)⟩) (by simp)))<|wT (qM uA)<|wZ) ?_
 refine jE ⟨_, (kU (cs := (bx (jQ (kR.mk (jM (mnL (p * r) [(p * s), (q * r), (q * s)])) (jM (mxL (p * r) [(p * s), (q * r), (q * s)])))))) (d := (jQ (kR.mk (jM (mnL (p * r) [(p * s), (q * r), (q * s)])) (jM (mxL (p * r) [(p * s), (q * r), (q * s)]))))) rfl rfl uA rfl rfl .nil), ?_⟩
 rfl
theorem i_mul (p q r s : Rat) (hp : QL p 1073741824) (hq : QL q 1073741824) (hr : QL r 1073741824) (hs : QL s 1073741824) (hpq : p ≤ q) (hrs : r ≤ s) : jT Tryz.prog 107 [(jQ (kR.mk (jM p) (jM q))), (jQ (kR.mk (jM r) (jM s)))] (.tup [(jQ (kR.mk (jM (mnL (p * r) [(p * s), (q * r), (q * s)])) (jM (mxL (p * r) [(p * s), (q * r), (q * s)])))), (.val (.int .i64 (0)))]) := by
 refine jJ Tryz.func107 rfl cb107 rfl ?_
 show qR _ _ _ _ ⟨[(0, (.d (jQ (kR.mk (jM p) (jM q))))), (1, (.d (jQ (kR.mk (jM r) (jM s)))))], []⟩
 refine jB<|kx [(2, (.ref 0 0)), (3, (.ref 1 0)), (4, (.ref 2 0))] [(0, some (bx (jQ (kR.mk (jM p) (jM q))))), (1, some (bx (jQ (kR.mk (jM r) (jM s))))), (2, some (bx (jQ (kR.mk kW kW))))] (zN (xA 0)<|zN (xA 1)<|zN (uU 2 xY yC)<|zM<|zZ) ?_
 refine jB<|jB<|kx [(10, (vb false))] [] (zR (kP uA)<|zR (kP uA)<|zE (gN fH xY yC)<|zE (jZ (by have h := i_valids [(kR.mk (jM p) (jM q)), (kR.mk (jM r) (jM s))] (List.forall_mem_cons.2 ⟨(cW (⟨uW (jP (jX hp) (by decide : 1073741824 ≤ 1073741824)), uW (jP (jX hq) (by decide : 1073741824 ≤ 1073741824))⟩) (by decide)), (List.forall_mem_cons.2 ⟨(cW (⟨uW (jP (jX hr) (by decide : 1073741824 ≤ 1073741824)), uW (jP (jX hs) (by decide : 1073741824 ≤ 1073741824))⟩) (by decide)), (fun a h => by cases h)⟩)⟩) (by simp); rw [show List.all [(kR.mk (jM p) (jM q)), (kR.mk (jM r) (jM s))] xR = true from by simp [nO hpq, nO hrs]] at h; exact h))<|zE fC<|zZ) ?_
 refine kZ ?_
 refine jD<|jB<|kx [(5, (jN 0))] [(2, some (bx (jQ (kR.mk (jM (mnL (p * r) [(p * s), (q * r), (q * s)])) (jM (mxL (p * r) [(p * s), (q * r), (q * s)]))))))] (zR (kP uA)<|zR (kP uA)<|zE (jZ (i_cornersM p q r s hp hq hr hs))<|zT (qM uA)<|zM<|zZ) ?_
 refine jE ⟨_, (kU (cs := (bx (jQ (kR.mk (jM (mnL (p * r) [(p * s), (q * r), (q * s)])) (jM (mxL (p * r) [(p * s), (q * r), (q * s)])))))) (d := (jQ (kR.mk (jM (mnL (p * r) [(p * s), (q * r), (q * s)])) (jM (mxL (p * r) [(p * s), (q * r), (q * s)]))))) rfl rfl uA rfl rfl (.tmp (d := (.val (.int .i64 (0)))) rfl .nil)), ?_⟩
 rfl
theorem h_whole (lo hi : Int) (h1 : -9223372036854775808 ≤ lo) (h2 : lo ≤ 9223372036854775807) (h3 : -9223372036854775808 ≤ hi) (h4 : hi ≤ 9223372036854775807) : jT Tryz.prog 66 [(.val (.int .i64 (lo))), (.val (.int .i64 (hi)))] (jQ (kR.mk (jM ((lo : Int) : Rat)) (jM ((hi : Int) : Rat)))) := by
 refine jJ Tryz.func66 rfl cb66 rfl ?_
 show qR _ _ _ _ ⟨[(0, (vi lo)), (1, (vi hi))], []⟩
 refine jB<|kx [(4, (.ref 0 0))] [(0, some (bx (jQ (kR.mk kW kW))))] (zN (uU 0 xY yC)<|zZ) ?_
 refine jB<|kx [] [(0, some (bx (jQ (kR.mk (jM ((lo : Int) : Rat)) (jM ((hi : Int) : Rat))))))] (zM<|zE (jZ (zV lo (by omega) (by omega)))<|zM<|zE (jZ (zV hi (by omega) (by omega)))<|zE (bS pl61 xY yC)<|zT (qM uA)<|zZ) ?_
 refine jE ⟨_, (kU (cs := (bx (jQ (kR.mk (jM ((lo : Int) : Rat)) (jM ((hi : Int) : Rat)))))) (d := (jQ (kR.mk (jM ((lo : Int) : Rat)) (jM ((hi : Int) : Rat))))) rfl rfl uA rfl rfl .nil), ?_⟩
 rfl
theorem h_same (a b : kR) (ha : GOk 4294967296 a) (hb : GOk 4294967296 b) : jT Tryz.prog 38 [(jQ a), (jQ b)] (.val (.bool ((sameG a b)))) := by
 refine jJ Tryz.func38 rfl cb38 rfl ?_
 show qR _ _ _ _ ⟨[(0, (.d (jQ a))), (1, (.d (jQ b)))], []⟩
 refine jB<|kx [(2, (.ref 0 0)), (3, (.ref 1 0))] [(0, some (bx (jQ a))), (1, some (bx (jQ b)))] (zN (xA 0)<|zN (xA 1)<|zM<|zZ) ?_
 refine jB<|kx [(4, (vb (((xR a) && (xR b)) && (cM a.lo b.lo && cM a.hi b.hi))))] [] ?_ ?_
 ·refine zR (kP uA)<|zE (jZ (h_valid a ha))<|zE (oV (vb (xR a)) (qH (by kernel_rfl)))<|?_
  rcases hb1 : (xR a) with _ | _
  ·exact zK<|zK<|zE yM<|zM<|zK<|zK<|zK<|zE yM<|zM<|zZ
  ·refine zR (kP uA)<|zE (jZ (h_valid b hb))<|zE aJ<|zE (oV (vb (true && (xR b))) (qH (by kernel_rfl)))<|?_
   rcases hb2 : (true && (xR b)) with _ | _
   ·exact zK<|zK<|zK<|zE yM<|zM<|zZ
   ·exact zR (kP uA)<|zR (kP uA)<|zE (jZ (g_samerange a b ha hb))<|zE aJ<|zM<|zZ
 refine jE ⟨_, (.tmp (d := (.val (.bool ((((xR a) && (xR b)) && (cM a.lo b.lo && cM a.hi b.hi)))))) rfl .nil), ?_⟩
 rfl
theorem cb92 : callB Tryz.prog 92 = true := by kernel_rfl
theorem cb93 : callB Tryz.prog 93 = true := by kernel_rfl
theorem i_add (p q r s : Rat) (hp : QL p 1073741824) (hq : QL q 1073741824) (hr : QL r 1073741824) (hs : QL s 1073741824) (hpq : p ≤ q) (hrs : r ≤ s) : jT Tryz.prog 92 [(jQ (kR.mk (jM p) (jM q))), (jQ (kR.mk (jM r) (jM s)))] (.tup [(jQ (kR.mk (jM (p + r)) (jM (q + s)))), (.val (.int .i64 (0)))]) := by
 refine jJ Tryz.func92 rfl cb92 rfl ?_
 show qR _ _ _ _ ⟨[(0, (.d (jQ (kR.mk (jM p) (jM q))))), (1, (.d (jQ (kR.mk (jM r) (jM s)))))], []⟩
 refine jB<|kx [(2, (.ref 0 0)), (3, (.ref 1 0)), (4, (.ref 2 0))] [(0, some (bx (jQ (kR.mk (jM p) (jM q))))), (1, some (bx (jQ (kR.mk (jM r) (jM s))))), (2, some (bx (jQ (kR.mk kW kW))))] (zN (xA 0)<|zN (xA 1)<|zN (uU 2 xY yC)<|zM<|zZ) ?_
 refine jB<|jB<|kx [(10, (vb false))] [] (zR (kP uA)<|zR (kP uA)<|zE (gN fH xY yC)<|zE (jZ (by have h := i_valids [(kR.mk (jM p) (jM q)), (kR.mk (jM r) (jM s))] (List.forall_mem_cons.2 ⟨(cW (⟨uW (jP (jX hp) (by decide : 1073741824 ≤ 1073741824)), uW (jP (jX hq) (by decide : 1073741824 ≤ 1073741824))⟩) (by decide)), (List.forall_mem_cons.2 ⟨(cW (⟨uW (jP (jX hr) (by decide : 1073741824 ≤ 1073741824)), uW (jP (jX hs) (by decide : 1073741824 ≤ 1073741824))⟩) (by decide)), (fun a h => by cases h)⟩)⟩) (by simp); rw [show List.all [(kR.mk (jM p) (jM q)), (kR.mk (jM r) (jM s))] xR = true from by simp [nO hpq, nO hrs]] at h; exact h))<|zE fC<|zZ) ?_
 refine kZ ?_
 refine jD<|jB<|kd [(5, (jN 0))] [(2, some (bx (jQ (kR.mk (jM (p + r)) (jM (q + s))))))] mo (wE (qD gS)<|wR (kP jO)<|wE (qD gS)<|wR (kP jO)<|wE (jZ (f_add (jM p) (jM r) p r (jP (jX hp) (by decide)) (jP (jX hr) (by decide))))<|wE (qD gR)<|wR (kP jO)<|wE (qD gR)<|wR (kP jO)<|wE (jZ (f_add (jM q) (jM s) q s (jP (jX hq) (by decide)) (jP (jX hs) (by decide))))<|wE (bS pl61 xY yC)<|wT (qM uA)<|wM<|wZ) ?_
 refine jE ⟨_, (kU (cs := (bx (jQ (kR.mk (jM (p + r)) (jM (q + s)))))) (d := (jQ (kR.mk (jM (p + r)) (jM (q + s))))) rfl rfl uA rfl rfl (.tmp (d := (.val (.int .i64 (0)))) rfl .nil)), ?_⟩
 rfl
theorem i_sub (p q r s : Rat) (hp : QL p 1073741824) (hq : QL q 1073741824) (hr : QL r 1073741824) (hs : QL s 1073741824) (hpq : p ≤ q) (hrs : r ≤ s) : jT Tryz.prog 93 [(jQ (kR.mk (jM p) (jM q))), (jQ (kR.mk (jM r) (jM s)))] (.tup [(jQ (kR.mk (jM (p - s)) (jM (q - r)))), (.val (.int .i64 (0)))]) := by
 refine jJ Tryz.func93 rfl cb93 rfl ?_
 show qR _ _ _ _ ⟨[(0, (.d (jQ (kR.mk (jM p) (jM q))))), (1, (.d (jQ (kR.mk (jM r) (jM s)))))], []⟩
 refine jB<|kx [(2, (.ref 0 0)), (3, (.ref 1 0)), (4, (.ref 2 0))] [(0, some (bx (jQ (kR.mk (jM p) (jM q))))), (1, some (bx (jQ (kR.mk (jM r) (jM s))))), (2, some (bx (jQ (kR.mk kW kW))))] (zN (xA 0)<|zN (xA 1)<|zN (uU 2 xY yC)<|zM<|zZ) ?_
 refine jB<|jB<|kx [(10, (vb false))] [] (zR (kP uA)<|zR (kP uA)<|zE (gN fH xY yC)<|zE (jZ (by have h := i_valids [(kR.mk (jM p) (jM q)), (kR.mk (jM r) (jM s))] (List.forall_mem_cons.2 ⟨(cW (⟨uW (jP (jX hp) (by decide : 1073741824 ≤ 1073741824)), uW (jP (jX hq) (by decide : 1073741824 ≤ 1073741824))⟩) (by decide)), (List.forall_mem_cons.2 ⟨(cW (⟨uW (jP (jX hr) (by decide : 1073741824 ≤ 1073741824)), uW (jP (jX hs) (by decide : 1073741824 ≤ 1073741824))⟩) (by decide)), (fun a h => by cases h)⟩)⟩) (by simp); rw [show List.all [(kR.mk (jM p) (jM q)), (kR.mk (jM r) (jM s))] xR = true from by simp [nO hpq, nO hrs]] at h; exact h))<|zE fC<|zZ) ?_
 refine kZ ?_
 refine jD<|jB<|kd [(5, (jN 0))] [(2, some (bx (jQ (kR.mk (jM (p - s)) (jM (q - r))))))] mo (wE (qD gS)<|wR (kP jO)<|wE (qD gR)<|wR (kP jO)<|wE (jZ (f_sub (jM p) (jM s) p s (jP (jX hp) (by decide)) (jP (jX hs) (by decide))))<|wE (qD gR)<|wR (kP jO)<|wE (qD gS)<|wR (kP jO)<|wE (jZ (f_sub (jM q) (jM r) q r (jP (jX hq) (by decide)) (jP (jX hr) (by decide))))<|wE (bS pl61 xY yC)<|wT (qM uA)<|wM<|wZ) ?_
 refine jE ⟨_, (kU (cs := (bx (jQ (kR.mk (jM (p - s)) (jM (q - r)))))) (d := (jQ (kR.mk (jM (p - s)) (jM (q - r))))) rfl rfl uA rfl rfl (.tmp (d := (.val (.int .i64 (0)))) rfl .nil)), ?_⟩
 rfl
theorem fF : xW Tryz.prog 45 = some 64 := by kernel_rfl
theorem cb23 : callB Tryz.prog 23 = true := by kernel_rfl
theorem g_zero (x : kD) (p : Rat) (hx : mF x p 140737488355328) : jT Tryz.prog 23 [(jH x)] (.val (.bool ((zeroR x)))) := by
 have h1 := hx.n1
 have h2 := hx.n2
 refine jJ Tryz.func23 rfl cb23 rfl ?_
 show qR _ _ _ _ ⟨[(0, (.d (jH x)))], []⟩
 refine jB<|kx [(1, (.ref 0 0))] [(0, some (bx (jH x)))] (zN (xA 0)<|zM<|zZ) ?_
 refine jB<|kx [(2, (vb (((!x.num.neg && !x.den.neg) && (((x.num.gs.length : Nat) : Int) == 0)) && (((x.den.gs.length : Nat) : Int) == 0))))] [] ?_ ?_
 ·refine zE (qD yA)<|zE (qD vJ)<|zR (uL sh4)<|zE fC<|zE (oV (vb (!x.num.neg)) (qH (by kernel_rfl)))<|?_
  rcases hb1 : (!x.num.neg) with _ | _
  ·exact zK<|zK<|zK<|zK<|zE yM<|zM<|zK<|zK<|zK<|zK<|zK<|zE yM<|zM<|zK<|zK<|zK<|zK<|zK<|zE yM<|zM<|zZ
  ·refine zE (qD xE)<|zE (qD vJ)<|zR (uL sh4)<|zE fC<|zE aJ<|zE (oV (vb (true && !x.den.neg)) (qH (by kernel_rfl)))<|?_
   rcases hb2 : (true && !x.den.neg) with _ | _
   ·exact zK<|zK<|zK<|zK<|zK<|zE yM<|zM<|zK<|zK<|zK<|zK<|zK<|zE yM<|zM<|zZ
   ·refine zE (qD yA)<|zE (qD vT)<|zR (uL zG)<|zE (vX kM)<|zE gA<|zE aJ<|zE (oV (vb (true && (((x.num.gs.length : Nat) : Int) == 0))) (qH (by kernel_rfl)))<|?_
    rcases hb3 : (true && (((x.num.gs.length : Nat) : Int) == 0)) with _ | _
    ·exact zK<|zK<|zK<|zK<|zK<|zE yM<|zM<|zZ
    ·exact zE (qD xE)<|zE (qD vT)<|zR (uL zG)<|zE (vX kM)<|zE gA<|zE aJ<|zM<|zZ
 refine jE ⟨_, (.tmp (d := (.val (.bool ((((!x.num.neg && !x.den.neg) && (((x.num.gs.length : Nat) : Int) == 0)) && (((x.den.gs.length : Nat) : Int) == 0)))))) rfl .nil), ?_⟩
 rfl
end Go.Proofs.YtnajallgoaiahaaGreatDoor
