/- Part 20 of a proof: rules, plain facts, and functions walked. -/
import Derived.Test.YtnajallgoaiahaaGreatDoorM19
import Derived.Test.YtnajallgoaiahaaGreatDoorM11
namespace Go.Proofs.YtnajallgoaiahaaGreatDoor
open Go.Fid
set_option maxRecDepth 4000
set_option linter.unusedVariables false
set_option linter.unusedSimpArgs false
theorem cb28 : callB Tryz.prog 28 = true := by kernel_rfl
theorem cb29 : callB Tryz.prog 29 = true := by kernel_rfl
theorem cb30 : callB Tryz.prog 30 = true := by kernel_rfl
theorem cb31 : callB Tryz.prog 31 = true := by kernel_rfl
theorem cb35 : callB Tryz.prog 35 = true := by kernel_rfl
theorem cb54 : callB Tryz.prog 54 = true := by kernel_rfl
theorem cb56 : callB Tryz.prog 56 = true := by kernel_rfl
theorem cb84 : callB Tryz.prog 84 = true := by kernel_rfl
theorem cb85 : callB Tryz.prog 85 = true := by kernel_rfl
theorem cb86 : callB Tryz.prog 86 = true := by kernel_rfl
theorem cb94 : callB Tryz.prog 94 = true := by kernel_rfl
theorem cb95 : callB Tryz.prog 95 = true := by kernel_rfl
theorem g_reduced (num den : jD) (a b : Int) (dZ : vO num a 68719476736) (cH : vO den b 68719476736) (hb : b ≠ 0) : jV Tryz.prog 86 [(jM num), (jM den)] (jK (jT (Rat.divInt a b))) := by
 refine jJ Tryz.func86 rfl cb86 rfl ?_
 show qI _ _ _ _ ⟨[(0, (.d (jM num))), (1, (.d (jM den)))], []⟩
 refine jB <| kx [(2, (.ref 0 0)), (3, (.ref 1 0)), (4, (.ref 2 0))] [(0, some (bx (jM num))), (1, some (bx (jM den))), (2, some (bx (jK (jE.mk (jD.mk false []) (jD.mk false [])))))] (zN (vL 0) <| zN (vL 1) <| zN (qS 2 qX uA) <| zZ) ?_
 refine jB <| kx [(5, (.ref 3 0))] [(3, some (bx (jM (jZ ((Int.gcd a b : Nat) : Int)))))] (zR (kR jS) <| zR (kR jS) <| zE (jX (rs_gcd dZ cH (by decide) (by decide))) <| zN (qS 3 vP vQ) <| zT (qC jS) <| zZ) ?_
 refine jB <| jB <| kx [(17, (vb (decide ((qY b) < 0))))] [] (zR (kR jS) <| zE (jX (rs_sign cH (by decide))) <| zE xK <| zZ) ?_
 refine jH (b := decide ((qY b) < 0)) rfl (fun h1 => ?_) (fun h1 => ?_)
 ·replace h1 := of_decide_eq_true h1
  have hlt := signI_lt.1 h1
  refine kx [] [(3, some (bx (jM (jZ (-(((Int.gcd a b : Nat) : Int)))))))] (zR (kR jS) <| zE (jX (rs_neg (mK (k := 68719476736) dZ cH (by decide)) (by decide))) <| zT (qC jS) <| zZ) ?_
  refine jB <| kx [(6, (.ref 4 0))] [(4, some (bx (jM (jZ (a.fdiv (-(((Int.gcd a b : Nat) : Int)))))))), (5, none)] (zR (kR jS) <| zR (kR jS) <| zE (jX (cA dZ (nQ (mK (k := 68719476736) dZ cH (by decide))) (by decide) (by decide) (by have := gcd_ne (a := a) hb; omega))) <| zM <| zE uZ <| zE uZ <| zE uZ <| zN (qS 4 vP vQ) <| zN (qS 5 vP vQ) <| zT (qC jS) <| zT (qC jS) <| zM <| zZ) ?_
  refine jB <| kx [(9, (.ref 6 0))] [(6, some (bx (jM (jZ (b.fdiv (-(((Int.gcd a b : Nat) : Int)))))))), (7, none)] (zR (kR jS) <| zR (kR jS) <| zE (jX (cA cH (nQ (mK (k := 68719476736) dZ cH (by decide))) (by decide) (by decide) (by have := gcd_ne (a := a) hb; omega))) <| zM <| zE uZ <| zE uZ <| zE uZ <| zN (qS 6 vP vQ) <| zN (qS 7 vP vQ) <| zT (qC jS) <| zT (qC jS) <| zM <| zZ) ?_
  refine jB <| kx [] [(2, some (bx (jK (jE.mk (jZ (a.fdiv (-(((Int.gcd a b : Nat) : Int))))) (jZ (b.fdiv (-(((Int.gcd a b : Nat) : Int)))))))))] (zR (kR jS) <| zR (kR jS) <| zE (eJ pl45 qX uA) <| zT (qC jR) <| zZ) ?_
  refine jG ⟨_, (kU (cs := (bx (jK (jE.mk (jZ (a.fdiv (-(((Int.gcd a b : Nat) : Int))))) (jZ (b.fdiv (-(((Int.gcd a b : Nat) : Int))))))))) (d := (jK (jE.mk (jZ (a.fdiv (-(((Int.gcd a b : Nat) : Int))))) (jZ (b.fdiv (-(((Int.gcd a b : Nat) : Int)))))))) rfl rfl jR rfl rfl .nil), ?_⟩
  rw [← red_neg2 hlt]; rfl
 ·replace h1 := of_decide_eq_false h1
  have hge : ¬ b < 0 := fun hh => h1 (signI_lt.2 hh)
  refine jF <| jB <| kx [(6, (.ref 8 0))] [(8, some (bx (jM (jZ (a.fdiv (((Int.gcd a b : Nat) : Int))))))), (9, none)] (zR (kR jS) <| zR (kR jS) <| zE (jX (cA dZ (mK (k := 68719476736) dZ cH (by decide)) (by decide) (by decide) (by have := gcd_ne (a := a) hb; omega))) <| zM <| zE uZ <| zE uZ <| zE uZ <| zN (qS 8 vP vQ) <| zN (qS 9 vP vQ) <| zT (qC jS) <| zT (qC jS) <| zM <| zZ) ?_
  refine jB <| kx [(9, (.ref 10 0))] [(10, some (bx (jM (jZ (b.fdiv (((Int.gcd a b : Nat) : Int))))))), (11, none)] (zR (kR jS) <| zR (kR jS) <| zE (jX (cA cH (mK (k := 68719476736) dZ cH (by decide)) (by decide) (by decide) (by have := gcd_ne (a := a) hb; omega))) <| zM <| zE uZ <| zE uZ <| zE uZ <| zN (qS 10 vP vQ) <| zN (qS 11 vP vQ) <| zT (qC jS) <| zT (qC jS) <| zM <| zZ) ?_
  refine jB <| kx [] [(2, some (bx (jK (jE.mk (jZ (a.fdiv (((Int.gcd a b : Nat) : Int)))) (jZ (b.fdiv (((Int.gcd a b : Nat) : Int))))))))] (zR (kR jS) <| zR (kR jS) <| zE (eJ pl45 qX uA) <| zT (qC jR) <| zZ) ?_
  refine jG ⟨_, (kU (cs := (bx (jK (jE.mk (jZ (a.fdiv (((Int.gcd a b : Nat) : Int)))) (jZ (b.fdiv (((Int.gcd a b : Nat) : Int)))))))) (d := (jK (jE.mk (jZ (a.fdiv (((Int.gcd a b : Nat) : Int)))) (jZ (b.fdiv (((Int.gcd a b : Nat) : Int))))))) rfl rfl jR rfl rfl .nil), ?_⟩
  rw [red_pos hge hb]; rfl
theorem cP (n : Int) (hlo : -9223372036854775808 ≤ n) (hhi : n ≤ 9223372036854775807) : jV Tryz.prog 95 [(.val (.int .i64 (n)))] (jM (jZ n)) := by
 refine jJ Tryz.func95 rfl cb95 rfl ?_
 show qI _ _ _ _ ⟨[(0, (vi n))], []⟩
 refine jB <| kx [(2, (.ref 0 0))] [(0, some (bx (jM (jD.mk false []))))] (zN (qS 0 vP vQ) <| zZ) ?_
 refine jB <| kx [] [(0, some (bx (jM (jZ n))))] (zM <| zE (jX (r_of n (by omega) (by omega))) <| zT (qC jS) <| zZ) ?_
 refine jG ⟨_, (kU (cs := (bx (jM (jZ n)))) (d := (jM (jZ n))) rfl rfl jS rfl rfl .nil), ?_⟩
 rfl
theorem cK (n : Int) (hlo : -9223372036854775808 ≤ n) (hhi : n ≤ 9223372036854775807) : jV Tryz.prog 56 [(.val (.int .i64 (n)))] (jK (jT ((n : Int) : Rat))) := by
 refine jJ Tryz.func56 rfl cb56 rfl ?_
 show qI _ _ _ _ ⟨[(0, (vi n))], []⟩
 refine jB <| kx [(2, (.ref 0 0))] [(0, some (bx (jK (jE.mk (jD.mk false []) (jD.mk false [])))))] (zN (qS 0 qX uA) <| zZ) ?_
 refine jB <| kx [] [(0, some (bx (jK (jE.mk (jZ n) (jZ 1)))))] (zM <| zE (jX (cP n (by omega) (by omega))) <| zE (jX (cP 1 (by decide) (by decide))) <| zE (eJ pl45 qX uA) <| zT (qC jR) <| zZ) ?_
 refine jG ⟨_, (kU (cs := (bx (jK (jE.mk (jZ n) (jZ 1))))) (d := (jK (jE.mk (jZ n) (jZ 1)))) rfl rfl jR rfl rfl .nil), ?_⟩
 rfl
theorem g_valid (x : jE) (p : Rat) (hx : hH x p 17179869184) : jV Tryz.prog 54 [(jK x)] (.val (.bool ((kP x)))) := by
 refine jJ Tryz.func54 rfl cb54 rfl ?_
 show qI _ _ _ _ ⟨[(0, (.d (jK x)))], []⟩
 refine jB <| kx [(1, (.ref 0 0))] [(0, some (bx (jK x)))] (zN (vL 0) <| zM <| zZ) ?_
 refine jB <| jB <| kx [(18, (vb ((!(uE x.num) || !(uE x.den)) || decide ((qY (jY x.den)) ≤ 0))))] [] ?_ ?_
 ·refine zE (qH xY) <| zR (kR jS) <| zE (jX (r_valid x.num (Nat.le_trans (yH hx.n1).l (by decide)))) <| zE mM <| zE (oV (vb (!(uE x.num))) (kY (by kernel_rfl))) <| ?_
  rcases hb1 : (!(uE x.num)) with _ | _
  ·refine zE (qH vV) <| zR (kR jS) <| zE (jX (r_valid x.den (Nat.le_trans (yH hx.n2).l (by decide)))) <| zE mM <| zE cU <| zE (oV (vb (false || !(uE x.den))) (kY (by kernel_rfl))) <| ?_
   rcases hb2 : (false || !(uE x.den)) with _ | _
   ·exact zE (qH vV) <| zR (kR jS) <| zE (jX (rs_sign (yH hx.n2) (by decide))) <| zE oLe <| zE cU <| zZ
   ·exact zK <| zK <| zK <| zK <| zE vY <| zZ
  ·exact zK <| zK <| zK <| zK <| zE vY <| zM <| zK <| zK <| zK <| zK <| zE vY <| zZ
 refine jH rfl (fun h3 => ?_) (fun h3 => ?_)
 ·refine jB <| kx [(2, (vb false))] [] (zM <| zZ) ?_
  refine jG ⟨_, (.tmp (d := (.val (.bool (false)))) rfl .nil), ?_⟩
  rw [validR_no h3]; rfl
 ·refine jF <| jB <| kx [(2, (vb ((uC (((Int.gcd (jY x.num) (jY x.den) : Nat) : Int)) 1) == 0)))] [] (zE (qH xY) <| zR (kR jS) <| zE (qH vV) <| zR (kR jS) <| zE (jX (rs_gcd (yH hx.n1) (yH hx.n2) (by decide) (by decide))) <| zE (jX (cP 1 (by decide) (by decide))) <| zE (jX (dR (mK (k := 17179869184) (yH hx.n1) (yH hx.n2) (by decide)) (uU (z := 1) (by decide)) (by decide) (by decide))) <| zE nF <| zM <| zZ) ?_
  refine jG ⟨_, (.tmp (d := (.val (.bool (((uC (((Int.gcd (jY x.num) (jY x.den) : Nat) : Int)) 1) == 0))))) rfl .nil), ?_⟩
  rw [validR_yes h3]; rfl
theorem fZ (x : jE) (p : Rat) (hx : hH x p 17179869184) : jV Tryz.prog 84 [(jK x)] (jK (jT p)) := by
 refine jJ Tryz.func84 rfl cb84 rfl ?_
 show qI _ _ _ _ ⟨[(0, (.d (jK x)))], []⟩
 refine jB <| kx [(1, (.ref 0 0)), (2, (.ref 1 0))] [(0, some (bx (jK x))), (1, some (bx (jK (jE.mk (jD.mk false []) (jD.mk false [])))))] (zN (vL 0) <| zN (qS 1 qX uA) <| zZ) ?_
 refine jB <| jB <| kx [(4, (vb (kP x)))] [] (zR (kR jR) <| zE (jX (g_valid x p hx)) <| zZ) ?_
 refine jH (b := (kP x)) rfl (fun h1 => ?_) (fun h1 => ?_)
 ·refine jB <| kx [] [(1, some (bx (jK x)))] (zR (kR jR) <| zT (qC jR) <| zZ) ?_
  refine jG ⟨_, (kU (cs := (bx (jK x))) (d := (jK x)) rfl rfl jR rfl rfl .nil), ?_⟩
  rw [← hx.v, ofQ_toQ h1]; rfl
 ·refine jF <| jB <| kx [] [(1, some (bx (jK (jT ((0 : Int) : Rat)))))] (zE (jX (cK 0 (by decide) (by decide))) <| zT (qC jR) <| zZ) ?_
  refine jG ⟨_, (kU (cs := (bx (jK (jT ((0 : Int) : Rat))))) (d := (jK (jT ((0 : Int) : Rat)))) rfl rfl jR rfl rfl .nil), ?_⟩
  rw [← hx.v, toQ_bad h1]; rfl
theorem g_sign (x : jE) (p : Rat) (hx : hH x p 17179869184) : jV Tryz.prog 28 [(jK x)] (.val (.int .i64 ((dA p)))) := by
 refine jJ Tryz.func28 rfl cb28 rfl ?_
 show qI _ _ _ _ ⟨[(0, (.d (jK x)))], []⟩
 refine jB <| kx [(1, (.ref 0 0))] [(0, some (bx (jK x)))] (zN (vL 0) <| zM <| zZ) ?_
 refine jB <| kx [(2, (vi (qY p.num)))] [] (zR (kR jR) <| zE (jX (fZ x p hx)) <| zE (oFv ft45_0 jS) <| zE (jX (rs_sign (uK hx.ql) (by decide))) <| zM <| zZ) ?_
 refine jG ⟨_, (.tmp (d := (.val (.int .i64 ((qY p.num))))) rfl .nil), ?_⟩
 rfl
theorem g_neg (x : jE) (p : Rat) (hx : hH x p 17179869184) : jV Tryz.prog 85 [(jK x)] (jK (jT (-p))) := by
 refine jJ Tryz.func85 rfl cb85 rfl ?_
 show qI _ _ _ _ ⟨[(0, (.d (jK x)))], []⟩
 refine jB <| kx [(1, (.ref 0 0)), (2, (.ref 1 0))] [(0, some (bx (jK x))), (1, some (bx (jK (jE.mk (jD.mk false []) (jD.mk false [])))))] (zN (vL 0) <| zN (qS 1 qX uA) <| zZ) ?_
 refine jB <| kx [(3, (.ref 2 0))] [(2, some (bx (jK (jT p))))] (zR (kR jR) <| zE (jX (fZ x p hx)) <| zN (qS 2 qX uA) <| zT (qC jR) <| zZ) ?_
 refine jB <| kd [] [(1, some (bx (jK (jE.mk (jZ (-p.num)) ((jT p).den)))))] mo (wE (qH xY) <| wR (kR jS) <| wE (jX (rs_neg (uK hx.ql) (by decide))) <| wE (qH vV) <| wR (kR jS) <| wE (eJ pl45 qX uA) <| wT (qC jR) <| wZ) ?_
 refine jG ⟨_, (kU (cs := (bx (jK (jE.mk (jZ (-p.num)) ((jT p).den))))) (d := (jK (jE.mk (jZ (-p.num)) ((jT p).den)))) rfl rfl jR rfl rfl .nil), ?_⟩
 rfl
theorem g_add (x : jE) (y : jE) (p : Rat) (q : Rat) (hx : hH x p 17179869184) (hy : hH y q 17179869184) : jV Tryz.prog 35 [(jK x), (jK y)] (jK (jT (p + q))) := by
 refine jJ Tryz.func35 rfl cb35 rfl ?_
 show qI _ _ _ _ ⟨[(0, (.d (jK x))), (1, (.d (jK y)))], []⟩
 refine jB <| kx [(2, (.ref 0 0)), (3, (.ref 1 0)), (4, (.ref 2 0))] [(0, some (bx (jK x))), (1, some (bx (jK y))), (2, some (bx (jK (jE.mk (jD.mk false []) (jD.mk false [])))))] (zN (vL 0) <| zN (vL 1) <| zN (qS 2 qX uA) <| zZ) ?_
 refine jB <| kx [(5, (.ref 3 0))] [(3, some (bx (jK (jT p))))] (zR (kR jR) <| zE (jX (fZ x p hx)) <| zN (qS 3 qX uA) <| zT (qC jR) <| zZ) ?_
 refine jB <| kx [(6, (.ref 4 0))] [(4, some (bx (jK (jT q))))] (zR (kR jR) <| zE (jX (fZ y q hy)) <| zN (qS 4 qX uA) <| zT (qC jR) <| zZ) ?_
 refine jB <| kd [] [(2, some (bx (jK (jT (Rat.divInt ((p.num * (q.den : Int)) + (q.num * (p.den : Int))) ((p.den : Int) * (q.den : Int)))))))] mo (wE (qH xY) <| wR (kR jS) <| wE (qH vV) <| wR (kR jS) <| wE (jX (rs_mul (uK hx.ql) (uB hy.ql) (by decide) (by decide))) <| wE (qH xY) <| wR (kR jS) <| wE (qH vV) <| wR (kR jS) <| wE (jX (rs_mul (uK hy.ql) (uB hx.ql) (by decide) (by decide))) <| wE (jX (rs_add (zV (k := 34359738368) (uK hx.ql) (uB hy.ql) (by decide)) (zV (k := 34359738368) (uK hy.ql) (uB hx.ql) (by decide)) (by decide) (by decide))) <| wE (qH vV) <| wR (kR jS) <| wE (qH vV) <| wR (kR jS) <| wE (jX (rs_mul (uB hx.ql) (uB hy.ql) (by decide) (by decide))) <| wE (jX (g_reduced (jZ ((p.num * (q.den : Int)) + (q.num * (p.den : Int)))) (jZ ((p.den : Int) * (q.den : Int))) ((p.num * (q.den : Int)) + (q.num * (p.den : Int))) ((p.den : Int) * (q.den : Int)) (yS (gU (k := 34359738369) (zV (k := 34359738368) (uK hx.ql) (uB hy.ql) (by decide)) (zV (k := 34359738368) (uK hy.ql) (uB hx.ql) (by decide)) (by decide)) (by decide)) (yS (zV (k := 34359738368) (uB hx.ql) (uB hy.ql) (by decide)) (by decide)) (mul_ne (den_ne _) (den_ne _)))) <| wT (qC jR) <| wZ) ?_
 refine jG ⟨_, (kU (cs := (bx (jK (jT (Rat.divInt ((p.num * (q.den : Int)) + (q.num * (p.den : Int))) ((p.den : Int) * (q.den : Int))))))) (d := (jK (jT (Rat.divInt ((p.num * (q.den : Int)) + (q.num * (p.den : Int))) ((p.den : Int) * (q.den : Int)))))) rfl rfl jR rfl rfl .nil), ?_⟩
 rw [add_divInt]; rfl
theorem g_sub (x : jE) (y : jE) (p : Rat) (q : Rat) (hx : hH x p 17179869184) (hy : hH y q 17179869184) : jV Tryz.prog 29 [(jK x), (jK y)] (jK (jT (p - q))) := by
 refine jJ Tryz.func29 rfl cb29 rfl ?_
 show qI _ _ _ _ ⟨[(0, (.d (jK x))), (1, (.d (jK y)))], []⟩
 refine jB <| kx [(2, (.ref 0 0)), (3, (.ref 1 0)), (4, (.ref 2 0))] [(0, some (bx (jK x))), (1, some (bx (jK y))), (2, some (bx (jK (jE.mk (jD.mk false []) (jD.mk false [])))))] (zN (vL 0) <| zN (vL 1) <| zN (qS 2 qX uA) <| zZ) ?_
 refine jB <| kd [] [(2, some (bx (jK (jT (p + (-q))))))] mo (wR (kR jR) <| wR (kR jR) <| wE (jX (g_neg y q hy)) <| wE (jX (g_add x (jT (-q)) p (-q) hx (kA (ql_neg hy.ql)))) <| wT (qC jR) <| wZ) ?_
 refine jG ⟨_, (kU (cs := (bx (jK (jT (p + (-q)))))) (d := (jK (jT (p + (-q))))) rfl rfl jR rfl rfl .nil), ?_⟩
 rw [Rat.sub_eq_add_neg]; rfl
theorem g_mul (x : jE) (y : jE) (p : Rat) (q : Rat) (hx : hH x p 17179869184) (hy : hH y q 17179869184) : jV Tryz.prog 31 [(jK x), (jK y)] (jK (jT (p * q))) := by
 refine jJ Tryz.func31 rfl cb31 rfl ?_
 show qI _ _ _ _ ⟨[(0, (.d (jK x))), (1, (.d (jK y)))], []⟩
 refine jB <| kx [(2, (.ref 0 0)), (3, (.ref 1 0)), (4, (.ref 2 0))] [(0, some (bx (jK x))), (1, some (bx (jK y))), (2, some (bx (jK (jE.mk (jD.mk false []) (jD.mk false [])))))] (zN (vL 0) <| zN (vL 1) <| zN (qS 2 qX uA) <| zZ) ?_
 refine jB <| kx [(5, (.ref 3 0))] [(3, some (bx (jK (jT p))))] (zR (kR jR) <| zE (jX (fZ x p hx)) <| zN (qS 3 qX uA) <| zT (qC jR) <| zZ) ?_
 refine jB <| kx [(6, (.ref 4 0))] [(4, some (bx (jK (jT q))))] (zR (kR jR) <| zE (jX (fZ y q hy)) <| zN (qS 4 qX uA) <| zT (qC jR) <| zZ) ?_
 refine jB <| kd [] [(2, some (bx (jK (jT (Rat.divInt (p.num * q.num) ((p.den : Int) * (q.den : Int)))))))] mo (wE (qH xY) <| wR (kR jS) <| wE (qH xY) <| wR (kR jS) <| wE (jX (rs_mul (uK hx.ql) (uK hy.ql) (by decide) (by decide))) <| wE (qH vV) <| wR (kR jS) <| wE (qH vV) <| wR (kR jS) <| wE (jX (rs_mul (uB hx.ql) (uB hy.ql) (by decide) (by decide))) <| wE (jX (g_reduced (jZ (p.num * q.num)) (jZ ((p.den : Int) * (q.den : Int))) (p.num * q.num) ((p.den : Int) * (q.den : Int)) (yS (zV (k := 34359738368) (uK hx.ql) (uK hy.ql) (by decide)) (by decide)) (yS (zV (k := 34359738368) (uB hx.ql) (uB hy.ql) (by decide)) (by decide)) (mul_ne (den_ne _) (den_ne _)))) <| wT (qC jR) <| wZ) ?_
 refine jG ⟨_, (kU (cs := (bx (jK (jT (Rat.divInt (p.num * q.num) ((p.den : Int) * (q.den : Int))))))) (d := (jK (jT (Rat.divInt (p.num * q.num) ((p.den : Int) * (q.den : Int)))))) rfl rfl jR rfl rfl .nil), ?_⟩
 rw [mul_divInt]; rfl
theorem g_compare (x : jE) (y : jE) (p : Rat) (q : Rat) (hx : hH x p 4294967296) (hy : hH y q 4294967296) : jV Tryz.prog 30 [(jK x), (jK y)] (.val (.int .i64 ((xC p q)))) := by
 refine jJ Tryz.func30 rfl cb30 rfl ?_
 show qI _ _ _ _ ⟨[(0, (.d (jK x))), (1, (.d (jK y)))], []⟩
 refine jB <| kx [(2, (.ref 0 0)), (3, (.ref 1 0))] [(0, some (bx (jK x))), (1, some (bx (jK y)))] (zN (vL 0) <| zN (vL 1) <| zM <| zZ) ?_
 refine jB <| kx [(4, (vi (dA (p - q))))] [] (zR (kR jR) <| zR (kR jR) <| zE (jX (g_sub x y p q (jP hx (by decide)) (jP hy (by decide)))) <| zE (jX (g_sign (jT (p - q)) (p - q) (jP (kA (yF (k := 8589934593) hx.ql hy.ql (by decide))) (by decide)))) <| zM <| zZ) ?_
 refine jG ⟨_, (.tmp (d := (.val (.int .i64 ((dA (p - q)))))) rfl .nil), ?_⟩
 rw [← signQ_sub]; rfl
end Go.Proofs.YtnajallgoaiahaaGreatDoor
namespace Go.Proofs.YtnajallgoaiahaaGreatDoor
open Go.Fid
set_option maxRecDepth 4000
set_option linter.unusedVariables false
set_option linter.unusedSimpArgs false
theorem cb24 : callB Tryz.prog 24 = true := by kernel_rfl
theorem cb26 : callB Tryz.prog 26 = true := by kernel_rfl
theorem cb99 : callB Tryz.prog 99 = true := by kernel_rfl
theorem xL : zU Tryz.prog 61 0 = some 0 := by kernel_rfl
theorem xT : zU Tryz.prog 61 1 = some 4 := by kernel_rfl
theorem g_same (x : jE) (y : jE) (p : Rat) (q : Rat) (hx : hH x p 4294967296) (hy : hH y q 4294967296) : jV Tryz.prog 24 [(jK x), (jK y)] (.val (.bool ((gM x y)))) := by
 refine jJ Tryz.func24 rfl cb24 rfl ?_
 show qI _ _ _ _ ⟨[(0, (.d (jK x))), (1, (.d (jK y)))], []⟩
 refine jB <| kx [(2, (.ref 0 0)), (3, (.ref 1 0))] [(0, some (bx (jK x))), (1, some (bx (jK y)))] (zN (vL 0) <| zN (vL 1) <| zM <| zZ) ?_
 refine jB <| kx [(4, (vb (((kP x) && (kP y)) && ((xC p q) == 0))))] [] ?_ ?_
 ·refine zR (kR jR) <| zE (jX (g_valid x p (jP hx (by decide)))) <| zE (oV (vb (kP x)) (kY (by kernel_rfl))) <| ?_
  rcases hb1 : (kP x) with _ | _
  ·exact zK <| zK <| zE yI <| zM <| zK <| zK <| zK <| zK <| zE yI <| zM <| zZ
  ·refine zR (kR jR) <| zE (jX (g_valid y q (jP hy (by decide)))) <| zE eV <| zE (oV (vb (true && (kP y))) (kY (by kernel_rfl))) <| ?_
   rcases hb2 : (true && (kP y)) with _ | _
   ·exact zK <| zK <| zK <| zK <| zE yI <| zM <| zZ
   ·exact zR (kR jR) <| zR (kR jR) <| zE (jX (g_compare x y p q hx hy)) <| zE nF <| zE eV <| zM <| zZ
 refine jG ⟨_, (.tmp (d := (.val (.bool ((((kP x) && (kP y)) && ((xC p q) == 0)))))) rfl .nil), ?_⟩
 unfold gM
 rw [← sameR_eq, hx.v, hy.v]; rfl
theorem g_digits (x : jE) (p : Rat) (hx : hH x p 140737488355328) : jV Tryz.prog 26 [(jK x)] (.val (.int .i64 ((((digR x) : Nat) : Int)))) := by
 have h1 := hx.n1
 have h2 := hx.n2
 refine jJ Tryz.func26 rfl cb26 rfl ?_
 show qI _ _ _ _ ⟨[(0, (.d (jK x)))], []⟩
 refine jB <| kx [(1, (.ref 0 0))] [(0, some (bx (jK x)))] (zN (vL 0) <| zM <| zZ) ?_
 refine jB <| kx [(2, (jW (x.num.gs.length + x.den.gs.length)))] [] (zE (qH xY) <| zE (qH uR) <| zR (qP xG) <| zE (vG kJ) <| zE (qH vV) <| zE (qH uR) <| zR (qP xG) <| zE (vG kJ) <| zE (vU (x.num.gs.length + x.den.gs.length)) <| zM <| zZ) ?_
 refine jG ⟨_, (.tmp (d := (.val (.int .i64 ((((x.num.gs.length + x.den.gs.length) : Nat) : Int))))) rfl .nil), ?_⟩
 rfl
theorem g_samerange (a b : kG) (ha : GOk 4294967296 a) (hb : GOk 4294967296 b) : jV Tryz.prog 99 [(jO a), (jO b)] (.val (.bool ((gM a.lo b.lo && gM a.hi b.hi)))) := by
 refine jJ Tryz.func99 rfl cb99 rfl ?_
 show qI _ _ _ _ ⟨[(0, (.d (jO a))), (1, (.d (jO b)))], []⟩
 refine jB <| kx [(2, (.ref 0 0)), (3, (.ref 1 0))] [(0, some (bx (jO a))), (1, some (bx (jO b)))] (zN (vL 0) <| zN (vL 1) <| zM <| zZ) ?_
 refine jB <| kx [(4, (vb ((gM a.lo b.lo) && (gM a.hi b.hi))))] [] ?_ ?_
 ·refine zE (qH xL) <| zR (kR jR) <| zE (qH xL) <| zR (kR jR) <| zE (jX (g_same a.lo b.lo (jN a.lo) (jN b.lo) ha.1 hb.1)) <| zE (oV (vb (gM a.lo b.lo)) (kY (by kernel_rfl))) <| ?_
  rcases hb1 : (gM a.lo b.lo) with _ | _
  ·exact zK <| zK <| zK <| zK <| zK <| zE yI <| zM <| zZ
  ·exact zE (qH xT) <| zR (kR jR) <| zE (qH xT) <| zR (kR jR) <| zE (jX (g_same a.hi b.hi (jN a.hi) (jN b.hi) ha.2 hb.2)) <| zE eV <| zM <| zZ
 refine jG ⟨_, (.tmp (d := (.val (.bool (((gM a.lo b.lo) && (gM a.hi b.hi)))))) rfl .nil), ?_⟩
 rfl
end Go.Proofs.YtnajallgoaiahaaGreatDoor
namespace Go.Proofs.YtnajallgoaiahaaGreatDoor
open Go.Fid
set_option maxRecDepth 4000
set_option linter.unusedVariables false
set_option linter.unusedSimpArgs false
theorem cb38 : callB Tryz.prog 38 = true := by kernel_rfl
theorem cb66 : callB Tryz.prog 66 = true := by kernel_rfl
theorem cb98 : callB Tryz.prog 98 = true := by kernel_rfl
theorem cb107 : callB Tryz.prog 107 = true := by kernel_rfl
theorem cb125 : callB Tryz.prog 125 = true := by kernel_rfl
theorem cb152 : callB Tryz.prog 152 = true := by kernel_rfl
theorem cb164 : callB Tryz.prog 164 = true := by kernel_rfl
theorem cb165 : callB Tryz.prog 165 = true := by kernel_rfl
theorem uN : uV Tryz.prog 24 = some (45, 4) := by kernel_rfl
theorem eA : uV Tryz.prog 86 = some (61, 8) := by kernel_rfl
theorem pl61 : dC Tryz.prog 61 = some [(0, 4), (4, 4)] := by kernel_rfl
theorem kZ : qO Tryz.prog 61 = some (true, 8) := by kernel_rfl
theorem uO : xP Tryz.prog 61 = some [.bool false, .slice none 0 0, .bool false, .slice none 0 0, .bool false, .slice none 0 0, .bool false, .slice none 0 0] := by kernel_rfl
theorem uY : fS [.bool false, .slice none 0 0, .bool false, .slice none 0 0, .bool false, .slice none 0 0, .bool false, .slice none 0 0] [.val (.bool false), .sl 140 1 [], .val (.bool false), .sl 140 1 [], .val (.bool false), .sl 140 1 [], .val (.bool false), .sl 140 1 []] := by simp [fS, Value.oneCell']
theorem h_valid (a : kG) (ha : GOk 4294967296 a) : jV Tryz.prog 98 [(jO a)] (.val (.bool ((xN a)))) := by
 refine jJ Tryz.func98 rfl cb98 rfl ?_
 show qI _ _ _ _ ⟨[(0, (.d (jO a)))], []⟩
 refine jB <| kx [(1, (.ref 0 0))] [(0, some (bx (jO a)))] (zN (vL 0) <| zM <| zZ) ?_
 refine jB <| kx [(2, (vb (((kP a.lo) && (kP a.hi)) && decide ((xC (jN a.lo) (jN a.hi)) ≤ 0))))] [] ?_ ?_
 ·refine zE (qH xL) <| zR (kR jR) <| zE (jX (g_valid a.lo (jN a.lo) (jP ha.1 (by decide)))) <| zE (oV (vb (kP a.lo)) (kY (by kernel_rfl))) <| ?_
  rcases hb1 : (kP a.lo) with _ | _
  ·exact zK <| zK <| zK <| zE yI <| zM <| zK <| zK <| zK <| zK <| zK <| zK <| zE yI <| zM <| zZ
  ·refine zE (qH xT) <| zR (kR jR) <| zE (jX (g_valid a.hi (jN a.hi) (jP ha.2 (by decide)))) <| zE eV <| zE (oV (vb (true && (kP a.hi))) (kY (by kernel_rfl))) <| ?_
   rcases hb2 : (true && (kP a.hi)) with _ | _
   ·exact zK <| zK <| zK <| zK <| zK <| zK <| zE yI <| zM <| zZ
   ·exact zE (qH xL) <| zR (kR jR) <| zE (qH xT) <| zR (kR jR) <| zE (jX (g_compare a.lo a.hi (jN a.lo) (jN a.hi) ha.1 ha.2)) <| zE oLe <| zE eV <| zM <| zZ
 refine jG ⟨_, (.tmp (d := (.val (.bool ((((kP a.lo) && (kP a.hi)) && decide ((xC (jN a.lo) (jN a.hi)) ≤ 0)))))) rfl .nil), ?_⟩
 rw [validG_eq]; rfl
theorem i_valid (a : kG) (ha : GOk 4294967296 a) : jV Tryz.prog 125 [(jO a)] (.val (.bool ((xN a)))) := by
 refine jJ Tryz.func125 rfl cb125 rfl ?_
 show qI _ _ _ _ ⟨[(0, (.d (jO a)))], []⟩
 refine jB <| kx [(1, (.ref 0 0))] [(0, some (bx (jO a)))] (zN (vL 0) <| zM <| zZ) ?_
 refine jB <| kx [(2, (vb (((kP a.lo) && (kP a.hi)) && decide ((xC (jN a.lo) (jN a.hi)) ≤ 0))))] [] ?_ ?_
 ·refine zE (qH xL) <| zR (kR jR) <| zE (jX (nR a.lo (jN a.lo) (jP ha.1 (by decide)))) <| zE (oV (vb (kP a.lo)) (kY (by kernel_rfl))) <| ?_
  rcases hb1 : (kP a.lo) with _ | _
  ·exact zK <| zK <| zK <| zE yI <| zM <| zK <| zK <| zK <| zK <| zK <| zK <| zE yI <| zM <| zZ
  ·refine zE (qH xT) <| zR (kR jR) <| zE (jX (nR a.hi (jN a.hi) (jP ha.2 (by decide)))) <| zE eV <| zE (oV (vb (true && (kP a.hi))) (kY (by kernel_rfl))) <| ?_
   rcases hb2 : (true && (kP a.hi)) with _ | _
   ·exact zK <| zK <| zK <| zK <| zK <| zK <| zE yI <| zM <| zZ
   ·exact zE (qH xL) <| zR (kR jR) <| zE (qH xT) <| zR (kR jR) <| zE (jX (mG a.lo a.hi (jN a.lo) (jN a.hi) (jP ha.1 (by decide)) (jP ha.2 (by decide)))) <| zE oLe <| zE eV <| zM <| zZ
 refine jG ⟨_, (.tmp (d := (.val (.bool ((((kP a.lo) && (kP a.hi)) && decide ((xC (jN a.lo) (jN a.hi)) ≤ 0)))))) rfl .nil), ?_⟩
 rw [validG_eq]; rfl
theorem i_valids (l : List kG) (hl : ∀ a ∈ l, GOk 4294967296 a) (hb : l.length ≤ 1000000) : jV Tryz.prog 152 [(.sl 61 8 (List.map jO l))] (.val (.bool ((l.all xN)))) := by
 let y1 := (kG.mk (jE.mk (jD.mk false []) (jD.mk false [])) (jE.mk (jD.mk false []) (jD.mk false [])))
 refine jJ Tryz.func152 rfl cb152 rfl ?_
 show qI _ _ _ _ ⟨[(0, (vl 61 8 jO l))], []⟩
 refine jB <| kx [] [] (zM <| zZ) ?_
 refine jB <| jB <| kx [(5, (vl 61 8 jO l)), (6, (jW l.length)), (7, (jW 0))] [] (zM <| zE (vG eA) <| zM <| zZ) ?_
 refine jI <| kN (α := Nat) (fun i => ⟨[(5, (vl 61 8 jO l)), (6, (jW l.length)), (7, (jW i))], []⟩) (fun i => i ≤ l.length ∧ (l.take i).all xN = true) (fun i => l.length - i) 0 wk ⟨Nat.zero_le _, by simp⟩ ?_
 rintro i ⟨hi, hv⟩
 refine jB <| kx [(8, (vb (decide (((i : Nat) : Int) < ((l.length : Nat) : Int)))))] [] (zE xK <| zZ) ?_
 refine jB <| jH rfl (fun h1 => ?_) (fun h1 => ?_)
 ·replace h1 := of_decide_eq_true h1
  refine jF <| jB <| jI <| jB <| kx [(4, (.ref 0 0))] [(0, some (bx (jO (l.getD i y1))))] (zE (xM eA i y1) <| zE (dK kZ) <| zN (qS 0 uO uY) <| zT (qC kZ) <| zZ) ?_
  refine jB <| kx [(13, (vb (!(xN (l.getD i y1)))))] [] (zR (kR kZ) <| zE (jX (i_valid (l.getD i y1) (gok_get hl (show i < l.length by omega)))) <| zE mM <| zZ) ?_
  refine jH rfl (fun h2 => ?_) (fun h2 => ?_)
  ·refine jB <| kx [(2, (vb false))] [] (zM <| zZ) ?_
   refine jG ⟨_, (.tmp (d := (.val (.bool (false)))) rfl .nil), ?_⟩
   rw [all_not (f := xN) (l := l) (i := i) (d := (kG.mk (jE.mk (jD.mk false []) (jD.mk false [])) (jE.mk (jD.mk false []) (jD.mk false [])))) (by omega) (by simpa using h2)]; rfl
  ·refine jF <| kx [(7, (jW (i + 1)))] [] (zE (vU (i + 1)) <| zM <| zZ) ?_
   exact ⟨(i + 1), wk, ⟨by omega, all_take (d := (kG.mk (jE.mk (jD.mk false []) (jD.mk false [])) (jE.mk (jD.mk false []) (jD.mk false [])))) (by omega) hv (by simpa using h2)⟩, (by first | omega | (dsimp only; omega))⟩
 ·replace h1 := of_decide_eq_false h1
  have hie : i = l.length := by omega
  rw [hie, List.take_length] at hv
  refine kL <| jB <| kx [(2, (vb true))] [] (zM <| zZ) ?_
  refine jG ⟨_, (.tmp (d := (.val (.bool (true)))) rfl .nil), ?_⟩
  rw [hv]; rfl
theorem i_spanned (p : Rat) (qs : List Rat) (hp : QL p 17179869184) (hqs : ∀ q ∈ qs, QL q 17179869184) (hb : qs.length ≤ 1000000) : jV Tryz.prog 165 [(jK (jT p)), (.sl 45 4 (List.map jK (List.map jT qs)))] (jO (kG.mk (jT (mnL p qs)) (jT (mxL p qs)))) := by
 refine jJ Tryz.func165 rfl cb165 rfl ?_
 show qI _ _ _ _ ⟨[(0, (.d (jK (jT p)))), (1, (vl 45 4 jK (List.map jT qs)))], []⟩
 refine jB <| kx [(2, (.ref 0 0)), (4, (.ref 1 0))] [(0, some (bx (jK (jT p)))), (1, some (bx (jO (kG.mk (jE.mk (jD.mk false []) (jD.mk false [])) (jE.mk (jD.mk false []) (jD.mk false []))))))] (zN (vL 0) <| zN (qS 1 uO uY) <| zZ) ?_
 refine jB <| kx [(5, (.ref 2 0))] [(2, some (bx (jO (kG.mk (jT p) (jT p)))))] (zR (kR jR) <| zR (kR jR) <| zE (eJ pl61 uO uY) <| zN (qS 2 uO uY) <| zT (qC kZ) <| zZ) ?_
 refine jB <| jB <| kx [(11, (vl 45 4 jK (List.map jT qs))), (12, (jW qs.length)), (13, (jW 0))] [] (zM <| zE (oLn uN qs.length) <| zM <| zZ) ?_
 refine jI <| kN (α := Nat × Rat × Rat) (fun (i, lo, hi) => ⟨[(4, (.ref 1 0)), (5, (.ref 2 0)), (11, (vl 45 4 jK (List.map jT qs))), (12, (jW qs.length)), (13, (jW i))], [(1, some (bx (jO (kG.mk (jE.mk (jD.mk false []) (jD.mk false [])) (jE.mk (jD.mk false []) (jD.mk false [])))))), (2, some (bx (jO (kG.mk (jT lo) (jT hi)))))]⟩) (fun (i, lo, hi) => i ≤ qs.length ∧ lo = mnL p (qs.take i) ∧ hi = mxL p (qs.take i)) (fun (i, lo, hi) => qs.length - i) (0, p, p) wk ⟨Nat.zero_le _, rfl, rfl⟩ ?_
 rintro ⟨i, lo, hi⟩ ⟨hi1, hl, hh⟩
 have htk : ∀ q ∈ qs.take i, QL q 17179869184 := fun q hq => hqs q (List.mem_of_mem_take hq)
 have hlo : QL lo 17179869184 := by rw [hl]; exact ql_mnL hp htk
 have hhi : QL hi 17179869184 := by rw [hh]; exact ql_mxL hp htk
 refine jB <| kx [(14, (vb (decide (((i : Nat) : Int) < ((qs.length : Nat) : Int)))))] [] (zE xK <| zZ) ?_
 refine jB <| jH rfl (fun h1 => ?_) (fun h1 => ?_)
 ·replace h1 := of_decide_eq_true h1
  refine jF <| jB <| jI <| jB <| kx [(7, (.ref 3 0))] [(3, some (bx (jK (jT (qs.getD i 0)))))] (zE (oXm uN jT i 0) <| zE (dK jR) <| zN (qS 3 qX uA) <| zT (qC jR) <| zZ) ?_
  refine jB <| jB <| kx [(21, (vb (decide ((xC (qs.getD i 0) lo) < 0))))] [] (zR (kR jR) <| zE (qH xL) <| zR (kR jR) <| zE (jX (mG (jT (qs.getD i 0)) (jT lo) (qs.getD i 0) lo (kA (ql_getD hqs (by decide) i)) (kA hlo))) <| zE xK <| zZ) ?_
  refine jH (b := decide ((xC (qs.getD i 0) lo) < 0)) rfl (fun h2 => ?_) (fun h2 => ?_)
  ·replace h2 := of_decide_eq_true h2
   have hc1 := h2
   refine kx [] [(2, some (bx (jO (kG.mk (jT (qs.getD i 0)) (jT hi)))))] (zR (kR jR) <| zE (qH xL) <| zT (qC jR) <| zZ) ?_
   refine jB <| kx [(28, (vb (decide (0 < (xC (qs.getD i 0) hi)))))] [] (zR (kR jR) <| zE (qH xT) <| zR (kR jR) <| zE (jX (mG (jT (qs.getD i 0)) (jT hi) (qs.getD i 0) hi (kA (ql_getD hqs (by decide) i)) (kA hhi))) <| zE hC <| zZ) ?_
   refine jH (b := decide (0 < (xC (qs.getD i 0) hi))) rfl (fun h3 => ?_) (fun h3 => ?_)
   ·replace h3 := of_decide_eq_true h3
    have hc2 := h3
    refine kx [] [(2, some (bx (jO (kG.mk (jT (qs.getD i 0)) (jT (qs.getD i 0))))))] (zR (kR jR) <| zE (qH xT) <| zT (qC jR) <| zZ) ?_
    refine kx [(13, (jW (i + 1)))] [] (zE (vU (i + 1)) <| zM <| zZ) ?_
    exact ⟨(i + 1, qs.getD i 0, qs.getD i 0), wk, ⟨by omega, mnL_lt (by omega) hl hc1, mxL_gt (by omega) hh hc2⟩, (by first | omega | (dsimp only; omega))⟩
   ·replace h3 := of_decide_eq_false h3
    have hc2 := h3
    refine jF <| kx [(13, (jW (i + 1)))] [] (zE (vU (i + 1)) <| zM <| zZ) ?_
    exact ⟨(i + 1, qs.getD i 0, hi), wk, ⟨by omega, mnL_lt (by omega) hl hc1, mxL_le (by omega) hh hc2⟩, (by first | omega | (dsimp only; omega))⟩
  ·replace h2 := of_decide_eq_false h2
   have hc1 := h2
   refine jF <| jB <| kx [(28, (vb (decide (0 < (xC (qs.getD i 0) hi)))))] [] (zR (kR jR) <| zE (qH xT) <| zR (kR jR) <| zE (jX (mG (jT (qs.getD i 0)) (jT hi) (qs.getD i 0) hi (kA (ql_getD hqs (by decide) i)) (kA hhi))) <| zE hC <| zZ) ?_
   refine jH (b := decide (0 < (xC (qs.getD i 0) hi))) rfl (fun h4 => ?_) (fun h4 => ?_)
   ·replace h4 := of_decide_eq_true h4
    have hc2 := h4
    refine kx [] [(2, some (bx (jO (kG.mk (jT lo) (jT (qs.getD i 0))))))] (zR (kR jR) <| zE (qH xT) <| zT (qC jR) <| zZ) ?_
    refine kx [(13, (jW (i + 1)))] [] (zE (vU (i + 1)) <| zM <| zZ) ?_
    exact ⟨(i + 1, lo, qs.getD i 0), wk, ⟨by omega, mnL_ge (by omega) hl hc1, mxL_gt (by omega) hh hc2⟩, (by first | omega | (dsimp only; omega))⟩
   ·replace h4 := of_decide_eq_false h4
    have hc2 := h4
    refine jF <| kx [(13, (jW (i + 1)))] [] (zE (vU (i + 1)) <| zM <| zZ) ?_
    exact ⟨(i + 1, lo, hi), wk, ⟨by omega, mnL_ge (by omega) hl hc1, mxL_le (by omega) hh hc2⟩, (by first | omega | (dsimp only; omega))⟩
 ·replace h1 := of_decide_eq_false h1
  have hie : i = qs.length := by omega
  rw [hie, List.take_length] at hl hh
  refine kL <| jB <| kx [] [(1, some (bx (jO (kG.mk (jT lo) (jT hi)))))] (zR (kR kZ) <| zT (qC kZ) <| zZ) ?_
  refine jG ⟨_, (kU (cs := (bx (jO (kG.mk (jT lo) (jT hi))))) (d := (jO (kG.mk (jT lo) (jT hi)))) rfl rfl kZ rfl rfl .nil), ?_⟩
  rw [hl, hh]; rfl
theorem i_cornersM (p q r s : Rat) (hp : QL p 1073741824) (hq : QL q 1073741824) (hr : QL r 1073741824) (hs : QL s 1073741824) : jV Tryz.prog 164 [(.val (.func (.func 82) #[] #[])), (jO (kG.mk (jT p) (jT q))), (jO (kG.mk (jT r) (jT s)))] (jO (kG.mk (jT (mnL (p * r) [(p * s), (q * r), (q * s)])) (jT (mxL (p * r) [(p * s), (q * r), (q * s)])))) := by
 refine jJ Tryz.func164 rfl cb164 rfl ?_
 show qI _ _ _ _ ⟨[(0, (.d (.val (.func (.func 82) #[] #[])))), (1, (.d (jO (kG.mk (jT p) (jT q))))), (2, (.d (jO (kG.mk (jT r) (jT s)))))], []⟩
 refine jB <| kx [(4, (.ref 0 0)), (5, (.ref 1 0)), (6, (.ref 2 0))] [(0, some (bx (jO (kG.mk (jT p) (jT q))))), (1, some (bx (jO (kG.mk (jT r) (jT s))))), (2, some (bx (jO (kG.mk (jE.mk (jD.mk false []) (jD.mk false [])) (jE.mk (jD.mk false []) (jD.mk false []))))))] (zN (vL 0) <| zN (vL 1) <| zN (qS 2 uO uY) <| zZ) ?_
 refine jB <| kd [] [(2, some (bx (jO (kG.mk (jT (mnL (p * r) [(p * s), (q * r), (q * s)])) (jT (mxL (p * r) [(p * s), (q * r), (q * s)]))))))] mo (wM <| wE (qH xL) <| wR (kR jR) <| wE (qH xL) <| wR (kR jR) <| wE (jX (eC (jT p) (jT r) p r (jP (kA hp) (by decide)) (jP (kA hr) (by decide)))) <| wM <| wE (qH xL) <| wR (kR jR) <| wE (qH xT) <| wR (kR jR) <| wE (jX (eC (jT p) (jT s) p s (jP (kA hp) (by decide)) (jP (kA hs) (by decide)))) <| wM <| wE (qH xT) <| wR (kR jR) <| wE (qH xL) <| wR (kR jR) <| wE (jX (eC (jT q) (jT r) q r (jP (kA hq) (by decide)) (jP (kA hr) (by decide)))) <| wM <| wE (qH xT) <| wR (kR jR) <| wE (qH xT) <| wR (kR jR) <| wE (jX (eC (jT q) (jT s) q s (jP (kA hq) (by decide)) (jP (kA hs) (by decide)))) <| wE (eI uN qX uA) <| wE (jX (i_spanned (p * r) [(p * s), (q * r), (q * s)] (yA (kM (k := 2147483648) hp hr (by decide)) (by decide)) (List.forall_mem_cons.2 ⟨(yA (kM (k := 2147483648) hp hs (by decide)) (by decide)), (List.forall_mem_cons.2 ⟨(yA (kM (k := 2147483648) hq hr (by decide)) (by decide)), (List.forall_mem_cons.2 ⟨(yA (kM (k := 2147483648) hq hs (by decide)) (by decide)), (fun a h => by cases h)⟩)⟩)⟩) (by simp))) <| wT (qC kZ) <| wZ) ?_
 refine jG ⟨_, (kU (cs := (bx (jO (kG.mk (jT (mnL (p * r) [(p * s), (q * r), (q * s)])) (jT (mxL (p * r) [(p * s), (q * r), (q * s)])))))) (d := (jO (kG.mk (jT (mnL (p * r) [(p * s), (q * r), (q * s)])) (jT (mxL (p * r) [(p * s), (q * r), (q * s)]))))) rfl rfl kZ rfl rfl .nil), ?_⟩
 rfl
theorem i_mul (p q r s : Rat) (hp : QL p 1073741824) (hq : QL q 1073741824) (hr : QL r 1073741824) (hs : QL s 1073741824) (hpq : p ≤ q) (hrs : r ≤ s) : jV Tryz.prog 107 [(jO (kG.mk (jT p) (jT q))), (jO (kG.mk (jT r) (jT s)))] (.tup [(jO (kG.mk (jT (mnL (p * r) [(p * s), (q * r), (q * s)])) (jT (mxL (p * r) [(p * s), (q * r), (q * s)])))), (.val (.int .i64 (0)))]) := by
 refine jJ Tryz.func107 rfl cb107 rfl ?_
 show qI _ _ _ _ ⟨[(0, (.d (jO (kG.mk (jT p) (jT q))))), (1, (.d (jO (kG.mk (jT r) (jT s)))))], []⟩
 refine jB <| kx [(2, (.ref 0 0)), (3, (.ref 1 0)), (4, (.ref 2 0))] [(0, some (bx (jO (kG.mk (jT p) (jT q))))), (1, some (bx (jO (kG.mk (jT r) (jT s))))), (2, some (bx (jO (kG.mk (jE.mk (jD.mk false []) (jD.mk false [])) (jE.mk (jD.mk false []) (jD.mk false []))))))] (zN (vL 0) <| zN (vL 1) <| zN (qS 2 uO uY) <| zM <| zZ) ?_
 refine jB <| jB <| kx [(10, (vb false))] [] (zR (kR kZ) <| zR (kR kZ) <| zE (eI eA uO uY) <| zE (jX (by have h := i_valids [(kG.mk (jT p) (jT q)), (kG.mk (jT r) (jT s))] (List.forall_mem_cons.2 ⟨(yE (⟨qQ (jP (kA hp) (by decide : 1073741824 ≤ 1073741824)), qQ (jP (kA hq) (by decide : 1073741824 ≤ 1073741824))⟩) (by decide)), (List.forall_mem_cons.2 ⟨(yE (⟨qQ (jP (kA hr) (by decide : 1073741824 ≤ 1073741824)), qQ (jP (kA hs) (by decide : 1073741824 ≤ 1073741824))⟩) (by decide)), (fun a h => by cases h)⟩)⟩) (by simp); rw [show List.all [(kG.mk (jT p) (jT q)), (kG.mk (jT r) (jT s))] xN = true from by simp [nB hpq, nB hrs]] at h; exact h)) <| zE mM <| zZ) ?_
 refine qA ?_
 refine jF <| jB <| kx [(5, (jW 0))] [(2, some (bx (jO (kG.mk (jT (mnL (p * r) [(p * s), (q * r), (q * s)])) (jT (mxL (p * r) [(p * s), (q * r), (q * s)]))))))] (zR (kR kZ) <| zR (kR kZ) <| zE (jX (i_cornersM p q r s hp hq hr hs)) <| zT (qC kZ) <| zM <| zZ) ?_
 refine jG ⟨_, (kU (cs := (bx (jO (kG.mk (jT (mnL (p * r) [(p * s), (q * r), (q * s)])) (jT (mxL (p * r) [(p * s), (q * r), (q * s)])))))) (d := (jO (kG.mk (jT (mnL (p * r) [(p * s), (q * r), (q * s)])) (jT (mxL (p * r) [(p * s), (q * r), (q * s)]))))) rfl rfl kZ rfl rfl (.tmp (d := (.val (.int .i64 (0)))) rfl .nil)), ?_⟩
 rfl
theorem h_whole (lo hi : Int) (h1 : -9223372036854775808 ≤ lo) (h2 : lo ≤ 9223372036854775807) (h3 : -9223372036854775808 ≤ hi) (h4 : hi ≤ 9223372036854775807) : jV Tryz.prog 66 [(.val (.int .i64 (lo))), (.val (.int .i64 (hi)))] (jO (kG.mk (jT ((lo : Int) : Rat)) (jT ((hi : Int) : Rat)))) := by
 refine jJ Tryz.func66 rfl cb66 rfl ?_
 show qI _ _ _ _ ⟨[(0, (vi lo)), (1, (vi hi))], []⟩
 refine jB <| kx [(4, (.ref 0 0))] [(0, some (bx (jO (kG.mk (jE.mk (jD.mk false []) (jD.mk false [])) (jE.mk (jD.mk false []) (jD.mk false []))))))] (zN (qS 0 uO uY) <| zZ) ?_
 refine jB <| kx [] [(0, some (bx (jO (kG.mk (jT ((lo : Int) : Rat)) (jT ((hi : Int) : Rat))))))] (zM <| zE (jX (cK lo (by omega) (by omega))) <| zM <| zE (jX (cK hi (by omega) (by omega))) <| zE (eJ pl61 uO uY) <| zT (qC kZ) <| zZ) ?_
 refine jG ⟨_, (kU (cs := (bx (jO (kG.mk (jT ((lo : Int) : Rat)) (jT ((hi : Int) : Rat)))))) (d := (jO (kG.mk (jT ((lo : Int) : Rat)) (jT ((hi : Int) : Rat))))) rfl rfl kZ rfl rfl .nil), ?_⟩
 rfl
theorem h_same (a b : kG) (ha : GOk 4294967296 a) (hb : GOk 4294967296 b) : jV Tryz.prog 38 [(jO a), (jO b)] (.val (.bool ((sameG a b)))) := by
 refine jJ Tryz.func38 rfl cb38 rfl ?_
 show qI _ _ _ _ ⟨[(0, (.d (jO a))), (1, (.d (jO b)))], []⟩
 refine jB <| kx [(2, (.ref 0 0)), (3, (.ref 1 0))] [(0, some (bx (jO a))), (1, some (bx (jO b)))] (zN (vL 0) <| zN (vL 1) <| zM <| zZ) ?_
 refine jB <| kx [(4, (vb (((xN a) && (xN b)) && (gM a.lo b.lo && gM a.hi b.hi))))] [] ?_ ?_
 ·refine zR (kR kZ) <| zE (jX (h_valid a ha)) <| zE (oV (vb (xN a)) (kY (by kernel_rfl))) <| ?_
  rcases hb1 : (xN a) with _ | _
  ·exact zK <| zK <| zE yI <| zM <| zK <| zK <| zK <| zE yI <| zM <| zZ
  ·refine zR (kR kZ) <| zE (jX (h_valid b hb)) <| zE eV <| zE (oV (vb (true && (xN b))) (kY (by kernel_rfl))) <| ?_
   rcases hb2 : (true && (xN b)) with _ | _
   ·exact zK <| zK <| zK <| zE yI <| zM <| zZ
   ·exact zR (kR kZ) <| zR (kR kZ) <| zE (jX (g_samerange a b ha hb)) <| zE eV <| zM <| zZ
 refine jG ⟨_, (.tmp (d := (.val (.bool ((((xN a) && (xN b)) && (gM a.lo b.lo && gM a.hi b.hi)))))) rfl .nil), ?_⟩
 rfl
end Go.Proofs.YtnajallgoaiahaaGreatDoor
namespace Go.Proofs.YtnajallgoaiahaaGreatDoor
open Go.Fid
set_option maxRecDepth 4000
set_option linter.unusedVariables false
set_option linter.unusedSimpArgs false
theorem cb34 : callB Tryz.prog 34 = true := by kernel_rfl
theorem cb92 : callB Tryz.prog 92 = true := by kernel_rfl
theorem cb93 : callB Tryz.prog 93 = true := by kernel_rfl
theorem i_add (p q r s : Rat) (hp : QL p 1073741824) (hq : QL q 1073741824) (hr : QL r 1073741824) (hs : QL s 1073741824) (hpq : p ≤ q) (hrs : r ≤ s) : jV Tryz.prog 92 [(jO (kG.mk (jT p) (jT q))), (jO (kG.mk (jT r) (jT s)))] (.tup [(jO (kG.mk (jT (p + r)) (jT (q + s)))), (.val (.int .i64 (0)))]) := by
 refine jJ Tryz.func92 rfl cb92 rfl ?_
 show qI _ _ _ _ ⟨[(0, (.d (jO (kG.mk (jT p) (jT q))))), (1, (.d (jO (kG.mk (jT r) (jT s)))))], []⟩
 refine jB <| kx [(2, (.ref 0 0)), (3, (.ref 1 0)), (4, (.ref 2 0))] [(0, some (bx (jO (kG.mk (jT p) (jT q))))), (1, some (bx (jO (kG.mk (jT r) (jT s))))), (2, some (bx (jO (kG.mk (jE.mk (jD.mk false []) (jD.mk false [])) (jE.mk (jD.mk false []) (jD.mk false []))))))] (zN (vL 0) <| zN (vL 1) <| zN (qS 2 uO uY) <| zM <| zZ) ?_
 refine jB <| jB <| kx [(10, (vb false))] [] (zR (kR kZ) <| zR (kR kZ) <| zE (eI eA uO uY) <| zE (jX (by have h := i_valids [(kG.mk (jT p) (jT q)), (kG.mk (jT r) (jT s))] (List.forall_mem_cons.2 ⟨(yE (⟨qQ (jP (kA hp) (by decide : 1073741824 ≤ 1073741824)), qQ (jP (kA hq) (by decide : 1073741824 ≤ 1073741824))⟩) (by decide)), (List.forall_mem_cons.2 ⟨(yE (⟨qQ (jP (kA hr) (by decide : 1073741824 ≤ 1073741824)), qQ (jP (kA hs) (by decide : 1073741824 ≤ 1073741824))⟩) (by decide)), (fun a h => by cases h)⟩)⟩) (by simp); rw [show List.all [(kG.mk (jT p) (jT q)), (kG.mk (jT r) (jT s))] xN = true from by simp [nB hpq, nB hrs]] at h; exact h)) <| zE mM <| zZ) ?_
 refine qA ?_
 refine jF <| jB <| kd [(5, (jW 0))] [(2, some (bx (jO (kG.mk (jT (p + r)) (jT (q + s))))))] mo (wE (qH xL) <| wR (kR jR) <| wE (qH xL) <| wR (kR jR) <| wE (jX (f_add (jT p) (jT r) p r (jP (kA hp) (by decide)) (jP (kA hr) (by decide)))) <| wE (qH xT) <| wR (kR jR) <| wE (qH xT) <| wR (kR jR) <| wE (jX (f_add (jT q) (jT s) q s (jP (kA hq) (by decide)) (jP (kA hs) (by decide)))) <| wE (eJ pl61 uO uY) <| wT (qC kZ) <| wM <| wZ) ?_
 refine jG ⟨_, (kU (cs := (bx (jO (kG.mk (jT (p + r)) (jT (q + s)))))) (d := (jO (kG.mk (jT (p + r)) (jT (q + s))))) rfl rfl kZ rfl rfl (.tmp (d := (.val (.int .i64 (0)))) rfl .nil)), ?_⟩
 rfl
theorem i_sub (p q r s : Rat) (hp : QL p 1073741824) (hq : QL q 1073741824) (hr : QL r 1073741824) (hs : QL s 1073741824) (hpq : p ≤ q) (hrs : r ≤ s) : jV Tryz.prog 93 [(jO (kG.mk (jT p) (jT q))), (jO (kG.mk (jT r) (jT s)))] (.tup [(jO (kG.mk (jT (p - s)) (jT (q - r)))), (.val (.int .i64 (0)))]) := by
 refine jJ Tryz.func93 rfl cb93 rfl ?_
 show qI _ _ _ _ ⟨[(0, (.d (jO (kG.mk (jT p) (jT q))))), (1, (.d (jO (kG.mk (jT r) (jT s)))))], []⟩
 refine jB <| kx [(2, (.ref 0 0)), (3, (.ref 1 0)), (4, (.ref 2 0))] [(0, some (bx (jO (kG.mk (jT p) (jT q))))), (1, some (bx (jO (kG.mk (jT r) (jT s))))), (2, some (bx (jO (kG.mk (jE.mk (jD.mk false []) (jD.mk false [])) (jE.mk (jD.mk false []) (jD.mk false []))))))] (zN (vL 0) <| zN (vL 1) <| zN (qS 2 uO uY) <| zM <| zZ) ?_
 refine jB <| jB <| kx [(10, (vb false))] [] (zR (kR kZ) <| zR (kR kZ) <| zE (eI eA uO uY) <| zE (jX (by have h := i_valids [(kG.mk (jT p) (jT q)), (kG.mk (jT r) (jT s))] (List.forall_mem_cons.2 ⟨(yE (⟨qQ (jP (kA hp) (by decide : 1073741824 ≤ 1073741824)), qQ (jP (kA hq) (by decide : 1073741824 ≤ 1073741824))⟩) (by decide)), (List.forall_mem_cons.2 ⟨(yE (⟨qQ (jP (kA hr) (by decide : 1073741824 ≤ 1073741824)), qQ (jP (kA hs) (by decide : 1073741824 ≤ 1073741824))⟩) (by decide)), (fun a h => by cases h)⟩)⟩) (by simp); rw [show List.all [(kG.mk (jT p) (jT q)), (kG.mk (jT r) (jT s))] xN = true from by simp [nB hpq, nB hrs]] at h; exact h)) <| zE mM <| zZ) ?_
 refine qA ?_
 refine jF <| jB <| kd [(5, (jW 0))] [(2, some (bx (jO (kG.mk (jT (p - s)) (jT (q - r))))))] mo (wE (qH xL) <| wR (kR jR) <| wE (qH xT) <| wR (kR jR) <| wE (jX (f_sub (jT p) (jT s) p s (jP (kA hp) (by decide)) (jP (kA hs) (by decide)))) <| wE (qH xT) <| wR (kR jR) <| wE (qH xL) <| wR (kR jR) <| wE (jX (f_sub (jT q) (jT r) q r (jP (kA hq) (by decide)) (jP (kA hr) (by decide)))) <| wE (eJ pl61 uO uY) <| wT (qC kZ) <| wM <| wZ) ?_
 refine jG ⟨_, (kU (cs := (bx (jO (kG.mk (jT (p - s)) (jT (q - r)))))) (d := (jO (kG.mk (jT (p - s)) (jT (q - r))))) rfl rfl kZ rfl rfl (.tmp (d := (.val (.int .i64 (0)))) rfl .nil)), ?_⟩
 rfl
end Go.Proofs.YtnajallgoaiahaaGreatDoor
namespace Go.Proofs.YtnajallgoaiahaaGreatDoor
open Go.Fid
set_option maxRecDepth 4000
set_option linter.unusedVariables false
set_option linter.unusedSimpArgs false
theorem by45 : xW Tryz.prog 45 = some 64 := by kernel_rfl
theorem cb37 : callB Tryz.prog 37 = true := by kernel_rfl
theorem h_point (p : Rat) (hp : QL p 4294967296) : jV Tryz.prog 37 [(jK (jT p))] (jO (kG.mk (jT p) (jT p))) := by
 refine jJ Tryz.func37 rfl cb37 rfl ?_
 show qI _ _ _ _ ⟨[(0, (.d (jK (jT p))))], []⟩
 refine jB <| kx [(1, (.ref 0 0)), (2, (.ref 1 0))] [(0, some (bx (jK (jT p)))), (1, some (bx (jO (kG.mk (jE.mk (jD.mk false []) (jD.mk false [])) (jE.mk (jD.mk false []) (jD.mk false []))))))] (zN (vL 0) <| zN (qS 1 uO uY) <| zZ) ?_
 refine jB <| kx [] [(1, some (bx (jO (kG.mk (jT p) (jT p)))))] (zR (kR jR) <| zR (kR jR) <| zE (eJ pl61 uO uY) <| zT (qC kZ) <| zZ) ?_
 refine jG ⟨_, (kU (cs := (bx (jO (kG.mk (jT p) (jT p))))) (d := (jO (kG.mk (jT p) (jT p)))) rfl rfl kZ rfl rfl .nil), ?_⟩
 rfl
end Go.Proofs.YtnajallgoaiahaaGreatDoor
namespace Go.Proofs.YtnajallgoaiahaaGreatDoor
open Go.Fid
set_option maxRecDepth 4000
set_option linter.unusedVariables false
set_option linter.unusedSimpArgs false
theorem cb23 : callB Tryz.prog 23 = true := by kernel_rfl
theorem cb33 : callB Tryz.prog 33 = true := by kernel_rfl
theorem g_zero (x : jE) (p : Rat) (hx : hH x p 140737488355328) : jV Tryz.prog 23 [(jK x)] (.val (.bool ((zeroR x)))) := by
 have h1 := hx.n1
 have h2 := hx.n2
 refine jJ Tryz.func23 rfl cb23 rfl ?_
 show qI _ _ _ _ ⟨[(0, (.d (jK x)))], []⟩
 refine jB <| kx [(1, (.ref 0 0))] [(0, some (bx (jK x)))] (zN (vL 0) <| zM <| zZ) ?_
 refine jB <| kx [(2, (vb (((!x.num.neg && !x.den.neg) && (((x.num.gs.length : Nat) : Int) == 0)) && (((x.den.gs.length : Nat) : Int) == 0))))] [] ?_ ?_
 ·refine zE (qH xY) <| zE (qH uQ) <| zR (qP aG) <| zE mM <| zE (oV (vb (!x.num.neg)) (kY (by kernel_rfl))) <| ?_
  rcases hb1 : (!x.num.neg) with _ | _
  ·exact zK <| zK <| zK <| zK <| zE yI <| zM <| zK <| zK <| zK <| zK <| zK <| zE yI <| zM <| zK <| zK <| zK <| zK <| zK <| zE yI <| zM <| zZ
  ·refine zE (qH vV) <| zE (qH uQ) <| zR (qP aG) <| zE mM <| zE eV <| zE (oV (vb (true && !x.den.neg)) (kY (by kernel_rfl))) <| ?_
   rcases hb2 : (true && !x.den.neg) with _ | _
   ·exact zK <| zK <| zK <| zK <| zK <| zE yI <| zM <| zK <| zK <| zK <| zK <| zK <| zE yI <| zM <| zZ
   ·refine zE (qH xY) <| zE (qH uR) <| zR (qP xG) <| zE (vG kJ) <| zE nF <| zE eV <| zE (oV (vb (true && (((x.num.gs.length : Nat) : Int) == 0))) (kY (by kernel_rfl))) <| ?_
    rcases hb3 : (true && (((x.num.gs.length : Nat) : Int) == 0)) with _ | _
    ·exact zK <| zK <| zK <| zK <| zK <| zE yI <| zM <| zZ
    ·exact zE (qH vV) <| zE (qH uR) <| zR (qP xG) <| zE (vG kJ) <| zE nF <| zE eV <| zM <| zZ
 refine jG ⟨_, (.tmp (d := (.val (.bool ((((!x.num.neg && !x.den.neg) && (((x.num.gs.length : Nat) : Int) == 0)) && (((x.den.gs.length : Nat) : Int) == 0)))))) rfl .nil), ?_⟩
 rfl
theorem h_zero (a : kG) (ha : GOk 140737488355328 a) : jV Tryz.prog 33 [(jO a)] (.val (.bool ((zeroR a.lo && zeroR a.hi)))) := by
 refine jJ Tryz.func33 rfl cb33 rfl ?_
 show qI _ _ _ _ ⟨[(0, (.d (jO a)))], []⟩
 refine jB <| kx [(1, (.ref 0 0))] [(0, some (bx (jO a)))] (zN (vL 0) <| zM <| zZ) ?_
 refine jB <| kx [(2, (vb ((zeroR a.lo) && (zeroR a.hi))))] [] ?_ ?_
 ·refine zE (qH xL) <| zR (kR jR) <| zE (jX (g_zero a.lo (jN a.lo) ha.1)) <| zE (oV (vb (zeroR a.lo)) (kY (by kernel_rfl))) <| ?_
  rcases hb1 : (zeroR a.lo) with _ | _
  ·exact zK <| zK <| zK <| zE yI <| zM <| zZ
  ·exact zE (qH xT) <| zR (kR jR) <| zE (jX (g_zero a.hi (jN a.hi) ha.2)) <| zE eV <| zM <| zZ
 refine jG ⟨_, (.tmp (d := (.val (.bool (((zeroR a.lo) && (zeroR a.hi)))))) rfl .nil), ?_⟩
 rfl
end Go.Proofs.YtnajallgoaiahaaGreatDoor
