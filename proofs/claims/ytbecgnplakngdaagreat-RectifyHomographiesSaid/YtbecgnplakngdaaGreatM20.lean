/- Part 20 of a proof: rules, plain facts, and functions walked. -/
import Derived.Test.YtbecgnplakngdaaGreatM19
import Derived.Test.YtbecgnplakngdaaGreatM10
import Derived.Test.YtbecgnplakngdaaGreatM13
namespace Go.Proofs.YtbecgnplakngdaaGreat
open Go.Fid
set_option maxRecDepth 4000
set_option linter.unusedVariables false
set_option linter.unusedSimpArgs false
theorem cb17 : callB Tryz.prog 17 = true := by kernel_rfl
theorem cb21 : callB Tryz.prog 21 = true := by kernel_rfl
theorem cb26 : callB Tryz.prog 26 = true := by kernel_rfl
theorem cb32 : callB Tryz.prog 32 = true := by kernel_rfl
theorem cb34 : callB Tryz.prog 34 = true := by kernel_rfl
theorem cb43 : callB Tryz.prog 43 = true := by kernel_rfl
theorem cb57 : callB Tryz.prog 57 = true := by kernel_rfl
theorem cb64 : callB Tryz.prog 64 = true := by kernel_rfl
theorem cb85 : callB Tryz.prog 85 = true := by kernel_rfl
theorem cb88 : callB Tryz.prog 88 = true := by kernel_rfl
theorem cb89 : callB Tryz.prog 89 = true := by kernel_rfl
theorem cb91 : callB Tryz.prog 91 = true := by kernel_rfl
theorem cb93 : callB Tryz.prog 93 = true := by kernel_rfl
theorem g_reduced (num den : jF) (a b : Int) (eW : kZ num a 68719476736) (cN : kZ den b 68719476736) (hb : b ≠ 0) : kF Tryz.prog 93 [(jH num), (jH den)] (jO (jC (Rat.divInt a b))) := by
 refine jL Tryz.func93 rfl cb93 rfl ?_
 show uK _ _ _ _ ⟨[(0, (.d (jH num))), (1, (.d (jH den)))], []⟩
 refine jA <| kx [(2, (.ref 0 0)), (3, (.ref 1 0)), (4, (.ref 2 0))] [(0, some (bx (jH num))), (1, some (bx (jH den))), (2, some (bx (jO (kG.mk (jF.mk false []) (jF.mk false [])))))] (zN (uX 0) <| zN (uX 1) <| zN (qH 2 qM qR) <| zZ) ?_
 refine jA <| kx [(5, (.ref 3 0))] [(3, some (bx (jH (jK ((Int.gcd a b : Nat) : Int)))))] (zR (kA jI) <| zR (kA jI) <| zE (kC (rs_gcd eW cN (by decide) (by decide))) <| zN (qH 3 uD uE) <| zT (kR jI) <| zZ) ?_
 refine jA <| jA <| kx [(17, (vb (decide ((qX b) < 0))))] [] (zR (kA jI) <| zE (kC (aK cN (by decide))) <| zE qS <| zZ) ?_
 refine jQ (b := decide ((qX b) < 0)) rfl (fun h1 => ?_) (fun h1 => ?_)
 ·replace h1 := of_decide_eq_true h1
  have hlt := signI_lt.1 h1
  refine kx [] [(3, some (bx (jH (jK (-(((Int.gcd a b : Nat) : Int)))))))] (zR (kA jI) <| zE (kC (rs_neg (hM (k := 68719476736) eW cN (by decide)) (by decide))) <| zT (kR jI) <| zZ) ?_
  refine jA <| kx [(6, (.ref 4 0))] [(4, some (bx (jH (jK (a.fdiv (-(((Int.gcd a b : Nat) : Int)))))))), (5, none)] (zR (kA jI) <| zR (kA jI) <| zE (kC (fW eW (mK (hM (k := 68719476736) eW cN (by decide))) (by decide) (by decide) (by have := gcd_ne (a := a) hb; omega))) <| zM <| zE uH <| zE uH <| zE uH <| zN (qH 4 uD uE) <| zN (qH 5 uD uE) <| zT (kR jI) <| zT (kR jI) <| zM <| zZ) ?_
  refine jA <| kx [(9, (.ref 6 0))] [(6, some (bx (jH (jK (b.fdiv (-(((Int.gcd a b : Nat) : Int)))))))), (7, none)] (zR (kA jI) <| zR (kA jI) <| zE (kC (fW cN (mK (hM (k := 68719476736) eW cN (by decide))) (by decide) (by decide) (by have := gcd_ne (a := a) hb; omega))) <| zM <| zE uH <| zE uH <| zE uH <| zN (qH 6 uD uE) <| zN (qH 7 uD uE) <| zT (kR jI) <| zT (kR jI) <| zM <| zZ) ?_
  refine jA <| kx [] [(2, some (bx (jO (kG.mk (jK (a.fdiv (-(((Int.gcd a b : Nat) : Int))))) (jK (b.fdiv (-(((Int.gcd a b : Nat) : Int)))))))))] (zR (kA jI) <| zR (kA jI) <| zE (oBd pl42 qM qR) <| zT (kR jS) <| zZ) ?_
  refine jG ⟨_, (qB (cs := (bx (jO (kG.mk (jK (a.fdiv (-(((Int.gcd a b : Nat) : Int))))) (jK (b.fdiv (-(((Int.gcd a b : Nat) : Int))))))))) (d := (jO (kG.mk (jK (a.fdiv (-(((Int.gcd a b : Nat) : Int))))) (jK (b.fdiv (-(((Int.gcd a b : Nat) : Int)))))))) rfl rfl jS rfl rfl .nil), ?_⟩
  rw [← red_neg2 hlt]; rfl
 ·replace h1 := of_decide_eq_false h1
  have hge : ¬ b < 0 := fun hh => h1 (signI_lt.2 hh)
  refine jD <| jA <| kx [(6, (.ref 8 0))] [(8, some (bx (jH (jK (a.fdiv (((Int.gcd a b : Nat) : Int))))))), (9, none)] (zR (kA jI) <| zR (kA jI) <| zE (kC (fW eW (hM (k := 68719476736) eW cN (by decide)) (by decide) (by decide) (by have := gcd_ne (a := a) hb; omega))) <| zM <| zE uH <| zE uH <| zE uH <| zN (qH 8 uD uE) <| zN (qH 9 uD uE) <| zT (kR jI) <| zT (kR jI) <| zM <| zZ) ?_
  refine jA <| kx [(9, (.ref 10 0))] [(10, some (bx (jH (jK (b.fdiv (((Int.gcd a b : Nat) : Int))))))), (11, none)] (zR (kA jI) <| zR (kA jI) <| zE (kC (fW cN (hM (k := 68719476736) eW cN (by decide)) (by decide) (by decide) (by have := gcd_ne (a := a) hb; omega))) <| zM <| zE uH <| zE uH <| zE uH <| zN (qH 10 uD uE) <| zN (qH 11 uD uE) <| zT (kR jI) <| zT (kR jI) <| zM <| zZ) ?_
  refine jA <| kx [] [(2, some (bx (jO (kG.mk (jK (a.fdiv (((Int.gcd a b : Nat) : Int)))) (jK (b.fdiv (((Int.gcd a b : Nat) : Int))))))))] (zR (kA jI) <| zR (kA jI) <| zE (oBd pl42 qM qR) <| zT (kR jS) <| zZ) ?_
  refine jG ⟨_, (qB (cs := (bx (jO (kG.mk (jK (a.fdiv (((Int.gcd a b : Nat) : Int)))) (jK (b.fdiv (((Int.gcd a b : Nat) : Int)))))))) (d := (jO (kG.mk (jK (a.fdiv (((Int.gcd a b : Nat) : Int)))) (jK (b.fdiv (((Int.gcd a b : Nat) : Int))))))) rfl rfl jS rfl rfl .nil), ?_⟩
  rw [red_pos hge hb]; rfl
theorem g_whole1 (n : Int) (hlo : -9223372036854775808 ≤ n) (hhi : n ≤ 9223372036854775807) : kF Tryz.prog 91 [(.val (.int .i64 (n)))] (jH (jK n)) := by
 refine jL Tryz.func91 rfl cb91 rfl ?_
 show uK _ _ _ _ ⟨[(0, (vi n))], []⟩
 refine jA <| kx [(2, (.ref 0 0))] [(0, some (bx (jH (jF.mk false []))))] (zN (qH 0 uD uE) <| zZ) ?_
 refine jA <| kx [] [(0, some (bx (jH (jK n))))] (zM <| zE (kC (r_of n (by omega) (by omega))) <| zT (kR jI) <| zZ) ?_
 refine jG ⟨_, (qB (cs := (bx (jH (jK n)))) (d := (jH (jK n))) rfl rfl jI rfl rfl .nil), ?_⟩
 rfl
theorem mJ (n : Int) (hlo : -9223372036854775808 ≤ n) (hhi : n ≤ 9223372036854775807) : kF Tryz.prog 21 [(.val (.int .i64 (n)))] (jO (jC ((n : Int) : Rat))) := by
 refine jL Tryz.func21 rfl cb21 rfl ?_
 show uK _ _ _ _ ⟨[(0, (vi n))], []⟩
 refine jA <| kx [(2, (.ref 0 0))] [(0, some (bx (jO (kG.mk (jF.mk false []) (jF.mk false [])))))] (zN (qH 0 qM qR) <| zZ) ?_
 refine jA <| kx [] [(0, some (bx (jO (kG.mk (jK n) (jK 1)))))] (zM <| zE (kC (g_whole1 n (by omega) (by omega))) <| zE (kC (g_whole1 1 (by decide) (by decide))) <| zE (oBd pl42 qM qR) <| zT (kR jS) <| zZ) ?_
 refine jG ⟨_, (qB (cs := (bx (jO (kG.mk (jK n) (jK 1))))) (d := (jO (kG.mk (jK n) (jK 1)))) rfl rfl jS rfl rfl .nil), ?_⟩
 rfl
theorem iI (x : kG) (p : Rat) (hx : eT x p 17179869184) : kF Tryz.prog 43 [(jO x)] (.val (.bool ((uV x)))) := by
 refine jL Tryz.func43 rfl cb43 rfl ?_
 show uK _ _ _ _ ⟨[(0, (.d (jO x)))], []⟩
 refine jA <| kx [(1, (.ref 0 0))] [(0, some (bx (jO x)))] (zN (uX 0) <| zM <| zZ) ?_
 refine jA <| jA <| kx [(18, (vb ((!(uG x.num) || !(uG x.den)) || decide ((qX (kK x.den)) ≤ 0))))] [] ?_ ?_
 ·refine zE (kU vZ) <| zR (kA jI) <| zE (kC (lD x.num (Nat.le_trans (gL hx.n1).l (by decide)))) <| zE eX <| zE (oV (vb (!(uG x.num))) (xD (by kernel_rfl))) <| ?_
  rcases hb1 : (!(uG x.num)) with _ | _
  ·refine zE (kU uY) <| zR (kA jI) <| zE (kC (lD x.den (Nat.le_trans (gL hx.n2).l (by decide)))) <| zE eX <| zE oPo <| zE (oV (vb (false || !(uG x.den))) (xD (by kernel_rfl))) <| ?_
   rcases hb2 : (false || !(uG x.den)) with _ | _
   ·exact zE (kU uY) <| zR (kA jI) <| zE (kC (aK (gL hx.n2) (by decide))) <| zE oLe <| zE oPo <| zZ
   ·exact zK <| zK <| zK <| zK <| zE bG <| zZ
  ·exact zK <| zK <| zK <| zK <| zE bG <| zM <| zK <| zK <| zK <| zK <| zE bG <| zZ
 refine jQ rfl (fun h3 => ?_) (fun h3 => ?_)
 ·refine jA <| kx [(2, (vb false))] [] (zM <| zZ) ?_
  refine jG ⟨_, (.tmp (d := (.val (.bool (false)))) rfl .nil), ?_⟩
  rw [validR_no h3]; rfl
 ·refine jD <| jA <| kx [(2, (vb ((xC (((Int.gcd (kK x.num) (kK x.den) : Nat) : Int)) 1) == 0)))] [] (zE (kU vZ) <| zR (kA jI) <| zE (kU uY) <| zR (kA jI) <| zE (kC (rs_gcd (gL hx.n1) (gL hx.n2) (by decide) (by decide))) <| zE (kC (g_whole1 1 (by decide) (by decide))) <| zE (kC (rs_compare (hM (k := 17179869184) (gL hx.n1) (gL hx.n2) (by decide)) (yI (z := 1) (by decide)) (by decide) (by decide))) <| zE aO <| zM <| zZ) ?_
  refine jG ⟨_, (.tmp (d := (.val (.bool (((xC (((Int.gcd (kK x.num) (kK x.den) : Nat) : Int)) 1) == 0))))) rfl .nil), ?_⟩
  rw [validR_yes h3]; rfl
theorem aR (x : kG) (p : Rat) (hx : eT x p 17179869184) : kF Tryz.prog 85 [(jO x)] (jO (jC p)) := by
 refine jL Tryz.func85 rfl cb85 rfl ?_
 show uK _ _ _ _ ⟨[(0, (.d (jO x)))], []⟩
 refine jA <| kx [(1, (.ref 0 0)), (2, (.ref 1 0))] [(0, some (bx (jO x))), (1, some (bx (jO (kG.mk (jF.mk false []) (jF.mk false [])))))] (zN (uX 0) <| zN (qH 1 qM qR) <| zZ) ?_
 refine jA <| jA <| kx [(4, (vb (uV x)))] [] (zR (kA jS) <| zE (kC (iI x p hx)) <| zZ) ?_
 refine jQ (b := (uV x)) rfl (fun h1 => ?_) (fun h1 => ?_)
 ·refine jA <| kx [] [(1, some (bx (jO x)))] (zR (kA jS) <| zT (kR jS) <| zZ) ?_
  refine jG ⟨_, (qB (cs := (bx (jO x))) (d := (jO x)) rfl rfl jS rfl rfl .nil), ?_⟩
  rw [← hx.v, ofQ_toQ h1]; rfl
 ·refine jD <| jA <| kx [] [(1, some (bx (jO (jC ((0 : Int) : Rat)))))] (zE (kC (mJ 0 (by decide) (by decide))) <| zT (kR jS) <| zZ) ?_
  refine jG ⟨_, (qB (cs := (bx (jO (jC ((0 : Int) : Rat))))) (d := (jO (jC ((0 : Int) : Rat)))) rfl rfl jS rfl rfl .nil), ?_⟩
  rw [← hx.v, toQ_bad h1]; rfl
theorem g_sign (x : kG) (p : Rat) (hx : eT x p 17179869184) : kF Tryz.prog 17 [(jO x)] (.val (.int .i64 ((yT p)))) := by
 refine jL Tryz.func17 rfl cb17 rfl ?_
 show uK _ _ _ _ ⟨[(0, (.d (jO x)))], []⟩
 refine jA <| kx [(1, (.ref 0 0))] [(0, some (bx (jO x)))] (zN (uX 0) <| zM <| zZ) ?_
 refine jA <| kx [(2, (vi (qX p.num)))] [] (zR (kA jS) <| zE (kC (aR x p hx)) <| zE (oFv ft42_0 jI) <| zE (kC (aK (kN hx.ql) (by decide))) <| zM <| zZ) ?_
 refine jG ⟨_, (.tmp (d := (.val (.int .i64 ((qX p.num))))) rfl .nil), ?_⟩
 rfl
theorem g_neg (x : kG) (p : Rat) (hx : eT x p 17179869184) : kF Tryz.prog 88 [(jO x)] (jO (jC (-p))) := by
 refine jL Tryz.func88 rfl cb88 rfl ?_
 show uK _ _ _ _ ⟨[(0, (.d (jO x)))], []⟩
 refine jA <| kx [(1, (.ref 0 0)), (2, (.ref 1 0))] [(0, some (bx (jO x))), (1, some (bx (jO (kG.mk (jF.mk false []) (jF.mk false [])))))] (zN (uX 0) <| zN (qH 1 qM qR) <| zZ) ?_
 refine jA <| kx [(3, (.ref 2 0))] [(2, some (bx (jO (jC p))))] (zR (kA jS) <| zE (kC (aR x p hx)) <| zN (qH 2 qM qR) <| zT (kR jS) <| zZ) ?_
 refine jA <| kd [] [(1, some (bx (jO (kG.mk (jK (-p.num)) ((jC p).den)))))] mo (wE (kU vZ) <| wR (kA jI) <| wE (kC (rs_neg (kN hx.ql) (by decide))) <| wE (kU uY) <| wR (kA jI) <| wE (oBd pl42 qM qR) <| wT (kR jS) <| wZ) ?_
 refine jG ⟨_, (qB (cs := (bx (jO (kG.mk (jK (-p.num)) ((jC p).den))))) (d := (jO (kG.mk (jK (-p.num)) ((jC p).den)))) rfl rfl jS rfl rfl .nil), ?_⟩
 rfl
theorem g_add (x : kG) (y : kG) (p : Rat) (q : Rat) (hx : eT x p 17179869184) (hy : eT y q 17179869184) : kF Tryz.prog 89 [(jO x), (jO y)] (jO (jC (p + q))) := by
 refine jL Tryz.func89 rfl cb89 rfl ?_
 show uK _ _ _ _ ⟨[(0, (.d (jO x))), (1, (.d (jO y)))], []⟩
 refine jA <| kx [(2, (.ref 0 0)), (3, (.ref 1 0)), (4, (.ref 2 0))] [(0, some (bx (jO x))), (1, some (bx (jO y))), (2, some (bx (jO (kG.mk (jF.mk false []) (jF.mk false [])))))] (zN (uX 0) <| zN (uX 1) <| zN (qH 2 qM qR) <| zZ) ?_
 refine jA <| kx [(5, (.ref 3 0))] [(3, some (bx (jO (jC p))))] (zR (kA jS) <| zE (kC (aR x p hx)) <| zN (qH 3 qM qR) <| zT (kR jS) <| zZ) ?_
 refine jA <| kx [(6, (.ref 4 0))] [(4, some (bx (jO (jC q))))] (zR (kA jS) <| zE (kC (aR y q hy)) <| zN (qH 4 qM qR) <| zT (kR jS) <| zZ) ?_
 refine jA <| kd [] [(2, some (bx (jO (jC (Rat.divInt ((p.num * (q.den : Int)) + (q.num * (p.den : Int))) ((p.den : Int) * (q.den : Int)))))))] mo (wE (kU vZ) <| wR (kA jI) <| wE (kU uY) <| wR (kA jI) <| wE (kC (rs_mul (kN hx.ql) (jW hy.ql) (by decide) (by decide))) <| wE (kU vZ) <| wR (kA jI) <| wE (kU uY) <| wR (kA jI) <| wE (kC (rs_mul (kN hy.ql) (jW hx.ql) (by decide) (by decide))) <| wE (kC (rs_add (jP (k := 34359738368) (kN hx.ql) (jW hy.ql) (by decide)) (jP (k := 34359738368) (kN hy.ql) (jW hx.ql) (by decide)) (by decide) (by decide))) <| wE (kU uY) <| wR (kA jI) <| wE (kU uY) <| wR (kA jI) <| wE (kC (rs_mul (jW hx.ql) (jW hy.ql) (by decide) (by decide))) <| wE (kC (g_reduced (jK ((p.num * (q.den : Int)) + (q.num * (p.den : Int)))) (jK ((p.den : Int) * (q.den : Int))) ((p.num * (q.den : Int)) + (q.num * (p.den : Int))) ((p.den : Int) * (q.den : Int)) (qJ (xO (k := 34359738369) (jP (k := 34359738368) (kN hx.ql) (jW hy.ql) (by decide)) (jP (k := 34359738368) (kN hy.ql) (jW hx.ql) (by decide)) (by decide)) (by decide)) (qJ (jP (k := 34359738368) (jW hx.ql) (jW hy.ql) (by decide)) (by decide)) (mul_ne (gY _) (gY _)))) <| wT (kR jS) <| wZ) ?_
 refine jG ⟨_, (qB (cs := (bx (jO (jC (Rat.divInt ((p.num * (q.den : Int)) + (q.num * (p.den : Int))) ((p.den : Int) * (q.den : Int))))))) (d := (jO (jC (Rat.divInt ((p.num * (q.den : Int)) + (q.num * (p.den : Int))) ((p.den : Int) * (q.den : Int)))))) rfl rfl jS rfl rfl .nil), ?_⟩
 rw [add_divInt]; rfl
theorem g_sub (x : kG) (y : kG) (p : Rat) (q : Rat) (hx : eT x p 17179869184) (hy : eT y q 17179869184) : kF Tryz.prog 32 [(jO x), (jO y)] (jO (jC (p - q))) := by
 refine jL Tryz.func32 rfl cb32 rfl ?_
 show uK _ _ _ _ ⟨[(0, (.d (jO x))), (1, (.d (jO y)))], []⟩
 refine jA <| kx [(2, (.ref 0 0)), (3, (.ref 1 0)), (4, (.ref 2 0))] [(0, some (bx (jO x))), (1, some (bx (jO y))), (2, some (bx (jO (kG.mk (jF.mk false []) (jF.mk false [])))))] (zN (uX 0) <| zN (uX 1) <| zN (qH 2 qM qR) <| zZ) ?_
 refine jA <| kd [] [(2, some (bx (jO (jC (p + (-q))))))] mo (wR (kA jS) <| wR (kA jS) <| wE (kC (g_neg y q hy)) <| wE (kC (g_add x (jC (-q)) p (-q) hx (kL (ql_neg hy.ql)))) <| wT (kR jS) <| wZ) ?_
 refine jG ⟨_, (qB (cs := (bx (jO (jC (p + (-q)))))) (d := (jO (jC (p + (-q))))) rfl rfl jS rfl rfl .nil), ?_⟩
 rw [Rat.sub_eq_add_neg]; rfl
theorem g_mul (x : kG) (y : kG) (p : Rat) (q : Rat) (hx : eT x p 17179869184) (hy : eT y q 17179869184) : kF Tryz.prog 57 [(jO x), (jO y)] (jO (jC (p * q))) := by
 refine jL Tryz.func57 rfl cb57 rfl ?_
 show uK _ _ _ _ ⟨[(0, (.d (jO x))), (1, (.d (jO y)))], []⟩
 refine jA <| kx [(2, (.ref 0 0)), (3, (.ref 1 0)), (4, (.ref 2 0))] [(0, some (bx (jO x))), (1, some (bx (jO y))), (2, some (bx (jO (kG.mk (jF.mk false []) (jF.mk false [])))))] (zN (uX 0) <| zN (uX 1) <| zN (qH 2 qM qR) <| zZ) ?_
 refine jA <| kx [(5, (.ref 3 0))] [(3, some (bx (jO (jC p))))] (zR (kA jS) <| zE (kC (aR x p hx)) <| zN (qH 3 qM qR) <| zT (kR jS) <| zZ) ?_
 refine jA <| kx [(6, (.ref 4 0))] [(4, some (bx (jO (jC q))))] (zR (kA jS) <| zE (kC (aR y q hy)) <| zN (qH 4 qM qR) <| zT (kR jS) <| zZ) ?_
 refine jA <| kd [] [(2, some (bx (jO (jC (Rat.divInt (p.num * q.num) ((p.den : Int) * (q.den : Int)))))))] mo (wE (kU vZ) <| wR (kA jI) <| wE (kU vZ) <| wR (kA jI) <| wE (kC (rs_mul (kN hx.ql) (kN hy.ql) (by decide) (by decide))) <| wE (kU uY) <| wR (kA jI) <| wE (kU uY) <| wR (kA jI) <| wE (kC (rs_mul (jW hx.ql) (jW hy.ql) (by decide) (by decide))) <| wE (kC (g_reduced (jK (p.num * q.num)) (jK ((p.den : Int) * (q.den : Int))) (p.num * q.num) ((p.den : Int) * (q.den : Int)) (qJ (jP (k := 34359738368) (kN hx.ql) (kN hy.ql) (by decide)) (by decide)) (qJ (jP (k := 34359738368) (jW hx.ql) (jW hy.ql) (by decide)) (by decide)) (mul_ne (gY _) (gY _)))) <| wT (kR jS) <| wZ) ?_
 refine jG ⟨_, (qB (cs := (bx (jO (jC (Rat.divInt (p.num * q.num) ((p.den : Int) * (q.den : Int))))))) (d := (jO (jC (Rat.divInt (p.num * q.num) ((p.den : Int) * (q.den : Int)))))) rfl rfl jS rfl rfl .nil), ?_⟩
 rw [mul_divInt]; rfl
theorem g_new (num den : jF) (a b : Int) (eW : kZ num a 68719476736) (cN : kZ den b 68719476736) : kF Tryz.prog 26 [(jH num), (jH den)] (.tup [(jO (newR a b)), (.val (.int .i64 ((newC b))))]) := by
 refine jL Tryz.func26 rfl cb26 rfl ?_
 show uK _ _ _ _ ⟨[(0, (.d (jH num))), (1, (.d (jH den)))], []⟩
 refine jA <| kx [(2, (.ref 0 0)), (3, (.ref 1 0)), (4, (.ref 2 0))] [(0, some (bx (jH num))), (1, some (bx (jH den))), (2, some (bx (jO (kG.mk (jF.mk false []) (jF.mk false [])))))] (zN (uX 0) <| zN (uX 1) <| zN (qH 2 qM qR) <| zM <| zZ) ?_
 refine jA <| jA <| kx [(8, (vb ((qX b) == 0)))] [] (zR (kA jI) <| zE (kC (aK cN (by decide))) <| zE aO <| zZ) ?_
 refine jQ (b := ((qX b) == 0)) rfl (fun h1 => ?_) (fun h1 => ?_)
 ·replace h1 := eq_of_beq h1
  have hb : b = 0 := sign0 h1
  refine jA <| kx [(5, (kE 14))] [(2, some (bx (jO (kG.mk (jF.mk false []) (jF.mk false [])))))] (zE (oBd pl42 qM qR) <| zT (kR jS) <| zM <| zZ) ?_
  refine jG ⟨_, (qB (cs := (bx (jO (kG.mk (jF.mk false []) (jF.mk false []))))) (d := (jO (kG.mk (jF.mk false []) (jF.mk false [])))) rfl rfl jS rfl rfl (.tmp (d := (.val (.int .i64 (14)))) rfl .nil)), ?_⟩
  rw [hb]; rfl
 ·replace h1 := ne_of_beq_false h1
  have hb : b ≠ 0 := fun hh => h1 (by rw [hh]; rfl)
  refine jD <| jA <| kx [(5, (kE 0))] [(2, some (bx (jO (jC (Rat.divInt a b)))))] (zR (kA jI) <| zR (kA jI) <| zE (kC (g_reduced num den a b eW cN (by assumption))) <| zT (kR jS) <| zM <| zZ) ?_
  refine jG ⟨_, (qB (cs := (bx (jO (jC (Rat.divInt a b))))) (d := (jO (jC (Rat.divInt a b)))) rfl rfl jS rfl rfl (.tmp (d := (.val (.int .i64 (0)))) rfl .nil)), ?_⟩
  unfold newR newC; rw [if_neg hb, if_neg hb]; rfl
theorem g_divide (x : kG) (y : kG) (p : Rat) (q : Rat) (hx : eT x p 17179869184) (hy : eT y q 17179869184) : kF Tryz.prog 34 [(jO x), (jO y)] (.tup [(jO (divR p q)), (.val (.int .i64 ((divC q))))]) := by
 refine jL Tryz.func34 rfl cb34 rfl ?_
 show uK _ _ _ _ ⟨[(0, (.d (jO x))), (1, (.d (jO y)))], []⟩
 refine jA <| kx [(2, (.ref 0 0)), (3, (.ref 1 0)), (4, (.ref 2 0))] [(0, some (bx (jO x))), (1, some (bx (jO y))), (2, some (bx (jO (kG.mk (jF.mk false []) (jF.mk false [])))))] (zN (uX 0) <| zN (uX 1) <| zN (qH 2 qM qR) <| zM <| zZ) ?_
 refine jA <| kx [(6, (.ref 3 0))] [(3, some (bx (jO (jC p))))] (zR (kA jS) <| zE (kC (aR x p hx)) <| zN (qH 3 qM qR) <| zT (kR jS) <| zZ) ?_
 refine jA <| kx [(7, (.ref 4 0))] [(4, some (bx (jO (jC q))))] (zR (kA jS) <| zE (kC (aR y q hy)) <| zN (qH 4 qM qR) <| zT (kR jS) <| zZ) ?_
 refine jA <| kd [(5, (vi (newC ((p.den : Int) * q.num))))] [(2, some (bx (jO (newR (p.num * (q.den : Int)) ((p.den : Int) * q.num)))))] mo (wE (kU vZ) <| wR (kA jI) <| wE (kU uY) <| wR (kA jI) <| wE (kC (rs_mul (kN hx.ql) (jW hy.ql) (by decide) (by decide))) <| wE (kU uY) <| wR (kA jI) <| wE (kU vZ) <| wR (kA jI) <| wE (kC (rs_mul (jW hx.ql) (kN hy.ql) (by decide) (by decide))) <| wE (kC (g_new (jK (p.num * (q.den : Int))) (jK ((p.den : Int) * q.num)) (p.num * (q.den : Int)) ((p.den : Int) * q.num) (qJ (jP (k := 34359738368) (kN hx.ql) (jW hy.ql) (by decide)) (by decide)) (qJ (jP (k := 34359738368) (jW hx.ql) (kN hy.ql) (by decide)) (by decide)))) <| wE uH <| wE uH <| wT (kR jS) <| wM <| wZ) ?_
 refine jG ⟨_, (qB (cs := (bx (jO (newR (p.num * (q.den : Int)) ((p.den : Int) * q.num))))) (d := (jO (newR (p.num * (q.den : Int)) ((p.den : Int) * q.num)))) rfl rfl jS rfl rfl (.tmp (d := (.val (.int .i64 ((newC ((p.den : Int) * q.num)))))) rfl .nil)), ?_⟩
 rw [newR_div, newC_div]; rfl
theorem g_compare (x : kG) (y : kG) (p : Rat) (q : Rat) (hx : eT x p 4294967296) (hy : eT y q 4294967296) : kF Tryz.prog 64 [(jO x), (jO y)] (.val (.int .i64 ((cmpQ p q)))) := by
 refine jL Tryz.func64 rfl cb64 rfl ?_
 show uK _ _ _ _ ⟨[(0, (.d (jO x))), (1, (.d (jO y)))], []⟩
 refine jA <| kx [(2, (.ref 0 0)), (3, (.ref 1 0))] [(0, some (bx (jO x))), (1, some (bx (jO y)))] (zN (uX 0) <| zN (uX 1) <| zM <| zZ) ?_
 refine jA <| kx [(4, (vi (yT (p - q))))] [] (zR (kA jS) <| zR (kA jS) <| zE (kC (g_sub x y p q (kH hx (by decide)) (kH hy (by decide)))) <| zE (kC (g_sign (jC (p - q)) (p - q) (kH (kL (qZ (k := 8589934593) hx.ql hy.ql (by decide))) (by decide)))) <| zM <| zZ) ?_
 refine jG ⟨_, (.tmp (d := (.val (.int .i64 ((yT (p - q)))))) rfl .nil), ?_⟩
 rw [← signQ_sub]; rfl
end Go.Proofs.YtbecgnplakngdaaGreat
namespace Go.Proofs.YtbecgnplakngdaaGreat
open Go.Fid
set_option maxRecDepth 4000
set_option linter.unusedVariables false
set_option linter.unusedSimpArgs false
theorem cb28 : callB Tryz.prog 28 = true := by kernel_rfl
theorem cb41 : callB Tryz.prog 41 = true := by kernel_rfl
theorem g_same (x : kG) (y : kG) (p : Rat) (q : Rat) (hx : eT x p 4294967296) (hy : eT y q 4294967296) : kF Tryz.prog 28 [(jO x), (jO y)] (.val (.bool ((sameR x y)))) := by
 refine jL Tryz.func28 rfl cb28 rfl ?_
 show uK _ _ _ _ ⟨[(0, (.d (jO x))), (1, (.d (jO y)))], []⟩
 refine jA <| kx [(2, (.ref 0 0)), (3, (.ref 1 0))] [(0, some (bx (jO x))), (1, some (bx (jO y)))] (zN (uX 0) <| zN (uX 1) <| zM <| zZ) ?_
 refine jA <| kx [(4, (vb (((uV x) && (uV y)) && ((cmpQ p q) == 0))))] [] ?_ ?_
 ·refine zR (kA jS) <| zE (kC (iI x p (kH hx (by decide)))) <| zE (oV (vb (uV x)) (xD (by kernel_rfl))) <| ?_
  rcases hb1 : (uV x) with _ | _
  ·exact zK <| zK <| zE fC <| zM <| zK <| zK <| zK <| zK <| zE fC <| zM <| zZ
  ·refine zR (kA jS) <| zE (kC (iI y q (kH hy (by decide)))) <| zE oPa <| zE (oV (vb (true && (uV y))) (xD (by kernel_rfl))) <| ?_
   rcases hb2 : (true && (uV y)) with _ | _
   ·exact zK <| zK <| zK <| zK <| zE fC <| zM <| zZ
   ·exact zR (kA jS) <| zR (kA jS) <| zE (kC (g_compare x y p q hx hy)) <| zE aO <| zE oPa <| zM <| zZ
 refine jG ⟨_, (.tmp (d := (.val (.bool ((((uV x) && (uV y)) && ((cmpQ p q) == 0)))))) rfl .nil), ?_⟩
 unfold sameR
 rw [← sameR_eq, hx.v, hy.v]; rfl
theorem g_digits (x : kG) (p : Rat) (hx : eT x p 140737488355328) : kF Tryz.prog 41 [(jO x)] (.val (.int .i64 ((((digR x) : Nat) : Int)))) := by
 have h1 := hx.n1
 have h2 := hx.n2
 refine jL Tryz.func41 rfl cb41 rfl ?_
 show uK _ _ _ _ ⟨[(0, (.d (jO x)))], []⟩
 refine jA <| kx [(1, (.ref 0 0))] [(0, some (bx (jO x)))] (zN (uX 0) <| zM <| zZ) ?_
 refine jA <| kx [(2, (kE (x.num.gs.length + x.den.gs.length)))] [] (zE (kU vZ) <| zE (kU uT) <| zR (uM xI) <| zE (nC kV) <| zE (kU uY) <| zE (kU uT) <| zR (uM xI) <| zE (nC kV) <| zE (qQ (x.num.gs.length + x.den.gs.length)) <| zM <| zZ) ?_
 refine jG ⟨_, (.tmp (d := (.val (.int .i64 ((((x.num.gs.length + x.den.gs.length) : Nat) : Int))))) rfl .nil), ?_⟩
 rfl
end Go.Proofs.YtbecgnplakngdaaGreat
namespace Go.Fid
def jM (a b c x y z : Rat) : Rat := a * x + b * y + c * z
theorem dot3_eq (a b c x y z : Rat) : jM a b c x y z = (((0 : Int) : Rat) + a * x + b * y + c * z) := by
  unfold jM; rw [Rat.intCast_zero, Rat.zero_add]
theorem jR {a b c x y z : Rat} {n k : Nat} (h1 : QL a n) (h2 : QL b n) (h3 : QL c n) (h4 : QL x n) (h5 : QL y n) (h6 : QL z n) (hk : 6 * n + 2 ≤ k) : QL (jM a b c x y z) k := by
  unfold jM
  exact yX (yX (jV h1 h4 (Nat.le_refl _)) (jV h2 h5 (Nat.le_refl _)) (Nat.le_refl _)) (jV h3 h6 (Nat.le_refl _)) (by omega)
def gU (a b c d : Int) : Nat := if a = 0 ∧ b = 0 ∧ c = 0 ∧ d = 0 then 1 else if (-1048576 ≤ a ∧ a ≤ 1048576) ∧ (-1048576 ≤ b ∧ b ≤ 1048576) ∧ (-1048576 ≤ c ∧ c ≤ 1048576) ∧ (-1048576 ≤ d ∧ d ≤ 1048576) then 0 else 3
theorem rotC_z {a b c d : Int} (h : a = 0 ∧ b = 0 ∧ c = 0 ∧ d = 0) : gU a b c d = 1 := if_pos h
theorem bF {a b c d : Int} (h : ¬ (a = 0 ∧ b = 0 ∧ c = 0 ∧ d = 0)) (h2 : ¬ ((-1048576 ≤ a ∧ a ≤ 1048576) ∧ (-1048576 ≤ b ∧ b ≤ 1048576) ∧ (-1048576 ≤ c ∧ c ≤ 1048576) ∧ (-1048576 ≤ d ∧ d ≤ 1048576))) : gU a b c d = 3 := by unfold gU; rw [if_neg h, if_neg h2]
theorem bL {a b c d : Int} (h : ¬ (a = 0 ∧ b = 0 ∧ c = 0 ∧ d = 0)) (h2 : (-1048576 ≤ a ∧ a ≤ 1048576) ∧ (-1048576 ≤ b ∧ b ≤ 1048576) ∧ (-1048576 ≤ c ∧ c ≤ 1048576) ∧ (-1048576 ≤ d ∧ d ≤ 1048576)) : gU a b c d = 0 := by unfold gU; rw [if_neg h, if_pos h2]
def mQ (x y z u v f : Int) : Prop := (-1048576 ≤ x ∧ x ≤ 1048576) ∧ (-1048576 ≤ y ∧ y ≤ 1048576) ∧ (-1048576 ≤ z ∧ z ≤ 1048576) ∧ (-1048576 ≤ u ∧ u ≤ 1048576) ∧ (-1048576 ≤ v ∧ v ≤ 1048576) ∧ (1 ≤ f ∧ f ≤ 1048576)
instance {x y z u v f : Int} : Decidable (mQ x y z u v f) := by unfold mQ; infer_instance
def uL (x y z u v f a b c d : Int) : Nat := if mQ x y z u v f then gU a b c d else 2
theorem cS {x y z u v f a b c d : Int} (h : ¬ mQ x y z u v f) : uL x y z u v f a b c d = 2 := if_neg h
theorem cV {x y z u v f a b c d : Int} (h : mQ x y z u v f) : uL x y z u v f a b c d = gU a b c d := if_pos h
theorem vJ {a b : Int} (ha : -1048576 ≤ a ∧ a ≤ 1048576) (hb : -1048576 ≤ b ∧ b ≤ 1048576) : -1099511627776 ≤ a * b ∧ a * b ≤ 1099511627776 := by
  have h1 : (a * b).natAbs ≤ 1048576 * 1048576 := by
    rw [Int.natAbs_mul]; exact Nat.mul_le_mul (by omega) (by omega)
  omega
end Go.Fid
set_option linter.unusedVariables false
set_option linter.unusedSimpArgs false
namespace Go.Fid
open Go.RowKit (Below)
section
variable {P : Program} {o : Oper} {S : Nat → SV}
end
def RKs (P : Program) (o : Oper) (S : SL) (B : BS) (ks : List Nat) (x : SV) : Prop := ∃ rd : List (Nat × List SV), rd.map (·.1) = ks ∧ vI P o (qN S) rd x ∧ ∀ p ∈ rd, uQ B p.1 = some p.2
section
variable {P : Program} {n : Fr} {ops : Array Oper} {K : SL → BS → Prop} {S : SL} {B : BS} {l : List Oper} {o : Oper} {news : List Nat} {acc0 : List (List Nat × List Nat)}
theorem wC {ks : List Nat} {x : SV} (h : RKs P o S B ks x) (r : DK P n ops K news (acc0 ++ [(ks, [])]) ((dO o, x) :: S) B l) (g : goK n ops S o = true := by kernel_rfl) (hn : clearR ops S o news x = true := by kernel_rfl) : DK P n ops K news acc0 S B (o :: l) := by
  obtain ⟨st1, acc, r1, r0, r2⟩ := r
  obtain ⟨rd, hk, h, hbk⟩ := h
  obtain ⟨hd, hg, hb⟩ := mS g
  have hs := dB.e (P := P) (n := n) (ops := ops) (news := news) (st := ⟨S, B⟩) (o := o) h hg (by rw [hd]; exact hb) hbk hn
  rw [hd, hk] at hs
  exact ⟨st1, (ks, []) :: acc, .cons hs r1, by simpa using r0, r2⟩
end
end Go.Fid
set_option linter.unusedVariables false
set_option linter.unusedSimpArgs false
namespace Go.Fid
open Go.RowKit (Below)
inductive bX (bl : List (Nat × List qF)) (E : TypeId) : List SV → List qF → Prop
  | nil : bX bl E [] []
  | d {x : qF} {zs : List SV} {ds : List qF} (h : bX bl E zs ds) : bX bl E (.d x :: zs) (x :: ds)
  | v {k q n s : Nat} {cs es : List qF} {zs : List SV} {ds : List qF} (hk : (k, cs) ∈ bl) (hes : ∀ e ∈ es, e.cells.length = s) (hl : es.length = n) (hc : (cs.drop q).take (n * s) = uU es) (h : bX bl E zs ds) : bX bl E (.view k q n :: zs) (.sl E s es :: ds)
  | p {k o : Nat} {cs : List qF} {zs : List SV} {ds : List qF} (hk : (k, cs) ∈ bl) (h : bX bl E zs ds) : bX bl E (.ref k o :: zs) (.cptr E cs o :: ds)
theorem bX.len {bl : List (Nat × List qF)} {E : TypeId} {zs : List SV} {ds : List qF} (h : bX bl E zs ds) : zs.length = ds.length := by
  induction h with
  | nil => rfl
  | d h ih => simp [ih]
  | v hk hes hl hc h ih => simp [ih]
  | p hk h ih => simp [ih]
theorem bX.rep {bl : List (Nat × List qF)} {E : TypeId} {zs : List SV} {ds : List qF} (h : bX bl E zs ds) {w : World} {D D' : uW} {β : vR} (h1 : ∀ v x, xK w D v x → xK w D' v x)
    (h2 : ∀ (k q n s : Nat) (cs es : List qF) (v : Value), (k, cs) ∈ bl → (∀ e ∈ es, e.cells.length = s) → es.length = n → (cs.drop q).take (n * s) = uU es → vO w D β v (.view k q n) → xK w D' v (.sl E s es))
    (h3 : ∀ (k o : Nat) (cs : List qF) (v : Value), (k, cs) ∈ bl → vO w D β v (.ref k o) → xK w D' v (.cptr E cs o)) :
    ∀ (vs : List Value), vs.length = zs.length → (∀ (i : Nat) v x, vs[i]? = some v → zs[i]? = some x → vO w D β v x) → ∀ (i : Nat) v d, vs[i]? = some v → ds[i]? = some d → xK w D' v d := by
  induction h with
  | nil => intro vs _ _ i v d _ hd; simp at hd
  | d h ih =>
    intro vs hl hr i v d' hv hd
    rcases vs with _ | ⟨v0, vs⟩
    · simp at hl
    · rcases i with _ | i
      · simp at hv hd; subst hv; subst hd; exact h1 _ _ (hr 0 _ _ rfl rfl)
      · exact ih vs (by simpa using hl) (fun i v x h3 h4 => hr (i + 1) v x (by simpa using h3) (by simpa using h4)) i v d' (by simpa using hv) (by simpa using hd)
  | v hk hes hl' hc h ih =>
    intro vs hl hr i v d' hv hd
    rcases vs with _ | ⟨v0, vs⟩
    · simp at hl
    · rcases i with _ | i
      · simp at hv hd; subst hv; subst hd; exact h2 _ _ _ _ _ _ _ hk hes hl' hc (hr 0 _ _ rfl rfl)
      · exact ih vs (by simpa using hl) (fun i v x h3 h4 => hr (i + 1) v x (by simpa using h3) (by simpa using h4)) i v d' (by simpa using hv) (by simpa using hd)
  | p hk h ih =>
    intro vs hl hr i v d' hv hd
    rcases vs with _ | ⟨v0, vs⟩
    · simp at hl
    · rcases i with _ | i
      · simp at hv hd; subst hv; subst hd; exact h3 _ _ _ _ hk (hr 0 _ _ rfl rfl)
      · exact ih vs (by simpa using hl) (fun i v x h3 h4 => hr (i + 1) v x (by simpa using h3) (by simpa using h4)) i v d' (by simpa using hv) (by simpa using hd)
theorem blk_pub {w : World} {D : uW} {β : vR} {bl : List (Nat × List qF)} {E : TypeId} (hD : DOk D w) (hbl : ∀ p ∈ bl, yQ w D β p.1 (p.2.map SV.d)) :
    ∃ X : TypeId → Nat → Nat → Prop, DOk (fun t g i => D t g i ∨ X t g i) w ∧ (∀ t g i, X t g i → t = E ∧ ∀ t' i', ¬ D t' g i') ∧
      (∀ (k q n s : Nat) (cs es : List qF) (v : Value), (k, cs) ∈ bl → (∀ e ∈ es, e.cells.length = s) → es.length = n → (cs.drop q).take (n * s) = uU es → vO w D β v (.view k q n) → xK w (fun t g i => D t g i ∨ X t g i) v (.sl E s es)) ∧
      (∀ (k o : Nat) (cs : List qF) (v : Value), (k, cs) ∈ bl → vO w D β v (.ref k o) → xK w (fun t g i => D t g i ∨ X t g i) v (.cptr E cs o)) := by
  let X : TypeId → Nat → Nat → Prop := fun t g _ => t = E ∧ ∃ p ∈ bl, β p.1 = some g
  have hcap : ∀ p ∈ bl, ∀ b, β p.1 = some b → ∃ us T', w.heap[b]? = some (.cells us T' (0, 0)) ∧ (∀ (j : Nat) x, (p.2.map SV.d)[j]? = some x → ∃ u, us[j]? = some u ∧ u.oneCell' = true ∧ vO w D β u x) ∧ ∀ t o, ¬ D t b o := fun p hp b hb => by
    rcases hbl p hp with ⟨g1, _⟩ | ⟨b', us, T', g1, g2, g3, g4, g5⟩
    · rw [hb] at g1; cases g1
    · obtain rfl : b = b' := by rw [hb] at g1; injection g1
      exact ⟨us, T', g2, g4, g5⟩
  have hmono : ∀ t' g i, D t' g i → (D t' g i ∨ X t' g i) ∧ w.cell? ⟨g, i, none⟩ = w.cell? ⟨g, i, none⟩ := fun t' g i hd => ⟨.inl hd, rfl⟩
  refine ⟨X, fun t g i hd => ?_, fun t g i ⟨h1, p, hp, hb⟩ => ?_, ?_, ?_⟩
  · rcases hd with hd | ⟨_, p, hp, hb⟩
    · exact hD _ _ _ hd
    · obtain ⟨us, T', g2, _, _⟩ := hcap p hp g hb; exact zQ g2
  · obtain ⟨us, T', _, _, g5⟩ := hcap p hp g hb
    exact ⟨h1, fun t' i' => g5 t' i'⟩
  · intro k q n s cs es v hk hes hl hc hv
    obtain ⟨b, cap, h1, h2, h5, h6⟩ := hv
    obtain ⟨us, T', g2, g4, g5⟩ := hcap (k, cs) hk b h1
    rw [h2]
    have hfl := xL hes
    have hcell : ∀ i, w.cell? ⟨b, i, none⟩ = us[i]? := fun i => cell_of_row w b i us T' (0, 0) g2
    have key : ∀ (i : Nat) d, (uU es)[i]? = some d → ∃ u, us[q + i]? = some u ∧ u.oneCell' = true ∧ xK w D u d := fun i d hd => by
      have hi : i < n * s := by
        have := (List.getElem?_eq_some_iff.1 hd).1
        rw [hfl, hl] at this; exact this
      have e1 : cs[q + i]? = some d := by
        rw [← hc, List.getElem?_take_of_lt hi, List.getElem?_drop] at hd
        exact hd
      exact g4 _ (.d d) (by rw [List.getElem?_map, e1]; rfl)
    refine xK.sl b q (fun i => us.getD (q + i) undef) hl.symm h5 h6 hes (fun _ => rfl) (fun i hi => .inr ⟨rfl, _, hk, h1⟩) (fun i hi => ?_) (fun i hi => ?_) (fun i d hd => ?_)
    · obtain ⟨x, q1, q2, q3⟩ := key i _ (List.getElem?_eq_getElem hi)
      rw [hcell, Array.getD_eq_getD_getElem?, q1]; rfl
    · obtain ⟨x, q1, q2, q3⟩ := key i _ (List.getElem?_eq_getElem hi)
      rw [Array.getD_eq_getD_getElem?, q1]; exact q2
    · obtain ⟨x, q1, q2, q3⟩ := key i d hd
      rw [Array.getD_eq_getD_getElem?, q1]
      exact xK.mono hmono q3
  · intro k o cs v hk hv
    obtain ⟨b, h1, h2⟩ := hv
    obtain ⟨us, T', g2, g4, g5⟩ := hcap (k, cs) hk b h1
    rw [h2]
    have hcell : ∀ i, w.cell? ⟨b, i, none⟩ = us[i]? := fun i => cell_of_row w b i us T' (0, 0) g2
    have key : ∀ (i : Nat) d, cs[i]? = some d → ∃ u, us[i]? = some u ∧ u.oneCell' = true ∧ xK w D u d := fun i d hd => g4 _ (.d d) (by rw [List.getElem?_map, hd]; rfl)
    have hp := xK.cptr (w := w) (D := fun t g i => D t g i ∨ X t g i) (t := E) (cs := cs) (off := o) b 0 (fun i => us.getD i undef) (fun i hi => .inr ⟨rfl, _, hk, h1⟩) (fun i hi => by
      obtain ⟨x, q1, q2, q3⟩ := key i _ (List.getElem?_eq_getElem hi)
      rw [Nat.zero_add, hcell, Array.getD_eq_getD_getElem?, q1]; rfl) (fun i hi => by
      obtain ⟨x, q1, q2, q3⟩ := key i _ (List.getElem?_eq_getElem hi)
      rw [Array.getD_eq_getD_getElem?, q1]; exact q2) (fun i d hd => by
      obtain ⟨x, q1, q2, q3⟩ := key i d hd
      rw [Array.getD_eq_getD_getElem?, q1]
      exact xK.mono hmono q3)
    rw [Nat.zero_add] at hp
    exact hp
theorem e_clg {P : Program} {o : Oper} {S : Nat → SV} {y : Operand} {xs : List Operand} {ats : Array TypeId} {f : FuncId} {ds : List qF} {r : qF} {zs : List SV} {E : TypeId} {bl : List (Nat × List qF)} (hf : kF P f ds r) (ho : o.op = .call { callee := .value y, args := xs.toArray, argTypes := ats }) (hy : ev S y = .d (.val (.func (.func f) #[] #[])))
    (hx : xs.map (ev S) = zs) (hz : bX bl E zs ds) (ha : yW E r) : vI P o S (bl.map fun p => (p.1, p.2.map SV.d)) (.d r) :=
  fun a w D β Q hop hrd hD => by
    have hyv := hop y (by simp [ho, Op.operands, Call.operands])
    rw [hy] at hyv
    have hyv' := vT hyv
    have hrep : ∀ (i : Nat) v x, (xs.map a.eval)[i]? = some v → zs[i]? = some x → vO w D β v x := fun i v x hv hz' => by
      rw [List.getElem?_map, Option.map_eq_some_iff] at hv
      obtain ⟨p, hqi, rfl⟩ := hv
      have hm := hop p (by simp [ho, Op.operands, Call.operands, List.mem_of_getElem? hqi])
      have hi := congrArg (fun l : List SV => l[i]?) hx
      simp only [List.getElem?_map, hqi, hz', Option.map_some, Option.some.injEq] at hi
      rw [hi] at hm
      exact hm
    have vD : (xs.map a.eval).length = zs.length := by rw [← hx]; simp
    have hrun : (execOp a.eval o).run P w = .ok (.enter f (xs.map a.eval).toArray) w := by
      simp only [execOp, ho, resolve, Deferred.ofValue, hyv', Sem.run_bind, Sem.run_pure, Result.andThen_ok, invoke, Array.empty_append, Array.append_empty]
      rw [gV hf.may]
      simp
    obtain ⟨X, hD', hXp, hv, hp⟩ := blk_pub (E := E) (bl := bl) hD (fun p hp => hrd (p.1, p.2.map SV.d) (List.mem_map_of_mem (f := fun p : Nat × List qF => (p.1, p.2.map SV.d)) hp))
    have hmono : ∀ t' g i, D t' g i → (D t' g i ∨ X t' g i) ∧ w.cell? ⟨g, i, none⟩ = w.cell? ⟨g, i, none⟩ := fun t' g i hd => ⟨.inl hd, rfl⟩
    have hargs : Args w (fun t g i => D t g i ∨ X t g i) (xs.map a.eval) ds := ⟨vD.trans hz.len, hz.rep (fun v x h => xK.mono hmono h) hv hp _ vD hrep⟩
    refine eN hrun ((hf.run w _ _ hD' hargs).mono fun e w' h => ?_)
    obtain ⟨v, D2, he, h1, h2, h3⟩ := h
    refine ⟨v, he, v, fun t g i => D2 t g i ∧ ¬ X t g i, rfl, h1, ⟨fun t g i hd => ⟨h2.up _ _ _ (.inl hd), fun hx' => (hXp t g i hx').2 t i hd⟩, fun t g i hd => ?_⟩, ?_⟩
    · rcases h2.new t g i hd.1 with h | h
      · rcases h with h | h
        · exact .inl h
        · exact absurd h hd.2
      · exact .inr h
    · exact ha.rep (fun t g i hne hd => ⟨hd, fun hx' => hne (hXp t g i hx').1⟩) h3
theorem oCg {P : Program} {o : Oper} {S : SL} {B : BS} {y : Operand} {xs : List Operand} {ats : Array TypeId} {f : FuncId} {ds : List qF} {r : qF} (bl : List (Nat × List qF)) (zs : List SV) (hf : kF P f ds r) (hz : bX bl 1000000 zs ds) (ha : yW 1000000 r)
    (ho : o.op = .call { callee := .value y, args := xs.toArray, argTypes := ats } := by exact rfl) (hy : ev (qN S) y = .d (.val (.func (.func f) #[] #[])) := by kernel_rfl) (hx : xs.map (ev (qN S)) = zs := by kernel_rfl)
    (hb : bl.map (fun p => uQ B p.1) = bl.map (fun p => some (p.2.map SV.d)) := by kernel_rfl) {ks : List Nat} (hks : bl.map (·.1) = ks := by exact rfl) : RKs P o S B ks (.d r) := by
  refine ⟨bl.map fun p => (p.1, p.2.map SV.d), by rw [List.map_map]; exact hks, e_clg hf ho hy hx hz ha, fun p hp => ?_⟩
  obtain ⟨q, hq, rfl⟩ := List.mem_map.1 hp
  exact List.map_inj_left.1 hb q hq
theorem pub_ptr_core {C : Ctx} {a : Act} {w : World} {st : PS} {D : uW} {β : vR} {k : Nat} {T : TypeId} {cs : List qF} (h : SimAt C a w st D β) (hb : uQ st.bs k = some (cs.map SV.d)) :
    ∃ D', SimAt C a w ⟨st.sl, (k, none) :: st.bs⟩ D' β ∧ ∀ v o, vO w D β v (.ref k o) → xK w D' v (.cptr T cs o) := by
  have hbs : ∀ {j : Nat} {c : List SV}, uQ ((k, none) :: st.bs) j = some c → j ≠ k ∧ uQ st.bs j = some c := fun {j c} hj => by
    rw [qG] at hj
    split at hj
    · cases hj
    · rename_i e; exact ⟨fun e' => e e'.symm, hj⟩
  rcases h.mem.ok k _ hb with ⟨g1, hcs⟩ | ⟨b, vs, T', g1, g2, g3, g4, g5⟩
  · refine ⟨D, ⟨h.base, ⟨fun j c hj => h.mem.ok j c (hbs hj).2, fun j1 j2 c1 c2 q1 q2 => h.mem.inj j1 j2 c1 c2 (hbs q1).2 (hbs q2).2⟩, fun j c hj => h.high j c (hbs hj).2, h.slots⟩, fun v o hv => ?_⟩
    obtain ⟨b, h1, _⟩ := hv
    rw [h1] at g1; cases g1
  · have hlt := zQ g2
    have hmono : ∀ t' g o, D t' g o → (D t' g o ∨ (t' = T ∧ g = b ∧ o < cs.length)) ∧ w.cell? ⟨g, o, none⟩ = w.cell? ⟨g, o, none⟩ := fun t' g o hd => ⟨.inl hd, rfl⟩
    have hS : ∀ {v x}, vO w D β v x → vO w (fun t' g o => D t' g o ∨ (t' = T ∧ g = b ∧ o < cs.length)) β v x := fun {v x} hr => by
      cases x with
      | d x => exact xK.mono hmono hr
      | ref k o => exact hr
      | own k t s n => exact hr
      | clo f ks => exact hr
      | emp => exact hr
      | view k o n => exact hr
      | junk => trivial
    refine ⟨fun t' g o => D t' g o ∨ (t' = T ∧ g = b ∧ o < cs.length), ⟨⟨h.base.defers, h.base.size, h.base.keep, h.base.oth, h.base.pin, h.base.below, fun t' g o hd => .inl (h.base.dmono _ _ _ hd), fun t' g o hd => ?_, fun t' g o hd => ?_⟩, ⟨fun j c hj => ?_, fun j1 j2 c1 c2 q1 q2 => h.mem.inj j1 j2 c1 c2 (hbs q1).2 (hbs q2).2⟩, fun j c hj => h.high j c (hbs hj).2, fun u => hS (h.slots u)⟩, fun v o hv => ?_⟩
    · rcases hd with hd | ⟨_, e, _⟩
      · exact h.base.dnew _ _ _ hd
      · subst e; exact .inr (h.high k _ hb g g1)
    · rcases hd with hd | ⟨_, e, _⟩
      · exact h.base.dok _ _ _ hd
      · subst e; exact hlt
    · obtain ⟨hne, hj'⟩ := hbs hj
      rcases h.mem.ok j c hj' with q | ⟨b2, vs2, T2, q1, q2, q3, q4, q5⟩
      · exact .inl q
      · refine .inr ⟨b2, vs2, T2, q1, q2, q3, fun i x hx => ?_, fun t' o hd => ?_⟩
        · obtain ⟨u, e1, e2, e3⟩ := q4 i x hx
          exact ⟨u, e1, e2, hS e3⟩
        · rcases hd with hd | ⟨_, e, _⟩
          · exact q5 _ _ hd
          · subst e; exact hne (h.mem.inj j k _ _ hj' hb b2 q1 g1)
    · obtain ⟨b2, h1, h2⟩ := hv
      obtain rfl : b = b2 := by rw [h1] at g1; injection g1 with g1; exact g1.symm
      rw [h2]
      have hcell : ∀ i, w.cell? ⟨b, i, none⟩ = vs[i]? := fun i => cell_of_row w b i vs T' (0, 0) g2
      have key : ∀ (i : Nat) d, cs[i]? = some d → ∃ u, vs[i]? = some u ∧ u.oneCell' = true ∧ xK w D u d := fun i d hd => g4 _ (.d d) (by rw [List.getElem?_map, hd]; rfl)
      have hp := xK.cptr (w := w) (D := fun t' g o => D t' g o ∨ (t' = T ∧ g = b ∧ o < cs.length)) (t := T) (cs := cs) (off := o) b 0 (fun i => vs.getD i undef) (fun i hi => .inr ⟨rfl, rfl, by rw [Nat.zero_add]; exact hi⟩) (fun i hi => by
        obtain ⟨x, q1, q2, q3⟩ := key i _ (List.getElem?_eq_getElem hi)
        rw [Nat.zero_add, hcell, Array.getD_eq_getD_getElem?, q1]; rfl) (fun i hi => by
        obtain ⟨x, q1, q2, q3⟩ := key i _ (List.getElem?_eq_getElem hi)
        rw [Array.getD_eq_getD_getElem?, q1]; exact q2) (fun i d hd => by
        obtain ⟨x, q1, q2, q3⟩ := key i d hd
        rw [Array.getD_eq_getD_getElem?, q1]
        exact xK.mono hmono q3)
      rw [Nat.zero_add] at hp
      exact hp
theorem publishP {st : PS} {t k o : Nat} {T : TypeId} {cs : List qF} (hs : qN st.sl t = .ref k o) (hb : uQ st.bs k = some (cs.map SV.d)) : jZ st ⟨(t, .d (.cptr T cs o)) :: st.sl, (k, none) :: st.bs⟩ := fun C a w ⟨D, β, h⟩ => by
  obtain ⟨D', h', hp⟩ := pub_ptr_core (T := T) h hb
  have ht := h.slots t
  rw [hs] at ht
  refine ⟨D', β, h'.base, h'.mem, h'.high, fun u => ?_⟩
  show vO w D' β _ (qN ((t, .d (.cptr T cs o)) :: st.sl) u)
  rw [vS]
  split
  · rename_i e; subst e; exact hp _ _ ht
  · exact h'.slots u
end Go.Fid
set_option linter.unusedVariables false
set_option linter.unusedSimpArgs false
namespace Go.Fid
variable {P : Program}
def intFs (P : Program) : List Field → Nat → Bool
  | [], _ => true
  | f :: l, i => (f.name != "_") && (Nat.beq f.offset i && ((match P.underlying f.type with | some (.int _) => true | _ => false) && intFs P l (i + 1)))
def eqsB (P : Program) (T : TypeId) : Option Nat :=
  match P.underlying T with
  | some (.struct fs) => if intFs P fs.toList 0 && (!P.stoodInHeld T && !P.eqGuardType P.depth T) then some fs.size else none
  | _ => none
theorem run_part_int {t : TypeId} {ms : List Int} {i : Nat} {m : Int} {k j : IntKind} (ht : P.underlying t = some (.int j)) (hi : ms[i]? = some m) (w : World) : (part t (ms.map (Value.int k)).toArray i).run P w = .ok (.int k m) w := by
  have h2 : (ms.map (Value.int k))[i]? = some (.int k m) := by rw [List.getElem?_map, hi]; rfl
  simp [part, bP ht, isAggD, h2]
theorem run_eqInt {t : TypeId} {k j : IntKind} {m n : Int} (ht : P.underlying t = some (.int j)) (d : Nat) (w : World) : (Op.equalIn (d + 1) t (.int k m) (.int k n)).run P w = .ok (m == n) w := by
  simp [Op.equalIn, run_underlying ht]
theorem run_fs (k : IntKind) (d : Nat) (w : World) (ms ns : List Int) : ∀ (l : List Field) (i : Nat), intFs P l i = true → ms.length = i + l.length → ns.length = i + l.length →
    Sem.run P (forIn l ((none, ()) : Option Bool × Unit) fun f _ =>
            if f.name = "_" then pure (ForInStep.yield (none, ()))
            else do
              let a ← part f.type (List.map (Value.int k) ms).toArray f.offset
              let b ← part f.type (List.map (Value.int k) ns).toArray f.offset
              let c ← Op.equalIn (d + 1) f.type a b
              if c = false then pure (ForInStep.done (some false, ())) else pure (ForInStep.yield (none, ()))) w = .ok (if ms.drop i = ns.drop i then (none, ()) else (some false, ())) w
  | [], i, _, h1, h2 => by
    have e1 : ms.drop i = [] := List.drop_eq_nil_of_le (by simp at h1; omega)
    have e2 : ns.drop i = [] := List.drop_eq_nil_of_le (by simp at h2; omega)
    rw [e1, e2]; simp
  | f :: l, i, h, h1, h2 => by
    unfold intFs at h
    simp only [Bool.and_eq_true, bne_iff_ne, ne_eq] at h
    obtain ⟨g1, g2, g3, g4⟩ := h
    have g2 : f.offset = i := Nat.eq_of_beq_eq_true g2
    have hd : ∃ j, P.underlying f.type = some (.int j) := by
      split at g3
      · rename_i j e; exact ⟨j, e⟩
      · cases g3
    obtain ⟨j, hj⟩ := hd
    simp only [List.length_cons] at h1 h2
    have b1 : i < ms.length := by omega
    have b2 : i < ns.length := by omega
    have ih := run_fs k d w ms ns l (i + 1) g4 (by omega) (by omega)
    have e1 := List.drop_eq_getElem_cons b1
    have e2 := List.drop_eq_getElem_cons b2
    simp only [List.forIn_cons, g1, if_false, g2, Sem.run_bind, run_part_int hj (List.getElem?_eq_getElem b1), run_part_int hj (List.getElem?_eq_getElem b2), Result.andThen_ok, run_eqInt hj]
    by_cases he : ms[i] = ns[i]
    · have hx : (ms.drop i = ns.drop i) = (ms.drop (i + 1) = ns.drop (i + 1)) := by
        rw [e1, e2, he]
        exact propext ⟨fun h => (List.cons.inj h).2, fun h => by rw [h]⟩
      simp only [he, beq_self_eq_true, Bool.true_eq_false, if_false, Sem.run_pure, Result.andThen_ok]
      rw [ih]
      simp only [hx]
    · have hx : ¬ ms.drop i = ns.drop i := by
        rw [e1, e2]
        exact fun h => he (List.cons.inj h).1
      have hb : (ms[i] == ns[i]) = false := by simp [he]
      simp only [hb, if_true, Sem.run_pure, Result.andThen_ok, if_neg hx]
theorem run_eqS {T : TypeId} {c : Nat} (h : eqsB P T = some c) (k : IntKind) (ms ns : List Int) (h1 : ms.length = c) (h2 : ns.length = c) (w : World) :
    (Op.equal T (.agg (ms.map (Value.int k)).toArray) (.agg (ns.map (Value.int k)).toArray)).run P w = .ok (decide (ms = ns)) w ∧ P.eqGuardType P.depth T = false := by
  unfold eqsB at h
  split at h
  · rename_i fs hT
    split at h
    · rename_i hq
      simp only [Bool.and_eq_true, Bool.not_eq_true'] at hq
      injection h with h
      refine ⟨?_, hq.2.2⟩
      show (Op.equalIn (9998 + 2) T _ _).run P w = _
      rw [Op.equalIn]
      have hl := run_fs k 9998 w ms ns fs.toList 0 hq.1 (by simp; omega) (by simp; omega)
      rw [Array.forIn_toList] at hl
      simp [run_underlying hT, hq.2.1]
      have hl2 := hl
      simp only [List.drop_zero] at hl2
      rw [hl2]
      by_cases e : ms = ns
      · simp [e]
      · simp [e]
    · cases h
  · cases h
theorem rep_ints {w : World} {D : uW} {v : Value} {k : IntKind} {ms : List Int} (h : xK w D v (.agg (ms.map fun m => .val (.int k m)))) : v = .agg (ms.map (Value.int k)).toArray := by
  obtain ⟨vs, rfl, hl, _, hr⟩ := rep_agg h
  have e : vs = ms.map (Value.int k) := by
    refine List.ext_getElem (by simpa using hl) fun i h1 h2 => ?_
    have hi : i < ms.length := by simpa using h2
    have := vT (hr i vs[i] (.val (.int k ms[i])) (List.getElem?_eq_getElem h1) (by rw [List.getElem?_map, List.getElem?_eq_getElem hi]; rfl))
    rw [this]; simp
  rw [e]
theorem e_eqs {o : Oper} {S : Nat → SV} {T T' : TypeId} {x y : Operand} {k : IntKind} {ms ns : List Int} {c : Nat} (ho : o.op = .binOp .eql T x y T') (hT : eqsB P T = some c) (hx : ev S x = .d (.agg (ms.map fun m => .val (.int k m)))) (hy : ev S y = .d (.agg (ns.map fun m => .val (.int k m)))) (h1 : ms.length = c) (h2 : ns.length = c) : vI P o S [] (.d (.val (.bool (decide (ms = ns))))) :=
  vI.same fun a w D β hop _ => by
    have hx' := hop x (by simp [ho, Op.operands])
    have hy' := hop y (by simp [ho, Op.operands])
    rw [hx] at hx'
    rw [hy] at hy'
    have ex := rep_ints hx'
    have ey := rep_ints hy'
    obtain ⟨g1, g2⟩ := run_eqS hT k ms ns h1 h2 w
    refine ⟨.bool (decide (ms = ns)), ?_, .val _⟩
    simp [execOp, ho, ex, ey, eqGuard, g2, binOp, g1]
theorem oEs {P : Program} {o : Oper} {S : Nat → SV} {T T' : TypeId} {x y : Operand} {c : Nat} (hT : eqsB P T = some c) (k : IntKind) (ms ns : List Int) (ho : o.op = .binOp .eql T x y T' := by exact rfl) (hx : ev S x = .d (.agg (ms.map fun m => .val (.int k m))) := by kernel_rfl) (hy : ev S y = .d (.agg (ns.map fun m => .val (.int k m))) := by kernel_rfl) (h1 : ms.length = c := by exact rfl) (h2 : ns.length = c := by exact rfl) : vI P o S [] (.d (.val (.bool (decide (ms = ns))))) := e_eqs ho hT hx hy h1 h2
end Go.Fid
