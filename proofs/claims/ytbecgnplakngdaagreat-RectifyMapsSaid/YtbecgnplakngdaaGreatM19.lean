/- Part 19 of a proof: rules, plain facts, and functions walked. -/
import Derived.Test.YtbecgnplakngdaaGreatM18
import Derived.Test.YtbecgnplakngdaaGreatM10
import Derived.Test.YtbecgnplakngdaaGreatM12
namespace Go.Proofs.YtbecgnplakngdaaGreat
open Go.Fid
set_option maxRecDepth 4000
set_option linter.unusedVariables false
set_option linter.unusedSimpArgs false
theorem cb17 : callB Tryz.prog 17 = true := by kernel_rfl
theorem cb21 : callB Tryz.prog 21 = true := by kernel_rfl
theorem cb26 : callB Tryz.prog 26 = true := by kernel_rfl
theorem cb32 : callB Tryz.prog 32 = true := by kernel_rfl
theorem cb34 : callB Tryz.prog 34 = true := by kernel_rfl
theorem cb43 : callB Tryz.prog 43 = true := by kernel_rfl
theorem cb57 : callB Tryz.prog 57 = true := by kernel_rfl
theorem cb64 : callB Tryz.prog 64 = true := by kernel_rfl
theorem cb85 : callB Tryz.prog 85 = true := by kernel_rfl
theorem cb88 : callB Tryz.prog 88 = true := by kernel_rfl
theorem cb89 : callB Tryz.prog 89 = true := by kernel_rfl
theorem cb91 : callB Tryz.prog 91 = true := by kernel_rfl
theorem cb93 : callB Tryz.prog 93 = true := by kernel_rfl
theorem g_reduced (num den : jF) (a b : Int) (eC : nB num a 68719476736) (mL : nB den b 68719476736) (hb : b ≠ 0) : kE Tryz.prog 93 [(kB num), (kB den)] (jR (jB (Rat.divInt a b))) := by
 refine jN Tryz.func93 rfl cb93 rfl ?_
 show uT _ _ _ _ ⟨[(0, (.d (kB num))), (1, (.d (kB den)))], []⟩
 refine jA <| kx [(2, (.ref 0 0)), (3, (.ref 1 0)), (4, (.ref 2 0))] [(0, some (bx (kB num))), (1, some (bx (kB den))), (2, some (bx (jR (jQ.mk (jF.mk false []) (jF.mk false [])))))] (zN (uX 0) <| zN (uX 1) <| zN (qS 2 qR qY) <| zZ) ?_
 refine jA <| kx [(5, (.ref 3 0))] [(3, some (bx (kB (qD ((Int.gcd a b : Nat) : Int)))))] (zR (kC kW) <| zR (kC kW) <| zE (kA (rs_gcd eC mL (by decide) (by decide))) <| zN (qS 3 gR gQ) <| zT (qB kW) <| zZ) ?_
 refine jA <| jA <| kx [(17, (vb (decide ((vA b) < 0))))] [] (zR (kC kW) <| zE (kA (rs_sign mL (by decide))) <| zE uW <| zZ) ?_
 refine jY (b := decide ((vA b) < 0)) rfl (fun h1 => ?_) (fun h1 => ?_)
 ·replace h1 := of_decide_eq_true h1
  have hlt := signI_lt.1 h1
  refine kx [] [(3, some (bx (kB (qD (-(((Int.gcd a b : Nat) : Int)))))))] (zR (kC kW) <| zE (kA (rs_neg (gM (k := 68719476736) eC mL (by decide)) (by decide))) <| zT (qB kW) <| zZ) ?_
  refine jA <| kx [(6, (.ref 4 0))] [(4, some (bx (kB (qD (a.fdiv (-(((Int.gcd a b : Nat) : Int)))))))), (5, none)] (zR (kC kW) <| zR (kC kW) <| zE (kA (rs_divide eC (mB (gM (k := 68719476736) eC mL (by decide))) (by decide) (by decide) (by have := gcd_ne (a := a) hb; omega))) <| zM <| zE uH <| zE uH <| zE uH <| zN (qS 4 gR gQ) <| zN (qS 5 gR gQ) <| zT (qB kW) <| zT (qB kW) <| zM <| zZ) ?_
  refine jA <| kx [(9, (.ref 6 0))] [(6, some (bx (kB (qD (b.fdiv (-(((Int.gcd a b : Nat) : Int)))))))), (7, none)] (zR (kC kW) <| zR (kC kW) <| zE (kA (rs_divide mL (mB (gM (k := 68719476736) eC mL (by decide))) (by decide) (by decide) (by have := gcd_ne (a := a) hb; omega))) <| zM <| zE uH <| zE uH <| zE uH <| zN (qS 6 gR gQ) <| zN (qS 7 gR gQ) <| zT (qB kW) <| zT (qB kW) <| zM <| zZ) ?_
  refine jA <| kx [] [(2, some (bx (jR (jQ.mk (qD (a.fdiv (-(((Int.gcd a b : Nat) : Int))))) (qD (b.fdiv (-(((Int.gcd a b : Nat) : Int)))))))))] (zR (kC kW) <| zR (kC kW) <| zE (fK pl42 qR qY) <| zT (qB jT) <| zZ) ?_
  refine jJ ⟨_, (qI (cs := (bx (jR (jQ.mk (qD (a.fdiv (-(((Int.gcd a b : Nat) : Int))))) (qD (b.fdiv (-(((Int.gcd a b : Nat) : Int))))))))) (d := (jR (jQ.mk (qD (a.fdiv (-(((Int.gcd a b : Nat) : Int))))) (qD (b.fdiv (-(((Int.gcd a b : Nat) : Int)))))))) rfl rfl jT rfl rfl .nil), ?_⟩
  rw [← red_neg2 hlt]; rfl
 ·replace h1 := of_decide_eq_false h1
  have hge : ¬ b < 0 := fun hh => h1 (signI_lt.2 hh)
  refine jE <| jA <| kx [(6, (.ref 8 0))] [(8, some (bx (kB (qD (a.fdiv (((Int.gcd a b : Nat) : Int))))))), (9, none)] (zR (kC kW) <| zR (kC kW) <| zE (kA (rs_divide eC (gM (k := 68719476736) eC mL (by decide)) (by decide) (by decide) (by have := gcd_ne (a := a) hb; omega))) <| zM <| zE uH <| zE uH <| zE uH <| zN (qS 8 gR gQ) <| zN (qS 9 gR gQ) <| zT (qB kW) <| zT (qB kW) <| zM <| zZ) ?_
  refine jA <| kx [(9, (.ref 10 0))] [(10, some (bx (kB (qD (b.fdiv (((Int.gcd a b : Nat) : Int))))))), (11, none)] (zR (kC kW) <| zR (kC kW) <| zE (kA (rs_divide mL (gM (k := 68719476736) eC mL (by decide)) (by decide) (by decide) (by have := gcd_ne (a := a) hb; omega))) <| zM <| zE uH <| zE uH <| zE uH <| zN (qS 10 gR gQ) <| zN (qS 11 gR gQ) <| zT (qB kW) <| zT (qB kW) <| zM <| zZ) ?_
  refine jA <| kx [] [(2, some (bx (jR (jQ.mk (qD (a.fdiv (((Int.gcd a b : Nat) : Int)))) (qD (b.fdiv (((Int.gcd a b : Nat) : Int))))))))] (zR (kC kW) <| zR (kC kW) <| zE (fK pl42 qR qY) <| zT (qB jT) <| zZ) ?_
  refine jJ ⟨_, (qI (cs := (bx (jR (jQ.mk (qD (a.fdiv (((Int.gcd a b : Nat) : Int)))) (qD (b.fdiv (((Int.gcd a b : Nat) : Int)))))))) (d := (jR (jQ.mk (qD (a.fdiv (((Int.gcd a b : Nat) : Int)))) (qD (b.fdiv (((Int.gcd a b : Nat) : Int))))))) rfl rfl jT rfl rfl .nil), ?_⟩
  rw [red_pos hge hb]; rfl
theorem g_whole1 (n : Int) (hlo : -9223372036854775808 ≤ n) (hhi : n ≤ 9223372036854775807) : kE Tryz.prog 91 [(.val (.int .i64 (n)))] (kB (qD n)) := by
 refine jN Tryz.func91 rfl cb91 rfl ?_
 show uT _ _ _ _ ⟨[(0, (vi n))], []⟩
 refine jA <| kx [(2, (.ref 0 0))] [(0, some (bx (kB (jF.mk false []))))] (zN (qS 0 gR gQ) <| zZ) ?_
 refine jA <| kx [] [(0, some (bx (kB (qD n))))] (zM <| zE (kA (r_of n (by omega) (by omega))) <| zT (qB kW) <| zZ) ?_
 refine jJ ⟨_, (qI (cs := (bx (kB (qD n)))) (d := (kB (qD n))) rfl rfl kW rfl rfl .nil), ?_⟩
 rfl
theorem gD (n : Int) (hlo : -9223372036854775808 ≤ n) (hhi : n ≤ 9223372036854775807) : kE Tryz.prog 21 [(.val (.int .i64 (n)))] (jR (jB ((n : Int) : Rat))) := by
 refine jN Tryz.func21 rfl cb21 rfl ?_
 show uT _ _ _ _ ⟨[(0, (vi n))], []⟩
 refine jA <| kx [(2, (.ref 0 0))] [(0, some (bx (jR (jQ.mk (jF.mk false []) (jF.mk false [])))))] (zN (qS 0 qR qY) <| zZ) ?_
 refine jA <| kx [] [(0, some (bx (jR (jQ.mk (qD n) (qD 1)))))] (zM <| zE (kA (g_whole1 n (by omega) (by omega))) <| zE (kA (g_whole1 1 (by decide) (by decide))) <| zE (fK pl42 qR qY) <| zT (qB jT) <| zZ) ?_
 refine jJ ⟨_, (qI (cs := (bx (jR (jQ.mk (qD n) (qD 1))))) (d := (jR (jQ.mk (qD n) (qD 1)))) rfl rfl jT rfl rfl .nil), ?_⟩
 rfl
theorem bA (x : jQ) (p : Rat) (hx : nU x p 17179869184) : kE Tryz.prog 43 [(jR x)] (.val (.bool ((uC x)))) := by
 refine jN Tryz.func43 rfl cb43 rfl ?_
 show uT _ _ _ _ ⟨[(0, (.d (jR x)))], []⟩
 refine jA <| kx [(1, (.ref 0 0))] [(0, some (bx (jR x)))] (zN (uX 0) <| zM <| zZ) ?_
 refine jA <| jA <| kx [(18, (vb ((!(vN x.num) || !(vN x.den)) || decide ((vA (kT x.den)) ≤ 0))))] [] ?_ ?_
 ·refine zE (qE zL) <| zR (kC kW) <| zE (kA (r_valid x.num (Nat.le_trans (yW hx.n1).l (by decide)))) <| zE dV <| zE (oV (vb (!(vN x.num))) (vZ (by kernel_rfl))) <| ?_
  rcases hb1 : (!(vN x.num)) with _ | _
  ·refine zE (qE zW) <| zR (kC kW) <| zE (kA (r_valid x.den (Nat.le_trans (yW hx.n2).l (by decide)))) <| zE dV <| zE oPo <| zE (oV (vb (false || !(vN x.den))) (vZ (by kernel_rfl))) <| ?_
   rcases hb2 : (false || !(vN x.den)) with _ | _
   ·exact zE (qE zW) <| zR (kC kW) <| zE (kA (rs_sign (yW hx.n2) (by decide))) <| zE oLe <| zE oPo <| zZ
   ·exact zK <| zK <| zK <| zK <| zE eE <| zZ
  ·exact zK <| zK <| zK <| zK <| zE eE <| zM <| zK <| zK <| zK <| zK <| zE eE <| zZ
 refine jY rfl (fun h3 => ?_) (fun h3 => ?_)
 ·refine jA <| kx [(2, (vb false))] [] (zM <| zZ) ?_
  refine jJ ⟨_, (.tmp (d := (.val (.bool (false)))) rfl .nil), ?_⟩
  rw [validR_no h3]; rfl
 ·refine jE <| jA <| kx [(2, (vb ((xC (((Int.gcd (kT x.num) (kT x.den) : Nat) : Int)) 1) == 0)))] [] (zE (qE zL) <| zR (kC kW) <| zE (qE zW) <| zR (kC kW) <| zE (kA (rs_gcd (yW hx.n1) (yW hx.n2) (by decide) (by decide))) <| zE (kA (g_whole1 1 (by decide) (by decide))) <| zE (kA (rs_compare (gM (k := 17179869184) (yW hx.n1) (yW hx.n2) (by decide)) (nO (z := 1) (by decide)) (by decide) (by decide))) <| zE fA <| zM <| zZ) ?_
  refine jJ ⟨_, (.tmp (d := (.val (.bool (((xC (((Int.gcd (kT x.num) (kT x.den) : Nat) : Int)) 1) == 0))))) rfl .nil), ?_⟩
  rw [validR_yes h3]; rfl
theorem fN (x : jQ) (p : Rat) (hx : nU x p 17179869184) : kE Tryz.prog 85 [(jR x)] (jR (jB p)) := by
 refine jN Tryz.func85 rfl cb85 rfl ?_
 show uT _ _ _ _ ⟨[(0, (.d (jR x)))], []⟩
 refine jA <| kx [(1, (.ref 0 0)), (2, (.ref 1 0))] [(0, some (bx (jR x))), (1, some (bx (jR (jQ.mk (jF.mk false []) (jF.mk false [])))))] (zN (uX 0) <| zN (qS 1 qR qY) <| zZ) ?_
 refine jA <| jA <| kx [(4, (vb (uC x)))] [] (zR (kC jT) <| zE (kA (bA x p hx)) <| zZ) ?_
 refine jY (b := (uC x)) rfl (fun h1 => ?_) (fun h1 => ?_)
 ·refine jA <| kx [] [(1, some (bx (jR x)))] (zR (kC jT) <| zT (qB jT) <| zZ) ?_
  refine jJ ⟨_, (qI (cs := (bx (jR x))) (d := (jR x)) rfl rfl jT rfl rfl .nil), ?_⟩
  rw [← hx.v, ofQ_toQ h1]; rfl
 ·refine jE <| jA <| kx [] [(1, some (bx (jR (jB ((0 : Int) : Rat)))))] (zE (kA (gD 0 (by decide) (by decide))) <| zT (qB jT) <| zZ) ?_
  refine jJ ⟨_, (qI (cs := (bx (jR (jB ((0 : Int) : Rat))))) (d := (jR (jB ((0 : Int) : Rat)))) rfl rfl jT rfl rfl .nil), ?_⟩
  rw [← hx.v, toQ_bad h1]; rfl
theorem g_sign (x : jQ) (p : Rat) (hx : nU x p 17179869184) : kE Tryz.prog 17 [(jR x)] (.val (.int .i64 ((vJ p)))) := by
 refine jN Tryz.func17 rfl cb17 rfl ?_
 show uT _ _ _ _ ⟨[(0, (.d (jR x)))], []⟩
 refine jA <| kx [(1, (.ref 0 0))] [(0, some (bx (jR x)))] (zN (uX 0) <| zM <| zZ) ?_
 refine jA <| kx [(2, (vi (vA p.num)))] [] (zR (kC jT) <| zE (kA (fN x p hx)) <| zE (oFv ft42_0 kW) <| zE (kA (rs_sign (uM hx.ql) (by decide))) <| zM <| zZ) ?_
 refine jJ ⟨_, (.tmp (d := (.val (.int .i64 ((vA p.num))))) rfl .nil), ?_⟩
 rfl
theorem g_neg (x : jQ) (p : Rat) (hx : nU x p 17179869184) : kE Tryz.prog 88 [(jR x)] (jR (jB (-p))) := by
 refine jN Tryz.func88 rfl cb88 rfl ?_
 show uT _ _ _ _ ⟨[(0, (.d (jR x)))], []⟩
 refine jA <| kx [(1, (.ref 0 0)), (2, (.ref 1 0))] [(0, some (bx (jR x))), (1, some (bx (jR (jQ.mk (jF.mk false []) (jF.mk false [])))))] (zN (uX 0) <| zN (qS 1 qR qY) <| zZ) ?_
 refine jA <| kx [(3, (.ref 2 0))] [(2, some (bx (jR (jB p))))] (zR (kC jT) <| zE (kA (fN x p hx)) <| zN (qS 2 qR qY) <| zT (qB jT) <| zZ) ?_
 refine jA <| kd [] [(1, some (bx (jR (jQ.mk (qD (-p.num)) ((jB p).den)))))] mo (wE (qE zL) <| wR (kC kW) <| wE (kA (rs_neg (uM hx.ql) (by decide))) <| wE (qE zW) <| wR (kC kW) <| wE (fK pl42 qR qY) <| wT (qB jT) <| wZ) ?_
 refine jJ ⟨_, (qI (cs := (bx (jR (jQ.mk (qD (-p.num)) ((jB p).den))))) (d := (jR (jQ.mk (qD (-p.num)) ((jB p).den)))) rfl rfl jT rfl rfl .nil), ?_⟩
 rfl
theorem g_add (x : jQ) (y : jQ) (p : Rat) (q : Rat) (hx : nU x p 17179869184) (hy : nU y q 17179869184) : kE Tryz.prog 89 [(jR x), (jR y)] (jR (jB (p + q))) := by
 refine jN Tryz.func89 rfl cb89 rfl ?_
 show uT _ _ _ _ ⟨[(0, (.d (jR x))), (1, (.d (jR y)))], []⟩
 refine jA <| kx [(2, (.ref 0 0)), (3, (.ref 1 0)), (4, (.ref 2 0))] [(0, some (bx (jR x))), (1, some (bx (jR y))), (2, some (bx (jR (jQ.mk (jF.mk false []) (jF.mk false [])))))] (zN (uX 0) <| zN (uX 1) <| zN (qS 2 qR qY) <| zZ) ?_
 refine jA <| kx [(5, (.ref 3 0))] [(3, some (bx (jR (jB p))))] (zR (kC jT) <| zE (kA (fN x p hx)) <| zN (qS 3 qR qY) <| zT (qB jT) <| zZ) ?_
 refine jA <| kx [(6, (.ref 4 0))] [(4, some (bx (jR (jB q))))] (zR (kC jT) <| zE (kA (fN y q hy)) <| zN (qS 4 qR qY) <| zT (qB jT) <| zZ) ?_
 refine jA <| kd [] [(2, some (bx (jR (jB (Rat.divInt ((p.num * (q.den : Int)) + (q.num * (p.den : Int))) ((p.den : Int) * (q.den : Int)))))))] mo (wE (qE zL) <| wR (kC kW) <| wE (qE zW) <| wR (kC kW) <| wE (kA (rs_mul (uM hx.ql) (vG hy.ql) (by decide) (by decide))) <| wE (qE zL) <| wR (kC kW) <| wE (qE zW) <| wR (kC kW) <| wE (kA (rs_mul (uM hy.ql) (vG hx.ql) (by decide) (by decide))) <| wE (kA (rs_add (yX (k := 34359738368) (uM hx.ql) (vG hy.ql) (by decide)) (yX (k := 34359738368) (uM hy.ql) (vG hx.ql) (by decide)) (by decide) (by decide))) <| wE (qE zW) <| wR (kC kW) <| wE (qE zW) <| wR (kC kW) <| wE (kA (rs_mul (vG hx.ql) (vG hy.ql) (by decide) (by decide))) <| wE (kA (g_reduced (qD ((p.num * (q.den : Int)) + (q.num * (p.den : Int)))) (qD ((p.den : Int) * (q.den : Int))) ((p.num * (q.den : Int)) + (q.num * (p.den : Int))) ((p.den : Int) * (q.den : Int)) (gP (iok_add (k := 34359738369) (yX (k := 34359738368) (uM hx.ql) (vG hy.ql) (by decide)) (yX (k := 34359738368) (uM hy.ql) (vG hx.ql) (by decide)) (by decide)) (by decide)) (gP (yX (k := 34359738368) (vG hx.ql) (vG hy.ql) (by decide)) (by decide)) (mul_ne (eX _) (eX _)))) <| wT (qB jT) <| wZ) ?_
 refine jJ ⟨_, (qI (cs := (bx (jR (jB (Rat.divInt ((p.num * (q.den : Int)) + (q.num * (p.den : Int))) ((p.den : Int) * (q.den : Int))))))) (d := (jR (jB (Rat.divInt ((p.num * (q.den : Int)) + (q.num * (p.den : Int))) ((p.den : Int) * (q.den : Int)))))) rfl rfl jT rfl rfl .nil), ?_⟩
 rw [add_divInt]; rfl
theorem g_sub (x : jQ) (y : jQ) (p : Rat) (q : Rat) (hx : nU x p 17179869184) (hy : nU y q 17179869184) : kE Tryz.prog 32 [(jR x), (jR y)] (jR (jB (p - q))) := by
 refine jN Tryz.func32 rfl cb32 rfl ?_
 show uT _ _ _ _ ⟨[(0, (.d (jR x))), (1, (.d (jR y)))], []⟩
 refine jA <| kx [(2, (.ref 0 0)), (3, (.ref 1 0)), (4, (.ref 2 0))] [(0, some (bx (jR x))), (1, some (bx (jR y))), (2, some (bx (jR (jQ.mk (jF.mk false []) (jF.mk false [])))))] (zN (uX 0) <| zN (uX 1) <| zN (qS 2 qR qY) <| zZ) ?_
 refine jA <| kd [] [(2, some (bx (jR (jB (p + (-q))))))] mo (wR (kC jT) <| wR (kC jT) <| wE (kA (g_neg y q hy)) <| wE (kA (g_add x (jB (-q)) p (-q) hx (kD (ql_neg hy.ql)))) <| wT (qB jT) <| wZ) ?_
 refine jJ ⟨_, (qI (cs := (bx (jR (jB (p + (-q)))))) (d := (jR (jB (p + (-q))))) rfl rfl jT rfl rfl .nil), ?_⟩
 rw [Rat.sub_eq_add_neg]; rfl
theorem fV (x : jQ) (y : jQ) (p : Rat) (q : Rat) (hx : nU x p 17179869184) (hy : nU y q 17179869184) : kE Tryz.prog 57 [(jR x), (jR y)] (jR (jB (p * q))) := by
 refine jN Tryz.func57 rfl cb57 rfl ?_
 show uT _ _ _ _ ⟨[(0, (.d (jR x))), (1, (.d (jR y)))], []⟩
 refine jA <| kx [(2, (.ref 0 0)), (3, (.ref 1 0)), (4, (.ref 2 0))] [(0, some (bx (jR x))), (1, some (bx (jR y))), (2, some (bx (jR (jQ.mk (jF.mk false []) (jF.mk false [])))))] (zN (uX 0) <| zN (uX 1) <| zN (qS 2 qR qY) <| zZ) ?_
 refine jA <| kx [(5, (.ref 3 0))] [(3, some (bx (jR (jB p))))] (zR (kC jT) <| zE (kA (fN x p hx)) <| zN (qS 3 qR qY) <| zT (qB jT) <| zZ) ?_
 refine jA <| kx [(6, (.ref 4 0))] [(4, some (bx (jR (jB q))))] (zR (kC jT) <| zE (kA (fN y q hy)) <| zN (qS 4 qR qY) <| zT (qB jT) <| zZ) ?_
 refine jA <| kd [] [(2, some (bx (jR (jB (Rat.divInt (p.num * q.num) ((p.den : Int) * (q.den : Int)))))))] mo (wE (qE zL) <| wR (kC kW) <| wE (qE zL) <| wR (kC kW) <| wE (kA (rs_mul (uM hx.ql) (uM hy.ql) (by decide) (by decide))) <| wE (qE zW) <| wR (kC kW) <| wE (qE zW) <| wR (kC kW) <| wE (kA (rs_mul (vG hx.ql) (vG hy.ql) (by decide) (by decide))) <| wE (kA (g_reduced (qD (p.num * q.num)) (qD ((p.den : Int) * (q.den : Int))) (p.num * q.num) ((p.den : Int) * (q.den : Int)) (gP (yX (k := 34359738368) (uM hx.ql) (uM hy.ql) (by decide)) (by decide)) (gP (yX (k := 34359738368) (vG hx.ql) (vG hy.ql) (by decide)) (by decide)) (mul_ne (eX _) (eX _)))) <| wT (qB jT) <| wZ) ?_
 refine jJ ⟨_, (qI (cs := (bx (jR (jB (Rat.divInt (p.num * q.num) ((p.den : Int) * (q.den : Int))))))) (d := (jR (jB (Rat.divInt (p.num * q.num) ((p.den : Int) * (q.den : Int)))))) rfl rfl jT rfl rfl .nil), ?_⟩
 rw [mul_divInt]; rfl
theorem g_new (num den : jF) (a b : Int) (eC : nB num a 68719476736) (mL : nB den b 68719476736) : kE Tryz.prog 26 [(kB num), (kB den)] (.tup [(jR (newR a b)), (.val (.int .i64 ((newC b))))]) := by
 refine jN Tryz.func26 rfl cb26 rfl ?_
 show uT _ _ _ _ ⟨[(0, (.d (kB num))), (1, (.d (kB den)))], []⟩
 refine jA <| kx [(2, (.ref 0 0)), (3, (.ref 1 0)), (4, (.ref 2 0))] [(0, some (bx (kB num))), (1, some (bx (kB den))), (2, some (bx (jR (jQ.mk (jF.mk false []) (jF.mk false [])))))] (zN (uX 0) <| zN (uX 1) <| zN (qS 2 qR qY) <| zM <| zZ) ?_
 refine jA <| jA <| kx [(8, (vb ((vA b) == 0)))] [] (zR (kC kW) <| zE (kA (rs_sign mL (by decide))) <| zE fA <| zZ) ?_
 refine jY (b := ((vA b) == 0)) rfl (fun h1 => ?_) (fun h1 => ?_)
 ·replace h1 := eq_of_beq h1
  have hb : b = 0 := sign0 h1
  refine jA <| kx [(5, (kX 14))] [(2, some (bx (jR (jQ.mk (jF.mk false []) (jF.mk false [])))))] (zE (fK pl42 qR qY) <| zT (qB jT) <| zM <| zZ) ?_
  refine jJ ⟨_, (qI (cs := (bx (jR (jQ.mk (jF.mk false []) (jF.mk false []))))) (d := (jR (jQ.mk (jF.mk false []) (jF.mk false [])))) rfl rfl jT rfl rfl (.tmp (d := (.val (.int .i64 (14)))) rfl .nil)), ?_⟩
  rw [hb]; rfl
 ·replace h1 := ne_of_beq_false h1
  have hb : b ≠ 0 := fun hh => h1 (by rw [hh]; rfl)
  refine jE <| jA <| kx [(5, (kX 0))] [(2, some (bx (jR (jB (Rat.divInt a b)))))] (zR (kC kW) <| zR (kC kW) <| zE (kA (g_reduced num den a b eC mL (by assumption))) <| zT (qB jT) <| zM <| zZ) ?_
  refine jJ ⟨_, (qI (cs := (bx (jR (jB (Rat.divInt a b))))) (d := (jR (jB (Rat.divInt a b)))) rfl rfl jT rfl rfl (.tmp (d := (.val (.int .i64 (0)))) rfl .nil)), ?_⟩
  unfold newR newC; rw [if_neg hb, if_neg hb]; rfl
theorem aI (x : jQ) (y : jQ) (p : Rat) (q : Rat) (hx : nU x p 17179869184) (hy : nU y q 17179869184) : kE Tryz.prog 34 [(jR x), (jR y)] (.tup [(jR (divR p q)), (.val (.int .i64 ((divC q))))]) := by
 refine jN Tryz.func34 rfl cb34 rfl ?_
 show uT _ _ _ _ ⟨[(0, (.d (jR x))), (1, (.d (jR y)))], []⟩
 refine jA <| kx [(2, (.ref 0 0)), (3, (.ref 1 0)), (4, (.ref 2 0))] [(0, some (bx (jR x))), (1, some (bx (jR y))), (2, some (bx (jR (jQ.mk (jF.mk false []) (jF.mk false [])))))] (zN (uX 0) <| zN (uX 1) <| zN (qS 2 qR qY) <| zM <| zZ) ?_
 refine jA <| kx [(6, (.ref 3 0))] [(3, some (bx (jR (jB p))))] (zR (kC jT) <| zE (kA (fN x p hx)) <| zN (qS 3 qR qY) <| zT (qB jT) <| zZ) ?_
 refine jA <| kx [(7, (.ref 4 0))] [(4, some (bx (jR (jB q))))] (zR (kC jT) <| zE (kA (fN y q hy)) <| zN (qS 4 qR qY) <| zT (qB jT) <| zZ) ?_
 refine jA <| kd [(5, (vi (newC ((p.den : Int) * q.num))))] [(2, some (bx (jR (newR (p.num * (q.den : Int)) ((p.den : Int) * q.num)))))] mo (wE (qE zL) <| wR (kC kW) <| wE (qE zW) <| wR (kC kW) <| wE (kA (rs_mul (uM hx.ql) (vG hy.ql) (by decide) (by decide))) <| wE (qE zW) <| wR (kC kW) <| wE (qE zL) <| wR (kC kW) <| wE (kA (rs_mul (vG hx.ql) (uM hy.ql) (by decide) (by decide))) <| wE (kA (g_new (qD (p.num * (q.den : Int))) (qD ((p.den : Int) * q.num)) (p.num * (q.den : Int)) ((p.den : Int) * q.num) (gP (yX (k := 34359738368) (uM hx.ql) (vG hy.ql) (by decide)) (by decide)) (gP (yX (k := 34359738368) (vG hx.ql) (uM hy.ql) (by decide)) (by decide)))) <| wE uH <| wE uH <| wT (qB jT) <| wM <| wZ) ?_
 refine jJ ⟨_, (qI (cs := (bx (jR (newR (p.num * (q.den : Int)) ((p.den : Int) * q.num))))) (d := (jR (newR (p.num * (q.den : Int)) ((p.den : Int) * q.num)))) rfl rfl jT rfl rfl (.tmp (d := (.val (.int .i64 ((newC ((p.den : Int) * q.num)))))) rfl .nil)), ?_⟩
 rw [newR_div, newC_div]; rfl
theorem g_compare (x : jQ) (y : jQ) (p : Rat) (q : Rat) (hx : nU x p 4294967296) (hy : nU y q 4294967296) : kE Tryz.prog 64 [(jR x), (jR y)] (.val (.int .i64 ((cmpQ p q)))) := by
 refine jN Tryz.func64 rfl cb64 rfl ?_
 show uT _ _ _ _ ⟨[(0, (.d (jR x))), (1, (.d (jR y)))], []⟩
 refine jA <| kx [(2, (.ref 0 0)), (3, (.ref 1 0))] [(0, some (bx (jR x))), (1, some (bx (jR y)))] (zN (uX 0) <| zN (uX 1) <| zM <| zZ) ?_
 refine jA <| kx [(4, (vi (vJ (p - q))))] [] (zR (kC jT) <| zR (kC jT) <| zE (kA (g_sub x y p q (jU hx (by decide)) (jU hy (by decide)))) <| zE (kA (g_sign (jB (p - q)) (p - q) (jU (kD (qP (k := 8589934593) hx.ql hy.ql (by decide))) (by decide)))) <| zM <| zZ) ?_
 refine jJ ⟨_, (.tmp (d := (.val (.int .i64 ((vJ (p - q)))))) rfl .nil), ?_⟩
 rw [← signQ_sub]; rfl
end Go.Proofs.YtbecgnplakngdaaGreat
namespace Go.Proofs.YtbecgnplakngdaaGreat
open Go.Fid
set_option maxRecDepth 4000
set_option linter.unusedVariables false
set_option linter.unusedSimpArgs false
theorem cb28 : callB Tryz.prog 28 = true := by kernel_rfl
theorem cb41 : callB Tryz.prog 41 = true := by kernel_rfl
theorem g_same (x : jQ) (y : jQ) (p : Rat) (q : Rat) (hx : nU x p 4294967296) (hy : nU y q 4294967296) : kE Tryz.prog 28 [(jR x), (jR y)] (.val (.bool ((sameR x y)))) := by
 refine jN Tryz.func28 rfl cb28 rfl ?_
 show uT _ _ _ _ ⟨[(0, (.d (jR x))), (1, (.d (jR y)))], []⟩
 refine jA <| kx [(2, (.ref 0 0)), (3, (.ref 1 0))] [(0, some (bx (jR x))), (1, some (bx (jR y)))] (zN (uX 0) <| zN (uX 1) <| zM <| zZ) ?_
 refine jA <| kx [(4, (vb (((uC x) && (uC y)) && ((cmpQ p q) == 0))))] [] ?_ ?_
 ·refine zR (kC jT) <| zE (kA (bA x p (jU hx (by decide)))) <| zE (oV (vb (uC x)) (vZ (by kernel_rfl))) <| ?_
  rcases hb1 : (uC x) with _ | _
  ·exact zK <| zK <| zE oPf <| zM <| zK <| zK <| zK <| zK <| zE oPf <| zM <| zZ
  ·refine zR (kC jT) <| zE (kA (bA y q (jU hy (by decide)))) <| zE oPa <| zE (oV (vb (true && (uC y))) (vZ (by kernel_rfl))) <| ?_
   rcases hb2 : (true && (uC y)) with _ | _
   ·exact zK <| zK <| zK <| zK <| zE oPf <| zM <| zZ
   ·exact zR (kC jT) <| zR (kC jT) <| zE (kA (g_compare x y p q hx hy)) <| zE fA <| zE oPa <| zM <| zZ
 refine jJ ⟨_, (.tmp (d := (.val (.bool ((((uC x) && (uC y)) && ((cmpQ p q) == 0)))))) rfl .nil), ?_⟩
 unfold sameR
 rw [← sameR_eq, hx.v, hy.v]; rfl
theorem g_digits (x : jQ) (p : Rat) (hx : nU x p 140737488355328) : kE Tryz.prog 41 [(jR x)] (.val (.int .i64 ((((digR x) : Nat) : Int)))) := by
 have h1 := hx.n1
 have h2 := hx.n2
 refine jN Tryz.func41 rfl cb41 rfl ?_
 show uT _ _ _ _ ⟨[(0, (.d (jR x)))], []⟩
 refine jA <| kx [(1, (.ref 0 0))] [(0, some (bx (jR x)))] (zN (uX 0) <| zM <| zZ) ?_
 refine jA <| kx [(2, (kX (x.num.gs.length + x.den.gs.length)))] [] (zE (qE zL) <| zE (qE xU) <| zR (vD yM) <| zE (nZ qG) <| zE (qE zW) <| zE (qE xU) <| zR (vD yM) <| zE (nZ qG) <| zE (uZ (x.num.gs.length + x.den.gs.length)) <| zM <| zZ) ?_
 refine jJ ⟨_, (.tmp (d := (.val (.int .i64 ((((x.num.gs.length + x.den.gs.length) : Nat) : Int))))) rfl .nil), ?_⟩
 rfl
end Go.Proofs.YtbecgnplakngdaaGreat
namespace Go.Fid
def jD (a b c x y z : Rat) : Rat := a * x + b * y + c * z
theorem dot3_eq (a b c x y z : Rat) : jD a b c x y z = (((0 : Int) : Rat) + a * x + b * y + c * z) := by
  unfold jD; rw [Rat.intCast_zero, Rat.zero_add]
theorem jL {a b c x y z : Rat} {n k : Nat} (h1 : QL a n) (h2 : QL b n) (h3 : QL c n) (h4 : QL x n) (h5 : QL y n) (h6 : QL z n) (hk : 6 * n + 2 ≤ k) : QL (jD a b c x y z) k := by
  unfold jD
  exact kR (kR (jH h1 h4 (Nat.le_refl _)) (jH h2 h5 (Nat.le_refl _)) (Nat.le_refl _)) (jH h3 h6 (Nat.le_refl _)) (by omega)
def yY (a b c d : Int) : Nat := if a = 0 ∧ b = 0 ∧ c = 0 ∧ d = 0 then 1 else if (-1048576 ≤ a ∧ a ≤ 1048576) ∧ (-1048576 ≤ b ∧ b ≤ 1048576) ∧ (-1048576 ≤ c ∧ c ≤ 1048576) ∧ (-1048576 ≤ d ∧ d ≤ 1048576) then 0 else 3
theorem rotC_z {a b c d : Int} (h : a = 0 ∧ b = 0 ∧ c = 0 ∧ d = 0) : yY a b c d = 1 := if_pos h
theorem fZ {a b c d : Int} (h : ¬ (a = 0 ∧ b = 0 ∧ c = 0 ∧ d = 0)) (h2 : ¬ ((-1048576 ≤ a ∧ a ≤ 1048576) ∧ (-1048576 ≤ b ∧ b ≤ 1048576) ∧ (-1048576 ≤ c ∧ c ≤ 1048576) ∧ (-1048576 ≤ d ∧ d ≤ 1048576))) : yY a b c d = 3 := by unfold yY; rw [if_neg h, if_neg h2]
theorem aC {a b c d : Int} (h : ¬ (a = 0 ∧ b = 0 ∧ c = 0 ∧ d = 0)) (h2 : (-1048576 ≤ a ∧ a ≤ 1048576) ∧ (-1048576 ≤ b ∧ b ≤ 1048576) ∧ (-1048576 ≤ c ∧ c ≤ 1048576) ∧ (-1048576 ≤ d ∧ d ≤ 1048576)) : yY a b c d = 0 := by unfold yY; rw [if_neg h, if_pos h2]
def nS (x y z u v f : Int) : Prop := (-1048576 ≤ x ∧ x ≤ 1048576) ∧ (-1048576 ≤ y ∧ y ≤ 1048576) ∧ (-1048576 ≤ z ∧ z ≤ 1048576) ∧ (-1048576 ≤ u ∧ u ≤ 1048576) ∧ (-1048576 ≤ v ∧ v ≤ 1048576) ∧ (1 ≤ f ∧ f ≤ 1048576)
instance {x y z u v f : Int} : Decidable (nS x y z u v f) := by unfold nS; infer_instance
def qV (x y z u v f a b c d : Int) : Nat := if nS x y z u v f then yY a b c d else 2
theorem mX {x y z u v f a b c d : Int} (h : ¬ nS x y z u v f) : qV x y z u v f a b c d = 2 := if_neg h
theorem mS {x y z u v f a b c d : Int} (h : nS x y z u v f) : qV x y z u v f a b c d = yY a b c d := if_pos h
theorem vM {a b : Int} (ha : -1048576 ≤ a ∧ a ≤ 1048576) (hb : -1048576 ≤ b ∧ b ≤ 1048576) : -1099511627776 ≤ a * b ∧ a * b ≤ 1099511627776 := by
  have h1 : (a * b).natAbs ≤ 1048576 * 1048576 := by
    rw [Int.natAbs_mul]; exact Nat.mul_le_mul (by omega) (by omega)
  omega
end Go.Fid
set_option linter.unusedVariables false
set_option linter.unusedSimpArgs false
namespace Go.Fid
open Go.RowKit (Below)
section
variable {P : Program} {o : Oper} {S : Nat → SV}
theorem e_mkf {f : FuncId} {ks : List Nat} {caps : List Operand} (ho : o.op = .makeFunc (.func f) #[] caps.toArray) (hx : caps.map (ev S) = ks.map (fun k => .ref k 0)) : vP P o S [] (.clo f ks) :=
  vP.same fun a w D β hop _ => by
    refine ⟨.func (.func f) #[] (caps.map a.eval).toArray, ?_, caps.map a.eval, rfl, ?_, fun i k hk => ?_⟩
    · simp only [execOp, ho, Instr.makeFunc, Array.map_empty, List.map_toArray, Sem.run_bind, Sem.run_pure, Result.andThen_ok]
      rfl
    · simpa using congrArg List.length hx
    · have hi := congrArg (fun l : List SV => l[i]?) hx
      simp only [List.getElem?_map, hk, Option.map_some, Option.map_eq_some_iff] at hi
      obtain ⟨c, hc, e⟩ := hi
      have hm := hop c (by simp [ho, Op.operands, List.mem_of_getElem? hc])
      rw [e] at hm
      obtain ⟨b, h1, h2⟩ := hm
      exact ⟨b, h1, by rw [List.getElem?_map, hc, Option.map_some, h2]⟩
theorem e_clc {y : Operand} {xs : List Operand} {ats : Array TypeId} {f : FuncId} {ds : List qH} {r : qH} {ks : List Nat} {css : List (List qH)} {E : TypeId} {rd : List (Nat × List SV)}
    (hf : kE P f (ds ++ css.map (fun cs => .cptr E cs 0)) r) (ho : o.op = .call { callee := .value y, args := xs.toArray, argTypes := ats }) (hy : ev S y = .clo f ks) (hx : xs.map (ev S) = ds.map .d)
    (hrk : rd = ks.zip (css.map (fun cs => cs.map SV.d))) (vL : css.length = ks.length) (ha : gI E r) : vP P o S rd (.d r) :=
  fun a w D β Q hop hrd hD => by
    have hyv := hop y (by simp [ho, Op.operands, Call.operands])
    rw [hy] at hyv
    obtain ⟨vs, hv1, hv2, hv3⟩ := hyv
    have hl : xs.length = ds.length := by simpa using congrArg List.length hx
    have hargs0 : Args w D (xs.map a.eval) ds := by
      refine ⟨by simpa using hl, fun i v d hv hd => ?_⟩
      rw [List.getElem?_map, Option.map_eq_some_iff] at hv
      obtain ⟨x, hxi, rfl⟩ := hv
      have hm := hop x (by simp [ho, Op.operands, Call.operands, List.mem_of_getElem? hxi])
      have hi := congrArg (fun l : List SV => l[i]?) hx
      simp only [List.getElem?_map, hxi, hd, Option.map_some, Option.some.injEq] at hi
      rw [hi] at hm
      exact hm
    have hrun : (execOp a.eval o).run P w = .ok (.enter f (xs.map a.eval ++ vs).toArray) w := by
      simp only [execOp, ho, resolve, Deferred.ofValue, hv1, Sem.run_bind, Sem.run_pure, Result.andThen_ok, invoke, Array.empty_append]
      rw [gZ hf.may]
      simp
    -- the private variables are published for the time of the call
    let X : TypeId → Nat → Nat → Prop := fun t g _ => t = E ∧ ∃ k ∈ ks, β k = some g
    have hblk : ∀ (i : Nat) k cs, ks[i]? = some k → css[i]? = some cs → yH w D β k (cs.map SV.d) := fun i k cs hk hc => by
      refine hrd (k, cs.map SV.d) ?_
      rw [hrk]
      refine List.mem_of_getElem? (i := i) ?_
      rw [List.getElem?_zip_eq_some]
      exact ⟨hk, by rw [List.getElem?_map, hc]; rfl⟩
    have hcap : ∀ (i : Nat) k cs, ks[i]? = some k → css[i]? = some cs → ∃ b us T', β k = some b ∧ vs[i]? = some (.pointer (some ⟨b, 0, none⟩)) ∧ w.heap[b]? = some (.cells us T' (0, 0)) ∧
        (∀ (j : Nat) x, (cs.map SV.d)[j]? = some x → ∃ u, us[j]? = some u ∧ u.oneCell' = true ∧ vO w D β u x) ∧ ∀ t o, ¬ D t b o := fun i k cs hk hc => by
      obtain ⟨b, h1, h2⟩ := hv3 i k hk
      rcases hblk i k cs hk hc with ⟨g1, _⟩ | ⟨b', us, T', g1, g2, g3, g4, g5⟩
      · rw [h1] at g1; cases g1
      · obtain rfl : b = b' := by rw [h1] at g1; injection g1
        exact ⟨b, us, T', h1, h2, g2, g4, g5⟩
    have hXb : ∀ t g i, X t g i → (∀ t' i', ¬ D t' g i') ∧ g < w.heap.size := fun t g i ⟨_, k, hk, hb⟩ => by
      obtain ⟨i, hi⟩ := List.getElem?_of_mem hk
      have hlt : i < css.length := by rw [vL]; exact (List.getElem?_eq_some_iff.1 hi).1
      obtain ⟨b, us, T', h1, _, h3, _, h5⟩ := hcap i k _ hi (List.getElem?_eq_getElem hlt)
      obtain rfl : g = b := by rw [hb] at h1; injection h1
      exact ⟨fun t' i' => h5 t' i', zI h3⟩
    have hD' : DOk (fun t g i => D t g i ∨ X t g i) w := fun t g i hd => by
      rcases hd with hd | hd
      · exact hD _ _ _ hd
      · exact (hXb t g i hd).2
    have hmono : ∀ t' g i, D t' g i → (D t' g i ∨ X t' g i) ∧ w.cell? ⟨g, i, none⟩ = w.cell? ⟨g, i, none⟩ := fun t' g i hd => ⟨.inl hd, rfl⟩
    have hargs : Args w (fun t g i => D t g i ∨ X t g i) (xs.map a.eval ++ vs) (ds ++ css.map (fun cs => .cptr E cs 0)) := by
      refine ⟨by simp [hl, hv2, vL], fun i v d hv hd => ?_⟩
      by_cases hi : i < xs.length
      · rw [List.getElem?_append_left (by simpa using hi)] at hv
        rw [List.getElem?_append_left (by omega)] at hd
        exact xH.mono hmono (hargs0.2 i v d hv hd)
      · rw [List.getElem?_append_right (by simpa using hi), List.length_map] at hv
        rw [List.getElem?_append_right (by omega), ← hl] at hd
        rw [List.getElem?_map, Option.map_eq_some_iff] at hd
        obtain ⟨cs, hcs, rfl⟩ := hd
        have hlt : i - xs.length < ks.length := by rw [← vL]; exact (List.getElem?_eq_some_iff.1 hcs).1
        obtain ⟨b, us, T', h1, h2, h3, h4, h5⟩ := hcap _ _ cs (List.getElem?_eq_getElem hlt) hcs
        rw [h2] at hv
        injection hv with hv
        subst hv
        have hcell : ∀ j, w.cell? ⟨b, j, none⟩ = us[j]? := fun j => cell_of_row w b j us T' (0, 0) h3
        have hj : ∀ j, j < cs.length → ∃ u, us[j]? = some u ∧ u.oneCell' = true ∧ xH w D u (cs[j]?.getD (.tup [])) := fun j hj => by
          obtain ⟨u, q1, q2, q3⟩ := h4 j (.d cs[j]) (by rw [List.getElem?_map, List.getElem?_eq_getElem hj]; rfl)
          exact ⟨u, q1, q2, by rw [List.getElem?_eq_getElem hj]; exact q3⟩
        refine xH.cptr (off := 0) b 0 (fun j => us.getD j undef) (fun j _ => .inr ⟨rfl, _, List.getElem_mem hlt, h1⟩) (fun j hj' => ?_) (fun j hj' => ?_) (fun j d hd => ?_)
        · obtain ⟨u, q1, _, _⟩ := hj j hj'
          rw [Nat.zero_add, hcell, Array.getD_eq_getD_getElem?, q1]; rfl
        · obtain ⟨u, q1, q2, _⟩ := hj j hj'
          rw [Array.getD_eq_getD_getElem?, q1]; exact q2
        · obtain ⟨u, q1, q2, q3⟩ := hj j (List.getElem?_eq_some_iff.1 hd).1
          rw [Array.getD_eq_getD_getElem?, q1]
          rw [hd] at q3
          exact xH.mono hmono q3
    refine fF hrun ((hf.run w _ _ hD' hargs).mono fun e w' h => ?_)
    obtain ⟨v, D2, he, h1, h2, h3⟩ := h
    refine ⟨v, he, v, fun t g i => D2 t g i ∧ ¬ X t g i, rfl, h1, ⟨fun t g i hd => ⟨h2.up _ _ _ (.inl hd), fun hx' => (hXb t g i hx').1 t i hd⟩, fun t g i hd => ?_⟩, ?_⟩
    · rcases h2.new t g i hd.1 with h | h
      · rcases h with h | h
        · exact .inl h
        · exact absurd h hd.2
      · exact .inr h
    · exact ha.rep (fun t g i hne hd => ⟨hd, fun hx' => hne hx'.1⟩) h3
theorem oMf {f : FuncId} {caps : List Operand} (ks : List Nat) (ho : o.op = .makeFunc (.func f) #[] caps.toArray := by exact rfl) (hx : caps.map (ev S) = ks.map (fun k => .ref k 0) := by kernel_rfl) : vP P o S [] (.clo f ks) := e_mkf ho hx
end
def RKs (P : Program) (o : Oper) (S : SL) (B : BS) (ks : List Nat) (x : SV) : Prop := ∃ rd : List (Nat × List SV), rd.map (·.1) = ks ∧ vP P o (qQ S) rd x ∧ ∀ p ∈ rd, uS B p.1 = some p.2
theorem oCc {P : Program} {o : Oper} {S : SL} {B : BS} {y : Operand} {xs : List Operand} {ats : Array TypeId} {f : FuncId} {ds : List qH} {r : qH} (ks : List Nat) (css : List (List qH))
    (hf : kE P f (ds ++ css.map (fun cs => .cptr 1000000 cs 0)) r) (ha : gI 1000000 r) (ho : o.op = .call { callee := .value y, args := xs.toArray, argTypes := ats } := by exact rfl) (hy : ev (qQ S) y = .clo f ks := by kernel_rfl) (hx : xs.map (ev (qQ S)) = ds.map .d := by kernel_rfl)
    (vL : Nat.beq css.length ks.length = true := by kernel_rfl) (hb : ks.map (fun k => uS B k) = css.map (fun cs => some (cs.map SV.d)) := by kernel_rfl) : RKs P o S B ks (.d r) := by
  have vL := Nat.eq_of_beq_eq_true vL
  refine ⟨ks.zip (css.map (fun cs => cs.map SV.d)), ?_, e_clc hf ho hy hx rfl vL ha, fun p hp => ?_⟩
  · rw [List.map_fst_zip]; simp [vL]
  · obtain ⟨i, hi⟩ := List.getElem?_of_mem hp
    rw [List.getElem?_zip_eq_some] at hi
    have h1 := congrArg (fun l : List (Option (List SV)) => l[i]?) hb
    simp only [List.getElem?_map, hi.1, Option.map_some] at h1
    have h2 := hi.2
    rw [List.getElem?_map, Option.map_eq_some_iff] at h2
    obtain ⟨cs, hc, e⟩ := h2
    rw [hc] at h1
    simp only [Option.map_some, Option.some.injEq] at h1
    rw [h1, e]
section
variable {P : Program} {n : Fr} {ops : Array Oper} {K : SL → BS → Prop} {S : SL} {B : BS} {l : List Oper} {o : Oper} {news : List Nat} {acc0 : List (List Nat × List Nat)}
theorem wC {ks : List Nat} {x : SV} (h : RKs P o S B ks x) (r : DK P n ops K news (acc0 ++ [(ks, [])]) ((dO o, x) :: S) B l) (g : goK n ops S o = true := by kernel_rfl) (hn : clearR ops S o news x = true := by kernel_rfl) : DK P n ops K news acc0 S B (o :: l) := by
  obtain ⟨st1, acc, r1, r0, r2⟩ := r
  obtain ⟨rd, hk, h, hbk⟩ := h
  obtain ⟨hd, hg, hb⟩ := nY g
  have hs := cJ.e (P := P) (n := n) (ops := ops) (news := news) (st := ⟨S, B⟩) (o := o) h hg (by rw [hd]; exact hb) hbk hn
  rw [hd, hk] at hs
  exact ⟨st1, (ks, []) :: acc, .cons hs r1, by simpa using r0, r2⟩
end
end Go.Fid
