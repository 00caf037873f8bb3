/- Part 20 of a proof: rules, plain facts, and functions walked. -/
import Derived.Test.YtapjldagikfcmaaGreatM19
import Derived.Test.YtapjldagikfcmaaGreatM11
import Derived.Test.YtapjldagikfcmaaGreatM13
namespace Go.Proofs.YtapjldagikfcmaaGreat
open Go.Fid
set_option maxRecDepth 4000
set_option linter.unusedVariables false
set_option linter.unusedSimpArgs false
theorem cb18 : callB Tryz.prog 18 = true := by kernel_rfl
theorem cb26 : callB Tryz.prog 26 = true := by kernel_rfl
theorem cb48 : callB Tryz.prog 48 = true := by kernel_rfl
theorem cb51 : callB Tryz.prog 51 = true := by kernel_rfl
theorem cb77 : callB Tryz.prog 77 = true := by kernel_rfl
theorem cb80 : callB Tryz.prog 80 = true := by kernel_rfl
theorem cb94 : callB Tryz.prog 94 = true := by kernel_rfl
theorem cb143 : callB Tryz.prog 143 = true := by kernel_rfl
theorem cb157 : callB Tryz.prog 157 = true := by kernel_rfl
theorem cb172 : callB Tryz.prog 172 = true := by kernel_rfl
theorem cb204 : callB Tryz.prog 204 = true := by kernel_rfl
theorem cb213 : callB Tryz.prog 213 = true := by kernel_rfl
theorem cb251 : callB Tryz.prog 251 = true := by kernel_rfl
theorem g_reduced (num den : jI) (a b : Int) (eU : nO num a 68719476736) (cP : nO den b 68719476736) (hb : b ≠ 0) : kH Tryz.prog 143 [(jV num), (jV den)] (jP (jD (Rat.divInt a b))) := by
 refine jM Tryz.func143 rfl cb143 rfl ?_
 show uY _ _ _ _ ⟨[(0, (.d (jV num))), (1, (.d (jV den)))], []⟩
 refine jA <| kx [(2, (.ref 0 0)), (3, (.ref 1 0)), (4, (.ref 2 0))] [(0, some (bx (jV num))), (1, some (bx (jV den))), (2, some (bx (jP (jZ.mk (jI.mk false []) (jI.mk false [])))))] (zN (vD 0) <| zN (vD 1) <| zN (uK 2 qZ uF) <| zZ) ?_
 refine jA <| kx [(5, (.ref 3 0))] [(3, some (bx (jV (kN ((Int.gcd a b : Nat) : Int)))))] (zR (kC kK) <| zR (kC kK) <| zE (kB (rs_gcd eU cP (by decide) (by decide))) <| zN (uK 3 hH hM) <| zT (qG kK) <| zZ) ?_
 refine jA <| jA <| kx [(17, (vb (decide ((vC b) < 0))))] [] (zR (kC kK) <| zE (kB (rs_sign cP (by decide))) <| zE qY <| zZ) ?_
 refine jO (b := decide ((vC b) < 0)) rfl (fun h1 => ?_) (fun h1 => ?_)
 ·replace h1 := of_decide_eq_true h1
  have hlt := signI_lt.1 h1
  refine kx [] [(3, some (bx (jV (kN (-(((Int.gcd a b : Nat) : Int)))))))] (zR (kC kK) <| zE (kB (rs_neg (nH (k := 68719476736) eU cP (by decide)) (by decide))) <| zT (qG kK) <| zZ) ?_
  refine jA <| kx [(6, (.ref 4 0))] [(4, some (bx (jV (kN (a.fdiv (-(((Int.gcd a b : Nat) : Int)))))))), (5, none)] (zR (kC kK) <| zR (kC kK) <| zE (kB (rs_divide eU (cI (nH (k := 68719476736) eU cP (by decide))) (by decide) (by decide) (by have := gcd_ne (a := a) hb; omega))) <| zM <| zE vA <| zE vA <| zE vA <| zN (uK 4 hH hM) <| zN (uK 5 hH hM) <| zT (qG kK) <| zT (qG kK) <| zM <| zZ) ?_
  refine jA <| kx [(9, (.ref 6 0))] [(6, some (bx (jV (kN (b.fdiv (-(((Int.gcd a b : Nat) : Int)))))))), (7, none)] (zR (kC kK) <| zR (kC kK) <| zE (kB (rs_divide cP (cI (nH (k := 68719476736) eU cP (by decide))) (by decide) (by decide) (by have := gcd_ne (a := a) hb; omega))) <| zM <| zE vA <| zE vA <| zE vA <| zN (uK 6 hH hM) <| zN (uK 7 hH hM) <| zT (qG kK) <| zT (qG kK) <| zM <| zZ) ?_
  refine jA <| kx [] [(2, some (bx (jP (jZ.mk (kN (a.fdiv (-(((Int.gcd a b : Nat) : Int))))) (kN (b.fdiv (-(((Int.gcd a b : Nat) : Int)))))))))] (zR (kC kK) <| zR (kC kK) <| zE (oBd pl38 qZ uF) <| zT (qG jR) <| zZ) ?_
  refine jF ⟨_, (qS (cs := (bx (jP (jZ.mk (kN (a.fdiv (-(((Int.gcd a b : Nat) : Int))))) (kN (b.fdiv (-(((Int.gcd a b : Nat) : Int))))))))) (d := (jP (jZ.mk (kN (a.fdiv (-(((Int.gcd a b : Nat) : Int))))) (kN (b.fdiv (-(((Int.gcd a b : Nat) : Int)))))))) rfl rfl jR rfl rfl .nil), ?_⟩
  rw [← red_neg2 hlt]; rfl
 ·replace h1 := of_decide_eq_false h1
  have hge : ¬ b < 0 := fun hh => h1 (signI_lt.2 hh)
  refine jB <| jA <| kx [(6, (.ref 8 0))] [(8, some (bx (jV (kN (a.fdiv (((Int.gcd a b : Nat) : Int))))))), (9, none)] (zR (kC kK) <| zR (kC kK) <| zE (kB (rs_divide eU (nH (k := 68719476736) eU cP (by decide)) (by decide) (by decide) (by have := gcd_ne (a := a) hb; omega))) <| zM <| zE vA <| zE vA <| zE vA <| zN (uK 8 hH hM) <| zN (uK 9 hH hM) <| zT (qG kK) <| zT (qG kK) <| zM <| zZ) ?_
  refine jA <| kx [(9, (.ref 10 0))] [(10, some (bx (jV (kN (b.fdiv (((Int.gcd a b : Nat) : Int))))))), (11, none)] (zR (kC kK) <| zR (kC kK) <| zE (kB (rs_divide cP (nH (k := 68719476736) eU cP (by decide)) (by decide) (by decide) (by have := gcd_ne (a := a) hb; omega))) <| zM <| zE vA <| zE vA <| zE vA <| zN (uK 10 hH hM) <| zN (uK 11 hH hM) <| zT (qG kK) <| zT (qG kK) <| zM <| zZ) ?_
  refine jA <| kx [] [(2, some (bx (jP (jZ.mk (kN (a.fdiv (((Int.gcd a b : Nat) : Int)))) (kN (b.fdiv (((Int.gcd a b : Nat) : Int))))))))] (zR (kC kK) <| zR (kC kK) <| zE (oBd pl38 qZ uF) <| zT (qG jR) <| zZ) ?_
  refine jF ⟨_, (qS (cs := (bx (jP (jZ.mk (kN (a.fdiv (((Int.gcd a b : Nat) : Int)))) (kN (b.fdiv (((Int.gcd a b : Nat) : Int)))))))) (d := (jP (jZ.mk (kN (a.fdiv (((Int.gcd a b : Nat) : Int)))) (kN (b.fdiv (((Int.gcd a b : Nat) : Int))))))) rfl rfl jR rfl rfl .nil), ?_⟩
  rw [red_pos hge hb]; rfl
theorem g_whole1 (n : Int) (hlo : -9223372036854775808 ≤ n) (hhi : n ≤ 9223372036854775807) : kH Tryz.prog 77 [(.val (.int .i64 (n)))] (jV (kN n)) := by
 refine jM Tryz.func77 rfl cb77 rfl ?_
 show uY _ _ _ _ ⟨[(0, (vi n))], []⟩
 refine jA <| kx [(2, (.ref 0 0))] [(0, some (bx (jV (jI.mk false []))))] (zN (uK 0 hH hM) <| zZ) ?_
 refine jA <| kx [] [(0, some (bx (jV (kN n))))] (zM <| zE (kB (r_of n (by omega) (by omega))) <| zT (qG kK) <| zZ) ?_
 refine jF ⟨_, (qS (cs := (bx (jV (kN n)))) (d := (jV (kN n))) rfl rfl kK rfl rfl .nil), ?_⟩
 rfl
theorem nQ (n : Int) (hlo : -9223372036854775808 ≤ n) (hhi : n ≤ 9223372036854775807) : kH Tryz.prog 18 [(.val (.int .i64 (n)))] (jP (jD ((n : Int) : Rat))) := by
 refine jM Tryz.func18 rfl cb18 rfl ?_
 show uY _ _ _ _ ⟨[(0, (vi n))], []⟩
 refine jA <| kx [(2, (.ref 0 0))] [(0, some (bx (jP (jZ.mk (jI.mk false []) (jI.mk false [])))))] (zN (uK 0 qZ uF) <| zZ) ?_
 refine jA <| kx [] [(0, some (bx (jP (jZ.mk (kN n) (kN 1)))))] (zM <| zE (kB (g_whole1 n (by omega) (by omega))) <| zE (kB (g_whole1 1 (by decide) (by decide))) <| zE (oBd pl38 qZ uF) <| zT (qG jR) <| zZ) ?_
 refine jF ⟨_, (qS (cs := (bx (jP (jZ.mk (kN n) (kN 1))))) (d := (jP (jZ.mk (kN n) (kN 1)))) rfl rfl jR rfl rfl .nil), ?_⟩
 rfl
theorem g_valid (x : jZ) (p : Rat) (hx : fW x p 17179869184) : kH Tryz.prog 48 [(jP x)] (.val (.bool ((vW x)))) := by
 refine jM Tryz.func48 rfl cb48 rfl ?_
 show uY _ _ _ _ ⟨[(0, (.d (jP x)))], []⟩
 refine jA <| kx [(1, (.ref 0 0))] [(0, some (bx (jP x)))] (zN (vD 0) <| zM <| zZ) ?_
 refine jA <| jA <| kx [(18, (vb ((!(vO x.num) || !(vO x.den)) || decide ((vC (kI x.den)) ≤ 0))))] [] ?_ ?_
 ·refine zE (kE yI) <| zR (kC kK) <| zE (kB (r_valid x.num (Nat.le_trans (gS hx.n1).l (by decide)))) <| zE oNt <| zE (oV (vb (!(vO x.num))) (uS (by kernel_rfl))) <| ?_
  rcases hb1 : (!(vO x.num)) with _ | _
  ·refine zE (kE yJ) <| zR (kC kK) <| zE (kB (r_valid x.den (Nat.le_trans (gS hx.n2).l (by decide)))) <| zE oNt <| zE eT <| zE (oV (vb (false || !(vO x.den))) (uS (by kernel_rfl))) <| ?_
   rcases hb2 : (false || !(vO x.den)) with _ | _
   ·exact zE (kE yJ) <| zR (kC kK) <| zE (kB (rs_sign (gS hx.n2) (by decide))) <| zE oLe <| zE eT <| zZ
   ·exact zK <| zK <| zK <| zK <| zE yH <| zZ
  ·exact zK <| zK <| zK <| zK <| zE yH <| zM <| zK <| zK <| zK <| zK <| zE yH <| zZ
 refine jO rfl (fun h3 => ?_) (fun h3 => ?_)
 ·refine jA <| kx [(2, (vb false))] [] (zM <| zZ) ?_
  refine jF ⟨_, (.tmp (d := (.val (.bool (false)))) rfl .nil), ?_⟩
  rw [validR_no h3]; rfl
 ·refine jB <| jA <| kx [(2, (vb ((xR (((Int.gcd (kI x.num) (kI x.den) : Nat) : Int)) 1) == 0)))] [] (zE (kE yI) <| zR (kC kK) <| zE (kE yJ) <| zR (kC kK) <| zE (kB (rs_gcd (gS hx.n1) (gS hx.n2) (by decide) (by decide))) <| zE (kB (g_whole1 1 (by decide) (by decide))) <| zE (kB (rs_compare (nH (k := 17179869184) (gS hx.n1) (gS hx.n2) (by decide)) (mK (z := 1) (by decide)) (by decide) (by decide))) <| zE xK <| zM <| zZ) ?_
  refine jF ⟨_, (.tmp (d := (.val (.bool (((xR (((Int.gcd (kI x.num) (kI x.den) : Nat) : Int)) 1) == 0))))) rfl .nil), ?_⟩
  rw [validR_yes h3]; rfl
theorem aF (x : jZ) (p : Rat) (hx : fW x p 17179869184) : kH Tryz.prog 94 [(jP x)] (jP (jD p)) := by
 refine jM Tryz.func94 rfl cb94 rfl ?_
 show uY _ _ _ _ ⟨[(0, (.d (jP x)))], []⟩
 refine jA <| kx [(1, (.ref 0 0)), (2, (.ref 1 0))] [(0, some (bx (jP x))), (1, some (bx (jP (jZ.mk (jI.mk false []) (jI.mk false [])))))] (zN (vD 0) <| zN (uK 1 qZ uF) <| zZ) ?_
 refine jA <| jA <| kx [(4, (vb (vW x)))] [] (zR (kC jR) <| zE (kB (g_valid x p hx)) <| zZ) ?_
 refine jO (b := (vW x)) rfl (fun h1 => ?_) (fun h1 => ?_)
 ·refine jA <| kx [] [(1, some (bx (jP x)))] (zR (kC jR) <| zT (qG jR) <| zZ) ?_
  refine jF ⟨_, (qS (cs := (bx (jP x))) (d := (jP x)) rfl rfl jR rfl rfl .nil), ?_⟩
  rw [← hx.v, ofQ_toQ h1]; rfl
 ·refine jB <| jA <| kx [] [(1, some (bx (jP (jD ((0 : Int) : Rat)))))] (zE (kB (nQ 0 (by decide) (by decide))) <| zT (qG jR) <| zZ) ?_
  refine jF ⟨_, (qS (cs := (bx (jP (jD ((0 : Int) : Rat))))) (d := (jP (jD ((0 : Int) : Rat)))) rfl rfl jR rfl rfl .nil), ?_⟩
  rw [← hx.v, toQ_bad h1]; rfl
theorem bN (x : jZ) (p : Rat) (hx : fW x p 17179869184) : kH Tryz.prog 26 [(jP x)] (.val (.int .i64 ((xV p)))) := by
 refine jM Tryz.func26 rfl cb26 rfl ?_
 show uY _ _ _ _ ⟨[(0, (.d (jP x)))], []⟩
 refine jA <| kx [(1, (.ref 0 0))] [(0, some (bx (jP x)))] (zN (vD 0) <| zM <| zZ) ?_
 refine jA <| kx [(2, (vi (vC p.num)))] [] (zR (kC jR) <| zE (kB (aF x p hx)) <| zE (oFv ft38_0 kK) <| zE (kB (rs_sign (uO hx.ql) (by decide))) <| zM <| zZ) ?_
 refine jF ⟨_, (.tmp (d := (.val (.int .i64 ((vC p.num))))) rfl .nil), ?_⟩
 rfl
theorem g_neg (x : jZ) (p : Rat) (hx : fW x p 17179869184) : kH Tryz.prog 251 [(jP x)] (jP (jD (-p))) := by
 refine jM Tryz.func251 rfl cb251 rfl ?_
 show uY _ _ _ _ ⟨[(0, (.d (jP x)))], []⟩
 refine jA <| kx [(1, (.ref 0 0)), (2, (.ref 1 0))] [(0, some (bx (jP x))), (1, some (bx (jP (jZ.mk (jI.mk false []) (jI.mk false [])))))] (zN (vD 0) <| zN (uK 1 qZ uF) <| zZ) ?_
 refine jA <| kx [(3, (.ref 2 0))] [(2, some (bx (jP (jD p))))] (zR (kC jR) <| zE (kB (aF x p hx)) <| zN (uK 2 qZ uF) <| zT (qG jR) <| zZ) ?_
 refine jA <| kd [] [(1, some (bx (jP (jZ.mk (kN (-p.num)) ((jD p).den)))))] mo (wE (kE yI) <| wR (kC kK) <| wE (kB (rs_neg (uO hx.ql) (by decide))) <| wE (kE yJ) <| wR (kC kK) <| wE (oBd pl38 qZ uF) <| wT (qG jR) <| wZ) ?_
 refine jF ⟨_, (qS (cs := (bx (jP (jZ.mk (kN (-p.num)) ((jD p).den))))) (d := (jP (jZ.mk (kN (-p.num)) ((jD p).den)))) rfl rfl jR rfl rfl .nil), ?_⟩
 rfl
theorem g_add (x : jZ) (y : jZ) (p : Rat) (q : Rat) (hx : fW x p 17179869184) (hy : fW y q 17179869184) : kH Tryz.prog 213 [(jP x), (jP y)] (jP (jD (p + q))) := by
 refine jM Tryz.func213 rfl cb213 rfl ?_
 show uY _ _ _ _ ⟨[(0, (.d (jP x))), (1, (.d (jP y)))], []⟩
 refine jA <| kx [(2, (.ref 0 0)), (3, (.ref 1 0)), (4, (.ref 2 0))] [(0, some (bx (jP x))), (1, some (bx (jP y))), (2, some (bx (jP (jZ.mk (jI.mk false []) (jI.mk false [])))))] (zN (vD 0) <| zN (vD 1) <| zN (uK 2 qZ uF) <| zZ) ?_
 refine jA <| kx [(5, (.ref 3 0))] [(3, some (bx (jP (jD p))))] (zR (kC jR) <| zE (kB (aF x p hx)) <| zN (uK 3 qZ uF) <| zT (qG jR) <| zZ) ?_
 refine jA <| kx [(6, (.ref 4 0))] [(4, some (bx (jP (jD q))))] (zR (kC jR) <| zE (kB (aF y q hy)) <| zN (uK 4 qZ uF) <| zT (qG jR) <| zZ) ?_
 refine jA <| kd [] [(2, some (bx (jP (jD (Rat.divInt ((p.num * (q.den : Int)) + (q.num * (p.den : Int))) ((p.den : Int) * (q.den : Int)))))))] mo (wE (kE yI) <| wR (kC kK) <| wE (kE yJ) <| wR (kC kK) <| wE (kB (rs_mul (uO hx.ql) (vE hy.ql) (by decide) (by decide))) <| wE (kE yI) <| wR (kC kK) <| wE (kE yJ) <| wR (kC kK) <| wE (kB (rs_mul (uO hy.ql) (vE hx.ql) (by decide) (by decide))) <| wE (kB (rs_add (gR (k := 34359738368) (uO hx.ql) (vE hy.ql) (by decide)) (gR (k := 34359738368) (uO hy.ql) (vE hx.ql) (by decide)) (by decide) (by decide))) <| wE (kE yJ) <| wR (kC kK) <| wE (kE yJ) <| wR (kC kK) <| wE (kB (rs_mul (vE hx.ql) (vE hy.ql) (by decide) (by decide))) <| wE (kB (g_reduced (kN ((p.num * (q.den : Int)) + (q.num * (p.den : Int)))) (kN ((p.den : Int) * (q.den : Int))) ((p.num * (q.den : Int)) + (q.num * (p.den : Int))) ((p.den : Int) * (q.den : Int)) (nL (iok_add (k := 34359738369) (gR (k := 34359738368) (uO hx.ql) (vE hy.ql) (by decide)) (gR (k := 34359738368) (uO hy.ql) (vE hx.ql) (by decide)) (by decide)) (by decide)) (nL (gR (k := 34359738368) (vE hx.ql) (vE hy.ql) (by decide)) (by decide)) (mul_ne (fT _) (fT _)))) <| wT (qG jR) <| wZ) ?_
 refine jF ⟨_, (qS (cs := (bx (jP (jD (Rat.divInt ((p.num * (q.den : Int)) + (q.num * (p.den : Int))) ((p.den : Int) * (q.den : Int))))))) (d := (jP (jD (Rat.divInt ((p.num * (q.den : Int)) + (q.num * (p.den : Int))) ((p.den : Int) * (q.den : Int)))))) rfl rfl jR rfl rfl .nil), ?_⟩
 rw [add_divInt]; rfl
theorem g_sub (x : jZ) (y : jZ) (p : Rat) (q : Rat) (hx : fW x p 17179869184) (hy : fW y q 17179869184) : kH Tryz.prog 172 [(jP x), (jP y)] (jP (jD (p - q))) := by
 refine jM Tryz.func172 rfl cb172 rfl ?_
 show uY _ _ _ _ ⟨[(0, (.d (jP x))), (1, (.d (jP y)))], []⟩
 refine jA <| kx [(2, (.ref 0 0)), (3, (.ref 1 0)), (4, (.ref 2 0))] [(0, some (bx (jP x))), (1, some (bx (jP y))), (2, some (bx (jP (jZ.mk (jI.mk false []) (jI.mk false [])))))] (zN (vD 0) <| zN (vD 1) <| zN (uK 2 qZ uF) <| zZ) ?_
 refine jA <| kd [] [(2, some (bx (jP (jD (p + (-q))))))] mo (wR (kC jR) <| wR (kC jR) <| wE (kB (g_neg y q hy)) <| wE (kB (g_add x (jD (-q)) p (-q) hx (kA (ql_neg hy.ql)))) <| wT (qG jR) <| wZ) ?_
 refine jF ⟨_, (qS (cs := (bx (jP (jD (p + (-q)))))) (d := (jP (jD (p + (-q))))) rfl rfl jR rfl rfl .nil), ?_⟩
 rw [Rat.sub_eq_add_neg]; rfl
theorem eW (x : jZ) (y : jZ) (p : Rat) (q : Rat) (hx : fW x p 17179869184) (hy : fW y q 17179869184) : kH Tryz.prog 51 [(jP x), (jP y)] (jP (jD (p * q))) := by
 refine jM Tryz.func51 rfl cb51 rfl ?_
 show uY _ _ _ _ ⟨[(0, (.d (jP x))), (1, (.d (jP y)))], []⟩
 refine jA <| kx [(2, (.ref 0 0)), (3, (.ref 1 0)), (4, (.ref 2 0))] [(0, some (bx (jP x))), (1, some (bx (jP y))), (2, some (bx (jP (jZ.mk (jI.mk false []) (jI.mk false [])))))] (zN (vD 0) <| zN (vD 1) <| zN (uK 2 qZ uF) <| zZ) ?_
 refine jA <| kx [(5, (.ref 3 0))] [(3, some (bx (jP (jD p))))] (zR (kC jR) <| zE (kB (aF x p hx)) <| zN (uK 3 qZ uF) <| zT (qG jR) <| zZ) ?_
 refine jA <| kx [(6, (.ref 4 0))] [(4, some (bx (jP (jD q))))] (zR (kC jR) <| zE (kB (aF y q hy)) <| zN (uK 4 qZ uF) <| zT (qG jR) <| zZ) ?_
 refine jA <| kd [] [(2, some (bx (jP (jD (Rat.divInt (p.num * q.num) ((p.den : Int) * (q.den : Int)))))))] mo (wE (kE yI) <| wR (kC kK) <| wE (kE yI) <| wR (kC kK) <| wE (kB (rs_mul (uO hx.ql) (uO hy.ql) (by decide) (by decide))) <| wE (kE yJ) <| wR (kC kK) <| wE (kE yJ) <| wR (kC kK) <| wE (kB (rs_mul (vE hx.ql) (vE hy.ql) (by decide) (by decide))) <| wE (kB (g_reduced (kN (p.num * q.num)) (kN ((p.den : Int) * (q.den : Int))) (p.num * q.num) ((p.den : Int) * (q.den : Int)) (nL (gR (k := 34359738368) (uO hx.ql) (uO hy.ql) (by decide)) (by decide)) (nL (gR (k := 34359738368) (vE hx.ql) (vE hy.ql) (by decide)) (by decide)) (mul_ne (fT _) (fT _)))) <| wT (qG jR) <| wZ) ?_
 refine jF ⟨_, (qS (cs := (bx (jP (jD (Rat.divInt (p.num * q.num) ((p.den : Int) * (q.den : Int))))))) (d := (jP (jD (Rat.divInt (p.num * q.num) ((p.den : Int) * (q.den : Int)))))) rfl rfl jR rfl rfl .nil), ?_⟩
 rw [mul_divInt]; rfl
theorem g_new (num den : jI) (a b : Int) (eU : nO num a 68719476736) (cP : nO den b 68719476736) : kH Tryz.prog 157 [(jV num), (jV den)] (.tup [(jP (newR a b)), (.val (.int .i64 ((newC b))))]) := by
 refine jM Tryz.func157 rfl cb157 rfl ?_
 show uY _ _ _ _ ⟨[(0, (.d (jV num))), (1, (.d (jV den)))], []⟩
 refine jA <| kx [(2, (.ref 0 0)), (3, (.ref 1 0)), (4, (.ref 2 0))] [(0, some (bx (jV num))), (1, some (bx (jV den))), (2, some (bx (jP (jZ.mk (jI.mk false []) (jI.mk false [])))))] (zN (vD 0) <| zN (vD 1) <| zN (uK 2 qZ uF) <| zM <| zZ) ?_
 refine jA <| jA <| kx [(8, (vb ((vC b) == 0)))] [] (zR (kC kK) <| zE (kB (rs_sign cP (by decide))) <| zE xK <| zZ) ?_
 refine jO (b := ((vC b) == 0)) rfl (fun h1 => ?_) (fun h1 => ?_)
 ·replace h1 := eq_of_beq h1
  have hb : b = 0 := sign0 h1
  refine jA <| kx [(5, (kD 14))] [(2, some (bx (jP (jZ.mk (jI.mk false []) (jI.mk false [])))))] (zE (oBd pl38 qZ uF) <| zT (qG jR) <| zM <| zZ) ?_
  refine jF ⟨_, (qS (cs := (bx (jP (jZ.mk (jI.mk false []) (jI.mk false []))))) (d := (jP (jZ.mk (jI.mk false []) (jI.mk false [])))) rfl rfl jR rfl rfl (.tmp (d := (.val (.int .i64 (14)))) rfl .nil)), ?_⟩
  rw [hb]; rfl
 ·replace h1 := ne_of_beq_false h1
  have hb : b ≠ 0 := fun hh => h1 (by rw [hh]; rfl)
  refine jB <| jA <| kx [(5, (kD 0))] [(2, some (bx (jP (jD (Rat.divInt a b)))))] (zR (kC kK) <| zR (kC kK) <| zE (kB (g_reduced num den a b eU cP (by assumption))) <| zT (qG jR) <| zM <| zZ) ?_
  refine jF ⟨_, (qS (cs := (bx (jP (jD (Rat.divInt a b))))) (d := (jP (jD (Rat.divInt a b)))) rfl rfl jR rfl rfl (.tmp (d := (.val (.int .i64 (0)))) rfl .nil)), ?_⟩
  unfold newR newC; rw [if_neg hb, if_neg hb]; rfl
theorem g_divide (x : jZ) (y : jZ) (p : Rat) (q : Rat) (hx : fW x p 17179869184) (hy : fW y q 17179869184) : kH Tryz.prog 204 [(jP x), (jP y)] (.tup [(jP (divR p q)), (.val (.int .i64 ((divC q))))]) := by
 refine jM Tryz.func204 rfl cb204 rfl ?_
 show uY _ _ _ _ ⟨[(0, (.d (jP x))), (1, (.d (jP y)))], []⟩
 refine jA <| kx [(2, (.ref 0 0)), (3, (.ref 1 0)), (4, (.ref 2 0))] [(0, some (bx (jP x))), (1, some (bx (jP y))), (2, some (bx (jP (jZ.mk (jI.mk false []) (jI.mk false [])))))] (zN (vD 0) <| zN (vD 1) <| zN (uK 2 qZ uF) <| zM <| zZ) ?_
 refine jA <| kx [(6, (.ref 3 0))] [(3, some (bx (jP (jD p))))] (zR (kC jR) <| zE (kB (aF x p hx)) <| zN (uK 3 qZ uF) <| zT (qG jR) <| zZ) ?_
 refine jA <| kx [(7, (.ref 4 0))] [(4, some (bx (jP (jD q))))] (zR (kC jR) <| zE (kB (aF y q hy)) <| zN (uK 4 qZ uF) <| zT (qG jR) <| zZ) ?_
 refine jA <| kd [(5, (vi (newC ((p.den : Int) * q.num))))] [(2, some (bx (jP (newR (p.num * (q.den : Int)) ((p.den : Int) * q.num)))))] mo (wE (kE yI) <| wR (kC kK) <| wE (kE yJ) <| wR (kC kK) <| wE (kB (rs_mul (uO hx.ql) (vE hy.ql) (by decide) (by decide))) <| wE (kE yJ) <| wR (kC kK) <| wE (kE yI) <| wR (kC kK) <| wE (kB (rs_mul (vE hx.ql) (uO hy.ql) (by decide) (by decide))) <| wE (kB (g_new (kN (p.num * (q.den : Int))) (kN ((p.den : Int) * q.num)) (p.num * (q.den : Int)) ((p.den : Int) * q.num) (nL (gR (k := 34359738368) (uO hx.ql) (vE hy.ql) (by decide)) (by decide)) (nL (gR (k := 34359738368) (vE hx.ql) (uO hy.ql) (by decide)) (by decide)))) <| wE vA <| wE vA <| wT (qG jR) <| wM <| wZ) ?_
 refine jF ⟨_, (qS (cs := (bx (jP (newR (p.num * (q.den : Int)) ((p.den : Int) * q.num))))) (d := (jP (newR (p.num * (q.den : Int)) ((p.den : Int) * q.num)))) rfl rfl jR rfl rfl (.tmp (d := (.val (.int .i64 ((newC ((p.den : Int) * q.num)))))) rfl .nil)), ?_⟩
 rw [newR_div, newC_div]; rfl
theorem g_compare (x : jZ) (y : jZ) (p : Rat) (q : Rat) (hx : fW x p 4294967296) (hy : fW y q 4294967296) : kH Tryz.prog 80 [(jP x), (jP y)] (.val (.int .i64 ((bE p q)))) := by
 refine jM Tryz.func80 rfl cb80 rfl ?_
 show uY _ _ _ _ ⟨[(0, (.d (jP x))), (1, (.d (jP y)))], []⟩
 refine jA <| kx [(2, (.ref 0 0)), (3, (.ref 1 0))] [(0, some (bx (jP x))), (1, some (bx (jP y)))] (zN (vD 0) <| zN (vD 1) <| zM <| zZ) ?_
 refine jA <| kx [(4, (vi (xV (p - q))))] [] (zR (kC jR) <| zR (kC jR) <| zE (kB (g_sub x y p q (jY hx (by decide)) (jY hy (by decide)))) <| zE (kB (bN (jD (p - q)) (p - q) (jY (kA (xG (k := 8589934593) hx.ql hy.ql (by decide))) (by decide)))) <| zM <| zZ) ?_
 refine jF ⟨_, (.tmp (d := (.val (.int .i64 ((xV (p - q)))))) rfl .nil), ?_⟩
 rw [← signQ_sub]; rfl
end Go.Proofs.YtapjldagikfcmaaGreat
namespace Go.Proofs.YtapjldagikfcmaaGreat
open Go.Fid
set_option maxRecDepth 4000
set_option linter.unusedVariables false
set_option linter.unusedSimpArgs false
theorem cb20 : callB Tryz.prog 20 = true := by kernel_rfl
theorem cb46 : callB Tryz.prog 46 = true := by kernel_rfl
theorem g_same (x : jZ) (y : jZ) (p : Rat) (q : Rat) (hx : fW x p 4294967296) (hy : fW y q 4294967296) : kH Tryz.prog 20 [(jP x), (jP y)] (.val (.bool ((sameR x y)))) := by
 refine jM Tryz.func20 rfl cb20 rfl ?_
 show uY _ _ _ _ ⟨[(0, (.d (jP x))), (1, (.d (jP y)))], []⟩
 refine jA <| kx [(2, (.ref 0 0)), (3, (.ref 1 0))] [(0, some (bx (jP x))), (1, some (bx (jP y)))] (zN (vD 0) <| zN (vD 1) <| zM <| zZ) ?_
 refine jA <| kx [(4, (vb (((vW x) && (vW y)) && ((bE p q) == 0))))] [] ?_ ?_
 ·refine zR (kC jR) <| zE (kB (g_valid x p (jY hx (by decide)))) <| zE (oV (vb (vW x)) (uS (by kernel_rfl))) <| ?_
  rcases hb1 : (vW x) with _ | _
  ·exact zK <| zK <| zE zU <| zM <| zK <| zK <| zK <| zK <| zE zU <| zM <| zZ
  ·refine zR (kC jR) <| zE (kB (g_valid y q (jY hy (by decide)))) <| zE oPa <| zE (oV (vb (true && (vW y))) (uS (by kernel_rfl))) <| ?_
   rcases hb2 : (true && (vW y)) with _ | _
   ·exact zK <| zK <| zK <| zK <| zE zU <| zM <| zZ
   ·exact zR (kC jR) <| zR (kC jR) <| zE (kB (g_compare x y p q hx hy)) <| zE xK <| zE oPa <| zM <| zZ
 refine jF ⟨_, (.tmp (d := (.val (.bool ((((vW x) && (vW y)) && ((bE p q) == 0)))))) rfl .nil), ?_⟩
 unfold sameR
 rw [← sameR_eq, hx.v, hy.v]; rfl
theorem fY (x : jZ) (p : Rat) (hx : fW x p 140737488355328) : kH Tryz.prog 46 [(jP x)] (.val (.int .i64 ((((digR x) : Nat) : Int)))) := by
 have h1 := hx.n1
 have h2 := hx.n2
 refine jM Tryz.func46 rfl cb46 rfl ?_
 show uY _ _ _ _ ⟨[(0, (.d (jP x)))], []⟩
 refine jA <| kx [(1, (.ref 0 0))] [(0, some (bx (jP x)))] (zN (vD 0) <| zM <| zZ) ?_
 refine jA <| kx [(2, (kD (x.num.gs.length + x.den.gs.length)))] [] (zE (kE yI) <| zE (kE yB) <| zR (qR gF) <| zE (nE kY) <| zE (kE yJ) <| zE (kE yB) <| zR (qR gF) <| zE (nE kY) <| zE (uE (x.num.gs.length + x.den.gs.length)) <| zM <| zZ) ?_
 refine jF ⟨_, (.tmp (d := (.val (.int .i64 ((((x.num.gs.length + x.den.gs.length) : Nat) : Int))))) rfl .nil), ?_⟩
 rfl
end Go.Proofs.YtapjldagikfcmaaGreat
namespace Go.Fid
def jH (a b c x y z : Rat) : Rat := a * x + b * y + c * z
theorem dot3_eq (a b c x y z : Rat) : jH a b c x y z = (((0 : Int) : Rat) + a * x + b * y + c * z) := by
  unfold jH; rw [Rat.intCast_zero, Rat.zero_add]
theorem jS {a b c x y z : Rat} {n k : Nat} (h1 : QL a n) (h2 : QL b n) (h3 : QL c n) (h4 : QL x n) (h5 : QL y n) (h6 : QL z n) (hk : 6 * n + 2 ≤ k) : QL (jH a b c x y z) k := by
  unfold jH
  exact kQ (kQ (jG h1 h4 (Nat.le_refl _)) (jG h2 h5 (Nat.le_refl _)) (Nat.le_refl _)) (jG h3 h6 (Nat.le_refl _)) (by omega)
def nF (a b c d : Int) : Nat := if a = 0 ∧ b = 0 ∧ c = 0 ∧ d = 0 then 1 else if (-1048576 ≤ a ∧ a ≤ 1048576) ∧ (-1048576 ≤ b ∧ b ≤ 1048576) ∧ (-1048576 ≤ c ∧ c ≤ 1048576) ∧ (-1048576 ≤ d ∧ d ≤ 1048576) then 0 else 3
theorem rotC_z {a b c d : Int} (h : a = 0 ∧ b = 0 ∧ c = 0 ∧ d = 0) : nF a b c d = 1 := if_pos h
theorem aO {a b c d : Int} (h : ¬ (a = 0 ∧ b = 0 ∧ c = 0 ∧ d = 0)) (h2 : ¬ ((-1048576 ≤ a ∧ a ≤ 1048576) ∧ (-1048576 ≤ b ∧ b ≤ 1048576) ∧ (-1048576 ≤ c ∧ c ≤ 1048576) ∧ (-1048576 ≤ d ∧ d ≤ 1048576))) : nF a b c d = 3 := by unfold nF; rw [if_neg h, if_neg h2]
theorem aS {a b c d : Int} (h : ¬ (a = 0 ∧ b = 0 ∧ c = 0 ∧ d = 0)) (h2 : (-1048576 ≤ a ∧ a ≤ 1048576) ∧ (-1048576 ≤ b ∧ b ≤ 1048576) ∧ (-1048576 ≤ c ∧ c ≤ 1048576) ∧ (-1048576 ≤ d ∧ d ≤ 1048576)) : nF a b c d = 0 := by unfold nF; rw [if_neg h, if_pos h2]
def mU (x y z u v f : Int) : Prop := (-1048576 ≤ x ∧ x ≤ 1048576) ∧ (-1048576 ≤ y ∧ y ≤ 1048576) ∧ (-1048576 ≤ z ∧ z ≤ 1048576) ∧ (-1048576 ≤ u ∧ u ≤ 1048576) ∧ (-1048576 ≤ v ∧ v ≤ 1048576) ∧ (1 ≤ f ∧ f ≤ 1048576)
instance {x y z u v f : Int} : Decidable (mU x y z u v f) := by unfold mU; infer_instance
def uQ (x y z u v f a b c d : Int) : Nat := if mU x y z u v f then nF a b c d else 2
theorem cV {x y z u v f a b c d : Int} (h : ¬ mU x y z u v f) : uQ x y z u v f a b c d = 2 := if_neg h
theorem dG {x y z u v f a b c d : Int} (h : mU x y z u v f) : uQ x y z u v f a b c d = nF a b c d := if_pos h
theorem vM {a b : Int} (ha : -1048576 ≤ a ∧ a ≤ 1048576) (hb : -1048576 ≤ b ∧ b ≤ 1048576) : -1099511627776 ≤ a * b ∧ a * b ≤ 1099511627776 := by
  have h1 : (a * b).natAbs ≤ 1048576 * 1048576 := by
    rw [Int.natAbs_mul]; exact Nat.mul_le_mul (by omega) (by omega)
  omega
end Go.Fid
set_option linter.unusedVariables false
set_option linter.unusedSimpArgs false
namespace Go.Fid
open Go.RowKit (Below)
section
variable {P : Program} {o : Oper} {S : Nat → SV}
theorem e_mkf {f : FuncId} {ks : List Nat} {caps : List Operand} (ho : o.op = .makeFunc (.func f) #[] caps.toArray) (hx : caps.map (ev S) = ks.map (fun k => .ref k 0)) : vT P o S [] (.clo f ks) :=
  vT.same fun a w D β hop _ => by
    refine ⟨.func (.func f) #[] (caps.map a.eval).toArray, ?_, caps.map a.eval, rfl, ?_, fun i k hk => ?_⟩
    · simp only [execOp, ho, Instr.makeFunc, Array.map_empty, List.map_toArray, Sem.run_bind, Sem.run_pure, Result.andThen_ok]
      rfl
    · simpa using congrArg List.length hx
    · have hi := congrArg (fun l : List SV => l[i]?) hx
      simp only [List.getElem?_map, hk, Option.map_some, Option.map_eq_some_iff] at hi
      obtain ⟨c, hc, e⟩ := hi
      have hm := hop c (by simp [ho, Op.operands, List.mem_of_getElem? hc])
      rw [e] at hm
      obtain ⟨b, h1, h2⟩ := hm
      exact ⟨b, h1, by rw [List.getElem?_map, hc, Option.map_some, h2]⟩
theorem e_clc {y : Operand} {xs : List Operand} {ats : Array TypeId} {f : FuncId} {ds : List kX} {r : kX} {ks : List Nat} {css : List (List kX)} {E : TypeId} {rd : List (Nat × List SV)}
    (hf : kH P f (ds ++ css.map (fun cs => .cptr E cs 0)) r) (ho : o.op = .call { callee := .value y, args := xs.toArray, argTypes := ats }) (hy : ev S y = .clo f ks) (hx : xs.map (ev S) = ds.map .d)
    (hrk : rd = ks.zip (css.map (fun cs => cs.map SV.d))) (vJ : css.length = ks.length) (ha : gO E r) : vT P o S rd (.d r) :=
  fun a w D β Q hop hrd hD => by
    have hyv := hop y (by simp [ho, Op.operands, Call.operands])
    rw [hy] at hyv
    obtain ⟨vs, hv1, hv2, hv3⟩ := hyv
    have hl : xs.length = ds.length := by simpa using congrArg List.length hx
    have hargs0 : Args w D (xs.map a.eval) ds := by
      refine ⟨by simpa using hl, fun i v d hv hd => ?_⟩
      rw [List.getElem?_map, Option.map_eq_some_iff] at hv
      obtain ⟨x, hxi, rfl⟩ := hv
      have hm := hop x (by simp [ho, Op.operands, Call.operands, List.mem_of_getElem? hxi])
      have hi := congrArg (fun l : List SV => l[i]?) hx
      simp only [List.getElem?_map, hxi, hd, Option.map_some, Option.some.injEq] at hi
      rw [hi] at hm
      exact hm
    have hrun : (execOp a.eval o).run P w = .ok (.enter f (xs.map a.eval ++ vs).toArray) w := by
      simp only [execOp, ho, resolve, Deferred.ofValue, hv1, Sem.run_bind, Sem.run_pure, Result.andThen_ok, invoke, Array.empty_append]
      rw [gZ hf.may]
      simp
    -- the private variables are published for the time of the call
    let X : TypeId → Nat → Nat → Prop := fun t g _ => t = E ∧ ∃ k ∈ ks, β k = some g
    have hblk : ∀ (i : Nat) k cs, ks[i]? = some k → css[i]? = some cs → zV w D β k (cs.map SV.d) := fun i k cs hk hc => by
      refine hrd (k, cs.map SV.d) ?_
      rw [hrk]
      refine List.mem_of_getElem? (i := i) ?_
      rw [List.getElem?_zip_eq_some]
      exact ⟨hk, by rw [List.getElem?_map, hc]; rfl⟩
    have hcap : ∀ (i : Nat) k cs, ks[i]? = some k → css[i]? = some cs → ∃ b us T', β k = some b ∧ vs[i]? = some (.pointer (some ⟨b, 0, none⟩)) ∧ w.heap[b]? = some (.cells us T' (0, 0)) ∧
        (∀ (j : Nat) x, (cs.map SV.d)[j]? = some x → ∃ u, us[j]? = some u ∧ u.oneCell' = true ∧ vB w D β u x) ∧ ∀ t o, ¬ D t b o := fun i k cs hk hc => by
      obtain ⟨b, h1, h2⟩ := hv3 i k hk
      rcases hblk i k cs hk hc with ⟨g1, _⟩ | ⟨b', us, T', g1, g2, g3, g4, g5⟩
      · rw [h1] at g1; cases g1
      · obtain rfl : b = b' := by rw [h1] at g1; injection g1
        exact ⟨b, us, T', h1, h2, g2, g4, g5⟩
    have hXb : ∀ t g i, X t g i → (∀ t' i', ¬ D t' g i') ∧ g < w.heap.size := fun t g i ⟨_, k, hk, hb⟩ => by
      obtain ⟨i, hi⟩ := List.getElem?_of_mem hk
      have hlt : i < css.length := by rw [vJ]; exact (List.getElem?_eq_some_iff.1 hi).1
      obtain ⟨b, us, T', h1, _, h3, _, h5⟩ := hcap i k _ hi (List.getElem?_eq_getElem hlt)
      obtain rfl : g = b := by rw [hb] at h1; injection h1
      exact ⟨fun t' i' => h5 t' i', zY h3⟩
    have hD' : DOk (fun t g i => D t g i ∨ X t g i) w := fun t g i hd => by
      rcases hd with hd | hd
      · exact hD _ _ _ hd
      · exact (hXb t g i hd).2
    have hmono : ∀ t' g i, D t' g i → (D t' g i ∨ X t' g i) ∧ w.cell? ⟨g, i, none⟩ = w.cell? ⟨g, i, none⟩ := fun t' g i hd => ⟨.inl hd, rfl⟩
    have hargs : Args w (fun t g i => D t g i ∨ X t g i) (xs.map a.eval ++ vs) (ds ++ css.map (fun cs => .cptr E cs 0)) := by
      refine ⟨by simp [hl, hv2, vJ], fun i v d hv hd => ?_⟩
      by_cases hi : i < xs.length
      · rw [List.getElem?_append_left (by simpa using hi)] at hv
        rw [List.getElem?_append_left (by omega)] at hd
        exact xU.mono hmono (hargs0.2 i v d hv hd)
      · rw [List.getElem?_append_right (by simpa using hi), List.length_map] at hv
        rw [List.getElem?_append_right (by omega), ← hl] at hd
        rw [List.getElem?_map, Option.map_eq_some_iff] at hd
        obtain ⟨cs, hcs, rfl⟩ := hd
        have hlt : i - xs.length < ks.length := by rw [← vJ]; exact (List.getElem?_eq_some_iff.1 hcs).1
        obtain ⟨b, us, T', h1, h2, h3, h4, h5⟩ := hcap _ _ cs (List.getElem?_eq_getElem hlt) hcs
        rw [h2] at hv
        injection hv with hv
        subst hv
        have hcell : ∀ j, w.cell? ⟨b, j, none⟩ = us[j]? := fun j => cell_of_row w b j us T' (0, 0) h3
        have hj : ∀ j, j < cs.length → ∃ u, us[j]? = some u ∧ u.oneCell' = true ∧ xU w D u (cs[j]?.getD (.tup [])) := fun j hj => by
          obtain ⟨u, q1, q2, q3⟩ := h4 j (.d cs[j]) (by rw [List.getElem?_map, List.getElem?_eq_getElem hj]; rfl)
          exact ⟨u, q1, q2, by rw [List.getElem?_eq_getElem hj]; exact q3⟩
        refine xU.cptr (off := 0) b 0 (fun j => us.getD j undef) (fun j _ => .inr ⟨rfl, _, List.getElem_mem hlt, h1⟩) (fun j hj' => ?_) (fun j hj' => ?_) (fun j d hd => ?_)
        · obtain ⟨u, q1, _, _⟩ := hj j hj'
          rw [Nat.zero_add, hcell, Array.getD_eq_getD_getElem?, q1]; rfl
        · obtain ⟨u, q1, q2, _⟩ := hj j hj'
          rw [Array.getD_eq_getD_getElem?, q1]; exact q2
        · obtain ⟨u, q1, q2, q3⟩ := hj j (List.getElem?_eq_some_iff.1 hd).1
          rw [Array.getD_eq_getD_getElem?, q1]
          rw [hd] at q3
          exact xU.mono hmono q3
    refine eG hrun ((hf.run w _ _ hD' hargs).mono fun e w' h => ?_)
    obtain ⟨v, D2, he, h1, h2, h3⟩ := h
    refine ⟨v, he, v, fun t g i => D2 t g i ∧ ¬ X t g i, rfl, h1, ⟨fun t g i hd => ⟨h2.up _ _ _ (.inl hd), fun hx' => (hXb t g i hx').1 t i hd⟩, fun t g i hd => ?_⟩, ?_⟩
    · rcases h2.new t g i hd.1 with h | h
      · rcases h with h | h
        · exact .inl h
        · exact absurd h hd.2
      · exact .inr h
    · exact ha.rep (fun t g i hne hd => ⟨hd, fun hx' => hne hx'.1⟩) h3
theorem oMf {f : FuncId} {caps : List Operand} (ks : List Nat) (ho : o.op = .makeFunc (.func f) #[] caps.toArray := by exact rfl) (hx : caps.map (ev S) = ks.map (fun k => .ref k 0) := by kernel_rfl) : vT P o S [] (.clo f ks) := e_mkf ho hx
end
def RKs (P : Program) (o : Oper) (S : SL) (B : BS) (ks : List Nat) (x : SV) : Prop := ∃ rd : List (Nat × List SV), rd.map (·.1) = ks ∧ vT P o (qN S) rd x ∧ ∀ p ∈ rd, uL B p.1 = some p.2
theorem oCc {P : Program} {o : Oper} {S : SL} {B : BS} {y : Operand} {xs : List Operand} {ats : Array TypeId} {f : FuncId} {ds : List kX} {r : kX} (ks : List Nat) (css : List (List kX))
    (hf : kH P f (ds ++ css.map (fun cs => .cptr 1000000 cs 0)) r) (ha : gO 1000000 r) (ho : o.op = .call { callee := .value y, args := xs.toArray, argTypes := ats } := by exact rfl) (hy : ev (qN S) y = .clo f ks := by kernel_rfl) (hx : xs.map (ev (qN S)) = ds.map .d := by kernel_rfl)
    (vJ : Nat.beq css.length ks.length = true := by kernel_rfl) (hb : ks.map (fun k => uL B k) = css.map (fun cs => some (cs.map SV.d)) := by kernel_rfl) : RKs P o S B ks (.d r) := by
  have vJ := Nat.eq_of_beq_eq_true vJ
  refine ⟨ks.zip (css.map (fun cs => cs.map SV.d)), ?_, e_clc hf ho hy hx rfl vJ ha, fun p hp => ?_⟩
  · rw [List.map_fst_zip]; simp [vJ]
  · obtain ⟨i, hi⟩ := List.getElem?_of_mem hp
    rw [List.getElem?_zip_eq_some] at hi
    have h1 := congrArg (fun l : List (Option (List SV)) => l[i]?) hb
    simp only [List.getElem?_map, hi.1, Option.map_some] at h1
    have h2 := hi.2
    rw [List.getElem?_map, Option.map_eq_some_iff] at h2
    obtain ⟨cs, hc, e⟩ := h2
    rw [hc] at h1
    simp only [Option.map_some, Option.some.injEq] at h1
    rw [h1, e]
section
variable {P : Program} {n : Fr} {ops : Array Oper} {K : SL → BS → Prop} {S : SL} {B : BS} {l : List Oper} {o : Oper} {news : List Nat} {acc0 : List (List Nat × List Nat)}
theorem zC {ks : List Nat} {x : SV} (h : RKs P o S B ks x) (r : SK P n ops K ((dO o, x) :: S) B l) (g : goK n ops S o = true := by kernel_rfl) : SK P n ops K S B (o :: l) := by
  obtain ⟨st1, r1, r2⟩ := r
  obtain ⟨rd, _, h, hbk⟩ := h
  obtain ⟨hd, hg, hb⟩ := nW g
  have hs := Step.e (P := P) (n := n) (ops := ops) (st := ⟨S, B⟩) (o := o) h hg (by rw [hd]; exact hb) hbk
  rw [hd] at hs
  exact ⟨st1, .cons hs r1, r2⟩
theorem wC {ks : List Nat} {x : SV} (h : RKs P o S B ks x) (r : DK P n ops K news (acc0 ++ [(ks, [])]) ((dO o, x) :: S) B l) (g : goK n ops S o = true := by kernel_rfl) (hn : clearR ops S o news x = true := by kernel_rfl) : DK P n ops K news acc0 S B (o :: l) := by
  obtain ⟨st1, acc, r1, r0, r2⟩ := r
  obtain ⟨rd, hk, h, hbk⟩ := h
  obtain ⟨hd, hg, hb⟩ := nW g
  have hs := cM.e (P := P) (n := n) (ops := ops) (news := news) (st := ⟨S, B⟩) (o := o) h hg (by rw [hd]; exact hb) hbk hn
  rw [hd, hk] at hs
  exact ⟨st1, (ks, []) :: acc, .cons hs r1, by simpa using r0, r2⟩
end
end Go.Fid
