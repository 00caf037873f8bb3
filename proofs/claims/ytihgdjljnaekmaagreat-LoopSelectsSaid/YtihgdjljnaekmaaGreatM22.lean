/- Part 22 of a proof: rules, plain facts, and functions walked. -/
import Derived.Test.YtihgdjljnaekmaaGreatM21
import Derived.Test.YtihgdjljnaekmaaGreatM15
import Derived.Test.YtihgdjljnaekmaaGreatM13
namespace Go.Proofs.YtihgdjljnaekmaaGreat
open Go.Fid
set_option maxRecDepth 4000
set_option linter.unusedVariables false
set_option linter.unusedSimpArgs false
theorem cb18 : callB Tryz.prog 18 = true := by kernel_rfl
theorem cb63 : callB Tryz.prog 63 = true := by kernel_rfl
theorem cb80 : callB Tryz.prog 80 = true := by kernel_rfl
theorem cb81 : callB Tryz.prog 81 = true := by kernel_rfl
theorem cb89 : callB Tryz.prog 89 = true := by kernel_rfl
theorem cb122 : callB Tryz.prog 122 = true := by kernel_rfl
theorem cb123 : callB Tryz.prog 123 = true := by kernel_rfl
theorem cb133 : callB Tryz.prog 133 = true := by kernel_rfl
theorem cb134 : callB Tryz.prog 134 = true := by kernel_rfl
theorem cb136 : callB Tryz.prog 136 = true := by kernel_rfl
theorem cb159 : callB Tryz.prog 159 = true := by kernel_rfl
theorem cb166 : callB Tryz.prog 166 = true := by kernel_rfl
theorem cb167 : callB Tryz.prog 167 = true := by kernel_rfl
theorem g_reduced (num den : RInt) (a b : Int) (hnum : IOk num a 68719476736) (hden : IOk den b 68719476736) (hb : b ≠ 0) : Takes Tryz.prog 159 [(encI num), (encI den)] (encR (ofQ (Rat.divInt a b))) := by
  refine fn_intro Tryz.func159 rfl cb159 rfl ?_
  show PWp _ _ _ _ ⟨[(0, (.d (encI num))), (1, (.d (encI den)))], []⟩
  refine pwp_seq <| kx [(2, (.ref 0 0)), (3, (.ref 1 0)), (4, (.ref 2 0))] [(0, some (bx (encI num))), (1, some (bx (encI den))), (2, some (bx (encR (RRat.mk (RInt.mk false []) (RInt.mk false [])))))] (zN (oBx 0) <| zN (oBx 1) <| zN (oAl 2 ze51 zo51) <| zZ) ?_
  refine pwp_seq <| kx [(5, (.ref 3 0))] [(3, some (bx (encI (ofZ ((Int.gcd a b : Nat) : Int)))))] (zR (oLa sh49) <| zR (oLa sh49) <| zE (oCl (rs_gcd hnum hden (by decide) (by decide))) <| zN (oAl 3 ze49 zo49) <| zT (oSt sh49) <| zZ) ?_
  refine pwp_seq <| pwp_seq <| kx [(17, (vb (decide ((signI b) < 0))))] [] (zR (oLa sh49) <| zE (oCl (rs_sign hden (by decide))) <| zE oLt <| zZ) ?_
  refine pwp_cond (b := decide ((signI b) < 0)) rfl (fun h1 => ?_) (fun h1 => ?_)
  · replace h1 := of_decide_eq_true h1
    have hlt := signI_lt.1 h1
    refine kx [] [(3, some (bx (encI (ofZ (-(((Int.gcd a b : Nat) : Int)))))))] (zR (oLa sh49) <| zE (oCl (rs_neg (iok_gcd (k := 68719476736) hnum hden (by decide)) (by decide))) <| zT (oSt sh49) <| zZ) ?_
    refine pwp_seq <| kx [(6, (.ref 4 0))] [(4, some (bx (encI (ofZ (a.fdiv (-(((Int.gcd a b : Nat) : Int)))))))), (5, none)] (zR (oLa sh49) <| zR (oLa sh49) <| zE (oCl (rs_divide hnum (iok_neg (iok_gcd (k := 68719476736) hnum hden (by decide))) (by decide) (by decide) (by have := gcd_ne (a := a) hb; omega))) <| zM <| zE oEx <| zE oEx <| zE oEx <| zN (oAl 4 ze49 zo49) <| zN (oAl 5 ze49 zo49) <| zT (oSt sh49) <| zT (oSt sh49) <| zM <| zZ) ?_
    refine pwp_seq <| kx [(9, (.ref 6 0))] [(6, some (bx (encI (ofZ (b.fdiv (-(((Int.gcd a b : Nat) : Int)))))))), (7, none)] (zR (oLa sh49) <| zR (oLa sh49) <| zE (oCl (rs_divide hden (iok_neg (iok_gcd (k := 68719476736) hnum hden (by decide))) (by decide) (by decide) (by have := gcd_ne (a := a) hb; omega))) <| zM <| zE oEx <| zE oEx <| zE oEx <| zN (oAl 6 ze49 zo49) <| zN (oAl 7 ze49 zo49) <| zT (oSt sh49) <| zT (oSt sh49) <| zM <| zZ) ?_
    refine pwp_seq <| kx [] [(2, some (bx (encR (RRat.mk (ofZ (a.fdiv (-(((Int.gcd a b : Nat) : Int))))) (ofZ (b.fdiv (-(((Int.gcd a b : Nat) : Int)))))))))] (zR (oLa sh49) <| zR (oLa sh49) <| zE (oBd pl51 ze51 zo51) <| zT (oSt sh51) <| zZ) ?_
    refine pwp_ret ⟨_, (res_a (cs := (bx (encR (RRat.mk (ofZ (a.fdiv (-(((Int.gcd a b : Nat) : Int))))) (ofZ (b.fdiv (-(((Int.gcd a b : Nat) : Int))))))))) (d := (encR (RRat.mk (ofZ (a.fdiv (-(((Int.gcd a b : Nat) : Int))))) (ofZ (b.fdiv (-(((Int.gcd a b : Nat) : Int)))))))) rfl rfl sh51 rfl rfl .nil), ?_⟩
    rw [← red_neg2 hlt]; rfl
  · replace h1 := of_decide_eq_false h1
    have hge : ¬ b < 0 := fun hh => h1 (signI_lt.2 hh)
    refine pwp_skip <| pwp_seq <| kx [(6, (.ref 8 0))] [(8, some (bx (encI (ofZ (a.fdiv (((Int.gcd a b : Nat) : Int))))))), (9, none)] (zR (oLa sh49) <| zR (oLa sh49) <| zE (oCl (rs_divide hnum (iok_gcd (k := 68719476736) hnum hden (by decide)) (by decide) (by decide) (by have := gcd_ne (a := a) hb; omega))) <| zM <| zE oEx <| zE oEx <| zE oEx <| zN (oAl 8 ze49 zo49) <| zN (oAl 9 ze49 zo49) <| zT (oSt sh49) <| zT (oSt sh49) <| zM <| zZ) ?_
    refine pwp_seq <| kx [(9, (.ref 10 0))] [(10, some (bx (encI (ofZ (b.fdiv (((Int.gcd a b : Nat) : Int))))))), (11, none)] (zR (oLa sh49) <| zR (oLa sh49) <| zE (oCl (rs_divide hden (iok_gcd (k := 68719476736) hnum hden (by decide)) (by decide) (by decide) (by have := gcd_ne (a := a) hb; omega))) <| zM <| zE oEx <| zE oEx <| zE oEx <| zN (oAl 10 ze49 zo49) <| zN (oAl 11 ze49 zo49) <| zT (oSt sh49) <| zT (oSt sh49) <| zM <| zZ) ?_
    refine pwp_seq <| kx [] [(2, some (bx (encR (RRat.mk (ofZ (a.fdiv (((Int.gcd a b : Nat) : Int)))) (ofZ (b.fdiv (((Int.gcd a b : Nat) : Int))))))))] (zR (oLa sh49) <| zR (oLa sh49) <| zE (oBd pl51 ze51 zo51) <| zT (oSt sh51) <| zZ) ?_
    refine pwp_ret ⟨_, (res_a (cs := (bx (encR (RRat.mk (ofZ (a.fdiv (((Int.gcd a b : Nat) : Int)))) (ofZ (b.fdiv (((Int.gcd a b : Nat) : Int)))))))) (d := (encR (RRat.mk (ofZ (a.fdiv (((Int.gcd a b : Nat) : Int)))) (ofZ (b.fdiv (((Int.gcd a b : Nat) : Int))))))) rfl rfl sh51 rfl rfl .nil), ?_⟩
    rw [red_pos hge hb]; rfl
theorem g_whole1 (n : Int) (hlo : -9223372036854775808 ≤ n) (hhi : n ≤ 9223372036854775807) : Takes Tryz.prog 123 [(.val (.int .i64 (n)))] (encI (ofZ n)) := by
  refine fn_intro Tryz.func123 rfl cb123 rfl ?_
  show PWp _ _ _ _ ⟨[(0, (vi n))], []⟩
  refine pwp_seq <| kx [(2, (.ref 0 0))] [(0, some (bx (encI (RInt.mk false []))))] (zN (oAl 0 ze49 zo49) <| zZ) ?_
  refine pwp_seq <| kx [] [(0, some (bx (encI (ofZ n))))] (zM <| zE (oCl (r_of n (by omega) (by omega))) <| zT (oSt sh49) <| zZ) ?_
  refine pwp_ret ⟨_, (res_a (cs := (bx (encI (ofZ n)))) (d := (encI (ofZ n))) rfl rfl sh49 rfl rfl .nil), ?_⟩
  rfl
theorem g_whole (n : Int) (hlo : -9223372036854775808 ≤ n) (hhi : n ≤ 9223372036854775807) : Takes Tryz.prog 89 [(.val (.int .i64 (n)))] (encR (ofQ ((n : Int) : Rat))) := by
  refine fn_intro Tryz.func89 rfl cb89 rfl ?_
  show PWp _ _ _ _ ⟨[(0, (vi n))], []⟩
  refine pwp_seq <| kx [(2, (.ref 0 0))] [(0, some (bx (encR (RRat.mk (RInt.mk false []) (RInt.mk false [])))))] (zN (oAl 0 ze51 zo51) <| zZ) ?_
  refine pwp_seq <| kx [] [(0, some (bx (encR (RRat.mk (ofZ n) (ofZ 1)))))] (zM <| zE (oCl (g_whole1 n (by omega) (by omega))) <| zE (oCl (g_whole1 1 (by decide) (by decide))) <| zE (oBd pl51 ze51 zo51) <| zT (oSt sh51) <| zZ) ?_
  refine pwp_ret ⟨_, (res_a (cs := (bx (encR (RRat.mk (ofZ n) (ofZ 1))))) (d := (encR (RRat.mk (ofZ n) (ofZ 1)))) rfl rfl sh51 rfl rfl .nil), ?_⟩
  rfl
theorem g_valid (x : RRat) (p : Rat) (hx : QOk x p 17179869184) : Takes Tryz.prog 80 [(encR x)] (.val (.bool ((validR x)))) := by
  refine fn_intro Tryz.func80 rfl cb80 rfl ?_
  show PWp _ _ _ _ ⟨[(0, (.d (encR x)))], []⟩
  refine pwp_seq <| kx [(1, (.ref 0 0))] [(0, some (bx (encR x)))] (zN (oBx 0) <| zM <| zZ) ?_
  refine pwp_seq <| pwp_seq <| kx [(18, (vb ((!(validI x.num) || !(validI x.den)) || decide ((signI (toZ x.den)) ≤ 0))))] [] ?_ ?_
  · refine zE (oFr fo51_0) <| zR (oLa sh49) <| zE (oCl (r_valid x.num (Nat.le_trans (iok_raw hx.n1).l (by decide)))) <| zE oNt <| zE (oV (vb (!(validI x.num))) (mv_ok (by kernel_rfl))) <| ?_
    rcases hb1 : (!(validI x.num)) with _ | _
    · refine zE (oFr fo51_1) <| zR (oLa sh49) <| zE (oCl (r_valid x.den (Nat.le_trans (iok_raw hx.n2).l (by decide)))) <| zE oNt <| zE oPo <| zE (oV (vb (false || !(validI x.den))) (mv_ok (by kernel_rfl))) <| ?_
      rcases hb2 : (false || !(validI x.den)) with _ | _
      · exact zE (oFr fo51_1) <| zR (oLa sh49) <| zE (oCl (rs_sign (iok_raw hx.n2) (by decide))) <| zE oLe <| zE oPo <| zZ
      · exact zK <| zK <| zK <| zK <| zE oPt <| zZ
    · exact zK <| zK <| zK <| zK <| zE oPt <| zM <| zK <| zK <| zK <| zK <| zE oPt <| zZ
  refine pwp_cond rfl (fun h3 => ?_) (fun h3 => ?_)
  · refine pwp_seq <| kx [(2, (vb false))] [] (zM <| zZ) ?_
    refine pwp_ret ⟨_, (.tmp (d := (.val (.bool (false)))) rfl .nil), ?_⟩
    rw [validR_no h3]; rfl
  · refine pwp_skip <| pwp_seq <| kx [(2, (vb ((cmpI (((Int.gcd (toZ x.num) (toZ x.den) : Nat) : Int)) 1) == 0)))] [] (zE (oFr fo51_0) <| zR (oLa sh49) <| zE (oFr fo51_1) <| zR (oLa sh49) <| zE (oCl (rs_gcd (iok_raw hx.n1) (iok_raw hx.n2) (by decide) (by decide))) <| zE (oCl (g_whole1 1 (by decide) (by decide))) <| zE (oCl (rs_compare (iok_gcd (k := 17179869184) (iok_raw hx.n1) (iok_raw hx.n2) (by decide)) (iok_small (z := 1) (by decide)) (by decide) (by decide))) <| zE oEq <| zM <| zZ) ?_
    refine pwp_ret ⟨_, (.tmp (d := (.val (.bool (((cmpI (((Int.gcd (toZ x.num) (toZ x.den) : Nat) : Int)) 1) == 0))))) rfl .nil), ?_⟩
    rw [validR_yes h3]; rfl
theorem g_value (x : RRat) (p : Rat) (hx : QOk x p 17179869184) : Takes Tryz.prog 63 [(encR x)] (encR (ofQ p)) := by
  refine fn_intro Tryz.func63 rfl cb63 rfl ?_
  show PWp _ _ _ _ ⟨[(0, (.d (encR x)))], []⟩
  refine pwp_seq <| kx [(1, (.ref 0 0)), (2, (.ref 1 0))] [(0, some (bx (encR x))), (1, some (bx (encR (RRat.mk (RInt.mk false []) (RInt.mk false [])))))] (zN (oBx 0) <| zN (oAl 1 ze51 zo51) <| zZ) ?_
  refine pwp_seq <| pwp_seq <| kx [(4, (vb (validR x)))] [] (zR (oLa sh51) <| zE (oCl (g_valid x p hx)) <| zZ) ?_
  refine pwp_cond (b := (validR x)) rfl (fun h1 => ?_) (fun h1 => ?_)
  · refine pwp_seq <| kx [] [(1, some (bx (encR x)))] (zR (oLa sh51) <| zT (oSt sh51) <| zZ) ?_
    refine pwp_ret ⟨_, (res_a (cs := (bx (encR x))) (d := (encR x)) rfl rfl sh51 rfl rfl .nil), ?_⟩
    rw [← hx.v, ofQ_toQ h1]; rfl
  · refine pwp_skip <| pwp_seq <| kx [] [(1, some (bx (encR (ofQ ((0 : Int) : Rat)))))] (zE (oCl (g_whole 0 (by decide) (by decide))) <| zT (oSt sh51) <| zZ) ?_
    refine pwp_ret ⟨_, (res_a (cs := (bx (encR (ofQ ((0 : Int) : Rat))))) (d := (encR (ofQ ((0 : Int) : Rat)))) rfl rfl sh51 rfl rfl .nil), ?_⟩
    rw [← hx.v, toQ_bad h1]; rfl
theorem g_sign (x : RRat) (p : Rat) (hx : QOk x p 17179869184) : Takes Tryz.prog 18 [(encR x)] (.val (.int .i64 ((signQ p)))) := by
  refine fn_intro Tryz.func18 rfl cb18 rfl ?_
  show PWp _ _ _ _ ⟨[(0, (.d (encR x)))], []⟩
  refine pwp_seq <| kx [(1, (.ref 0 0))] [(0, some (bx (encR x)))] (zN (oBx 0) <| zM <| zZ) ?_
  refine pwp_seq <| kx [(2, (vi (signI p.num)))] [] (zR (oLa sh51) <| zE (oCl (g_value x p hx)) <| zE (oFv ft51_0 sh49) <| zE (oCl (rs_sign (qok_num hx.ql) (by decide))) <| zM <| zZ) ?_
  refine pwp_ret ⟨_, (.tmp (d := (.val (.int .i64 ((signI p.num))))) rfl .nil), ?_⟩
  rfl
theorem g_neg (x : RRat) (p : Rat) (hx : QOk x p 17179869184) : Takes Tryz.prog 167 [(encR x)] (encR (ofQ (-p))) := by
  refine fn_intro Tryz.func167 rfl cb167 rfl ?_
  show PWp _ _ _ _ ⟨[(0, (.d (encR x)))], []⟩
  refine pwp_seq <| kx [(1, (.ref 0 0)), (2, (.ref 1 0))] [(0, some (bx (encR x))), (1, some (bx (encR (RRat.mk (RInt.mk false []) (RInt.mk false [])))))] (zN (oBx 0) <| zN (oAl 1 ze51 zo51) <| zZ) ?_
  refine pwp_seq <| kx [(3, (.ref 2 0))] [(2, some (bx (encR (ofQ p))))] (zR (oLa sh51) <| zE (oCl (g_value x p hx)) <| zN (oAl 2 ze51 zo51) <| zT (oSt sh51) <| zZ) ?_
  refine pwp_seq <| kd [] [(1, some (bx (encR (RRat.mk (ofZ (-p.num)) ((ofQ p).den)))))] mo (wE (oFr fo51_0) <| wR (oLa sh49) <| wE (oCl (rs_neg (qok_num hx.ql) (by decide))) <| wE (oFr fo51_1) <| wR (oLa sh49) <| wE (oBd pl51 ze51 zo51) <| wT (oSt sh51) <| wZ) ?_
  refine pwp_ret ⟨_, (res_a (cs := (bx (encR (RRat.mk (ofZ (-p.num)) ((ofQ p).den))))) (d := (encR (RRat.mk (ofZ (-p.num)) ((ofQ p).den)))) rfl rfl sh51 rfl rfl .nil), ?_⟩
  rfl
theorem g_add (x : RRat) (y : RRat) (p : Rat) (q : Rat) (hx : QOk x p 17179869184) (hy : QOk y q 17179869184) : Takes Tryz.prog 166 [(encR x), (encR y)] (encR (ofQ (p + q))) := by
  refine fn_intro Tryz.func166 rfl cb166 rfl ?_
  show PWp _ _ _ _ ⟨[(0, (.d (encR x))), (1, (.d (encR y)))], []⟩
  refine pwp_seq <| kx [(2, (.ref 0 0)), (3, (.ref 1 0)), (4, (.ref 2 0))] [(0, some (bx (encR x))), (1, some (bx (encR y))), (2, some (bx (encR (RRat.mk (RInt.mk false []) (RInt.mk false [])))))] (zN (oBx 0) <| zN (oBx 1) <| zN (oAl 2 ze51 zo51) <| zZ) ?_
  refine pwp_seq <| kx [(5, (.ref 3 0))] [(3, some (bx (encR (ofQ p))))] (zR (oLa sh51) <| zE (oCl (g_value x p hx)) <| zN (oAl 3 ze51 zo51) <| zT (oSt sh51) <| zZ) ?_
  refine pwp_seq <| kx [(6, (.ref 4 0))] [(4, some (bx (encR (ofQ q))))] (zR (oLa sh51) <| zE (oCl (g_value y q hy)) <| zN (oAl 4 ze51 zo51) <| zT (oSt sh51) <| zZ) ?_
  refine pwp_seq <| kd [] [(2, some (bx (encR (ofQ (Rat.divInt ((p.num * (q.den : Int)) + (q.num * (p.den : Int))) ((p.den : Int) * (q.den : Int)))))))] mo (wE (oFr fo51_0) <| wR (oLa sh49) <| wE (oFr fo51_1) <| wR (oLa sh49) <| wE (oCl (rs_mul (qok_num hx.ql) (qok_den hy.ql) (by decide) (by decide))) <| wE (oFr fo51_0) <| wR (oLa sh49) <| wE (oFr fo51_1) <| wR (oLa sh49) <| wE (oCl (rs_mul (qok_num hy.ql) (qok_den hx.ql) (by decide) (by decide))) <| wE (oCl (rs_add (iok_mul (k := 34359738368) (qok_num hx.ql) (qok_den hy.ql) (by decide)) (iok_mul (k := 34359738368) (qok_num hy.ql) (qok_den hx.ql) (by decide)) (by decide) (by decide))) <| wE (oFr fo51_1) <| wR (oLa sh49) <| wE (oFr fo51_1) <| wR (oLa sh49) <| wE (oCl (rs_mul (qok_den hx.ql) (qok_den hy.ql) (by decide) (by decide))) <| wE (oCl (g_reduced (ofZ ((p.num * (q.den : Int)) + (q.num * (p.den : Int)))) (ofZ ((p.den : Int) * (q.den : Int))) ((p.num * (q.den : Int)) + (q.num * (p.den : Int))) ((p.den : Int) * (q.den : Int)) (iok_up (iok_add (k := 34359738369) (iok_mul (k := 34359738368) (qok_num hx.ql) (qok_den hy.ql) (by decide)) (iok_mul (k := 34359738368) (qok_num hy.ql) (qok_den hx.ql) (by decide)) (by decide)) (by decide)) (iok_up (iok_mul (k := 34359738368) (qok_den hx.ql) (qok_den hy.ql) (by decide)) (by decide)) (mul_ne (den_ne _) (den_ne _)))) <| wT (oSt sh51) <| wZ) ?_
  refine pwp_ret ⟨_, (res_a (cs := (bx (encR (ofQ (Rat.divInt ((p.num * (q.den : Int)) + (q.num * (p.den : Int))) ((p.den : Int) * (q.den : Int))))))) (d := (encR (ofQ (Rat.divInt ((p.num * (q.den : Int)) + (q.num * (p.den : Int))) ((p.den : Int) * (q.den : Int)))))) rfl rfl sh51 rfl rfl .nil), ?_⟩
  rw [add_divInt]; rfl
theorem g_sub (x : RRat) (y : RRat) (p : Rat) (q : Rat) (hx : QOk x p 17179869184) (hy : QOk y q 17179869184) : Takes Tryz.prog 133 [(encR x), (encR y)] (encR (ofQ (p - q))) := by
  refine fn_intro Tryz.func133 rfl cb133 rfl ?_
  show PWp _ _ _ _ ⟨[(0, (.d (encR x))), (1, (.d (encR y)))], []⟩
  refine pwp_seq <| kx [(2, (.ref 0 0)), (3, (.ref 1 0)), (4, (.ref 2 0))] [(0, some (bx (encR x))), (1, some (bx (encR y))), (2, some (bx (encR (RRat.mk (RInt.mk false []) (RInt.mk false [])))))] (zN (oBx 0) <| zN (oBx 1) <| zN (oAl 2 ze51 zo51) <| zZ) ?_
  refine pwp_seq <| kd [] [(2, some (bx (encR (ofQ (p + (-q))))))] mo (wR (oLa sh51) <| wR (oLa sh51) <| wE (oCl (g_neg y q hy)) <| wE (oCl (g_add x (ofQ (-q)) p (-q) hx (qok_of (ql_neg hy.ql)))) <| wT (oSt sh51) <| wZ) ?_
  refine pwp_ret ⟨_, (res_a (cs := (bx (encR (ofQ (p + (-q)))))) (d := (encR (ofQ (p + (-q))))) rfl rfl sh51 rfl rfl .nil), ?_⟩
  rw [Rat.sub_eq_add_neg]; rfl
theorem g_mul (x : RRat) (y : RRat) (p : Rat) (q : Rat) (hx : QOk x p 17179869184) (hy : QOk y q 17179869184) : Takes Tryz.prog 134 [(encR x), (encR y)] (encR (ofQ (p * q))) := by
  refine fn_intro Tryz.func134 rfl cb134 rfl ?_
  show PWp _ _ _ _ ⟨[(0, (.d (encR x))), (1, (.d (encR y)))], []⟩
  refine pwp_seq <| kx [(2, (.ref 0 0)), (3, (.ref 1 0)), (4, (.ref 2 0))] [(0, some (bx (encR x))), (1, some (bx (encR y))), (2, some (bx (encR (RRat.mk (RInt.mk false []) (RInt.mk false [])))))] (zN (oBx 0) <| zN (oBx 1) <| zN (oAl 2 ze51 zo51) <| zZ) ?_
  refine pwp_seq <| kx [(5, (.ref 3 0))] [(3, some (bx (encR (ofQ p))))] (zR (oLa sh51) <| zE (oCl (g_value x p hx)) <| zN (oAl 3 ze51 zo51) <| zT (oSt sh51) <| zZ) ?_
  refine pwp_seq <| kx [(6, (.ref 4 0))] [(4, some (bx (encR (ofQ q))))] (zR (oLa sh51) <| zE (oCl (g_value y q hy)) <| zN (oAl 4 ze51 zo51) <| zT (oSt sh51) <| zZ) ?_
  refine pwp_seq <| kd [] [(2, some (bx (encR (ofQ (Rat.divInt (p.num * q.num) ((p.den : Int) * (q.den : Int)))))))] mo (wE (oFr fo51_0) <| wR (oLa sh49) <| wE (oFr fo51_0) <| wR (oLa sh49) <| wE (oCl (rs_mul (qok_num hx.ql) (qok_num hy.ql) (by decide) (by decide))) <| wE (oFr fo51_1) <| wR (oLa sh49) <| wE (oFr fo51_1) <| wR (oLa sh49) <| wE (oCl (rs_mul (qok_den hx.ql) (qok_den hy.ql) (by decide) (by decide))) <| wE (oCl (g_reduced (ofZ (p.num * q.num)) (ofZ ((p.den : Int) * (q.den : Int))) (p.num * q.num) ((p.den : Int) * (q.den : Int)) (iok_up (iok_mul (k := 34359738368) (qok_num hx.ql) (qok_num hy.ql) (by decide)) (by decide)) (iok_up (iok_mul (k := 34359738368) (qok_den hx.ql) (qok_den hy.ql) (by decide)) (by decide)) (mul_ne (den_ne _) (den_ne _)))) <| wT (oSt sh51) <| wZ) ?_
  refine pwp_ret ⟨_, (res_a (cs := (bx (encR (ofQ (Rat.divInt (p.num * q.num) ((p.den : Int) * (q.den : Int))))))) (d := (encR (ofQ (Rat.divInt (p.num * q.num) ((p.den : Int) * (q.den : Int)))))) rfl rfl sh51 rfl rfl .nil), ?_⟩
  rw [mul_divInt]; rfl
theorem g_new (num den : RInt) (a b : Int) (hnum : IOk num a 68719476736) (hden : IOk den b 68719476736) : Takes Tryz.prog 122 [(encI num), (encI den)] (.tup [(encR (newR a b)), (.val (.int .i64 ((newC b))))]) := by
  refine fn_intro Tryz.func122 rfl cb122 rfl ?_
  show PWp _ _ _ _ ⟨[(0, (.d (encI num))), (1, (.d (encI den)))], []⟩
  refine pwp_seq <| kx [(2, (.ref 0 0)), (3, (.ref 1 0)), (4, (.ref 2 0))] [(0, some (bx (encI num))), (1, some (bx (encI den))), (2, some (bx (encR (RRat.mk (RInt.mk false []) (RInt.mk false [])))))] (zN (oBx 0) <| zN (oBx 1) <| zN (oAl 2 ze51 zo51) <| zM <| zZ) ?_
  refine pwp_seq <| pwp_seq <| kx [(8, (vb ((signI b) == 0)))] [] (zR (oLa sh49) <| zE (oCl (rs_sign hden (by decide))) <| zE oEq <| zZ) ?_
  refine pwp_cond (b := ((signI b) == 0)) rfl (fun h1 => ?_) (fun h1 => ?_)
  · replace h1 := eq_of_beq h1
    have hb : b = 0 := sign0 h1
    refine pwp_seq <| kx [(5, (vin 14))] [(2, some (bx (encR (RRat.mk (RInt.mk false []) (RInt.mk false [])))))] (zE (oBd pl51 ze51 zo51) <| zT (oSt sh51) <| zM <| zZ) ?_
    refine pwp_ret ⟨_, (res_a (cs := (bx (encR (RRat.mk (RInt.mk false []) (RInt.mk false []))))) (d := (encR (RRat.mk (RInt.mk false []) (RInt.mk false [])))) rfl rfl sh51 rfl rfl (.tmp (d := (.val (.int .i64 (14)))) rfl .nil)), ?_⟩
    rw [hb]; rfl
  · replace h1 := ne_of_beq_false h1
    have hb : b ≠ 0 := fun hh => h1 (by rw [hh]; rfl)
    refine pwp_skip <| pwp_seq <| kx [(5, (vin 0))] [(2, some (bx (encR (ofQ (Rat.divInt a b)))))] (zR (oLa sh49) <| zR (oLa sh49) <| zE (oCl (g_reduced num den a b hnum hden (by assumption))) <| zT (oSt sh51) <| zM <| zZ) ?_
    refine pwp_ret ⟨_, (res_a (cs := (bx (encR (ofQ (Rat.divInt a b))))) (d := (encR (ofQ (Rat.divInt a b)))) rfl rfl sh51 rfl rfl (.tmp (d := (.val (.int .i64 (0)))) rfl .nil)), ?_⟩
    unfold newR newC; rw [if_neg hb, if_neg hb]; rfl
theorem g_divide (x : RRat) (y : RRat) (p : Rat) (q : Rat) (hx : QOk x p 17179869184) (hy : QOk y q 17179869184) : Takes Tryz.prog 136 [(encR x), (encR y)] (.tup [(encR (divR p q)), (.val (.int .i64 ((divC q))))]) := by
  refine fn_intro Tryz.func136 rfl cb136 rfl ?_
  show PWp _ _ _ _ ⟨[(0, (.d (encR x))), (1, (.d (encR y)))], []⟩
  refine pwp_seq <| kx [(2, (.ref 0 0)), (3, (.ref 1 0)), (4, (.ref 2 0))] [(0, some (bx (encR x))), (1, some (bx (encR y))), (2, some (bx (encR (RRat.mk (RInt.mk false []) (RInt.mk false [])))))] (zN (oBx 0) <| zN (oBx 1) <| zN (oAl 2 ze51 zo51) <| zM <| zZ) ?_
  refine pwp_seq <| kx [(6, (.ref 3 0))] [(3, some (bx (encR (ofQ p))))] (zR (oLa sh51) <| zE (oCl (g_value x p hx)) <| zN (oAl 3 ze51 zo51) <| zT (oSt sh51) <| zZ) ?_
  refine pwp_seq <| kx [(7, (.ref 4 0))] [(4, some (bx (encR (ofQ q))))] (zR (oLa sh51) <| zE (oCl (g_value y q hy)) <| zN (oAl 4 ze51 zo51) <| zT (oSt sh51) <| zZ) ?_
  refine pwp_seq <| kd [(5, (vi (newC ((p.den : Int) * q.num))))] [(2, some (bx (encR (newR (p.num * (q.den : Int)) ((p.den : Int) * q.num)))))] mo (wE (oFr fo51_0) <| wR (oLa sh49) <| wE (oFr fo51_1) <| wR (oLa sh49) <| wE (oCl (rs_mul (qok_num hx.ql) (qok_den hy.ql) (by decide) (by decide))) <| wE (oFr fo51_1) <| wR (oLa sh49) <| wE (oFr fo51_0) <| wR (oLa sh49) <| wE (oCl (rs_mul (qok_den hx.ql) (qok_num hy.ql) (by decide) (by decide))) <| wE (oCl (g_new (ofZ (p.num * (q.den : Int))) (ofZ ((p.den : Int) * q.num)) (p.num * (q.den : Int)) ((p.den : Int) * q.num) (iok_up (iok_mul (k := 34359738368) (qok_num hx.ql) (qok_den hy.ql) (by decide)) (by decide)) (iok_up (iok_mul (k := 34359738368) (qok_den hx.ql) (qok_num hy.ql) (by decide)) (by decide)))) <| wE oEx <| wE oEx <| wT (oSt sh51) <| wM <| wZ) ?_
  refine pwp_ret ⟨_, (res_a (cs := (bx (encR (newR (p.num * (q.den : Int)) ((p.den : Int) * q.num))))) (d := (encR (newR (p.num * (q.den : Int)) ((p.den : Int) * q.num)))) rfl rfl sh51 rfl rfl (.tmp (d := (.val (.int .i64 ((newC ((p.den : Int) * q.num)))))) rfl .nil)), ?_⟩
  rw [newR_div, newC_div]; rfl
theorem g_compare (x : RRat) (y : RRat) (p : Rat) (q : Rat) (hx : QOk x p 4294967296) (hy : QOk y q 4294967296) : Takes Tryz.prog 81 [(encR x), (encR y)] (.val (.int .i64 ((cmpQ p q)))) := by
  refine fn_intro Tryz.func81 rfl cb81 rfl ?_
  show PWp _ _ _ _ ⟨[(0, (.d (encR x))), (1, (.d (encR y)))], []⟩
  refine pwp_seq <| kx [(2, (.ref 0 0)), (3, (.ref 1 0))] [(0, some (bx (encR x))), (1, some (bx (encR y)))] (zN (oBx 0) <| zN (oBx 1) <| zM <| zZ) ?_
  refine pwp_seq <| kx [(4, (vi (signQ (p - q))))] [] (zR (oLa sh51) <| zR (oLa sh51) <| zE (oCl (g_sub x y p q (qok_up hx (by decide)) (qok_up hy (by decide)))) <| zE (oCl (g_sign (ofQ (p - q)) (p - q) (qok_up (qok_of (ql_sub (k := 8589934593) hx.ql hy.ql (by decide))) (by decide)))) <| zM <| zZ) ?_
  refine pwp_ret ⟨_, (.tmp (d := (.val (.int .i64 ((signQ (p - q)))))) rfl .nil), ?_⟩
  rw [← signQ_sub]; rfl
end Go.Proofs.YtihgdjljnaekmaaGreat
namespace Go.Proofs.YtihgdjljnaekmaaGreat
open Go.Fid
set_option maxRecDepth 4000
set_option linter.unusedVariables false
set_option linter.unusedSimpArgs false
end Go.Proofs.YtihgdjljnaekmaaGreat
set_option linter.unusedVariables false
set_option linter.unusedSimpArgs false
namespace Go.Fid
open Go.RowKit (Below)
section
variable {P : Program} {o : Oper} {S : Nat → SV}
theorem e_mkf {f : FuncId} {ks : List Nat} {caps : List Operand} (ho : o.op = .makeFunc (.func f) #[] caps.toArray) (hx : caps.map (ev S) = ks.map (fun k => .ref k 0)) : EOk P o S [] (.clo f ks) :=
  EOk.same fun a w D β hop _ => by
    refine ⟨.func (.func f) #[] (caps.map a.eval).toArray, ?_, caps.map a.eval, rfl, ?_, fun i k hk => ?_⟩
    · simp only [execOp, ho, Instr.makeFunc, Array.map_empty, List.map_toArray, Sem.run_bind, Sem.run_pure, Result.andThen_ok]
      rfl
    · simpa using congrArg List.length hx
    · have hi := congrArg (fun l : List SV => l[i]?) hx
      simp only [List.getElem?_map, hk, Option.map_some, Option.map_eq_some_iff] at hi
      obtain ⟨c, hc, e⟩ := hi
      have hm := hop c (by simp [ho, Op.operands, List.mem_of_getElem? hc])
      rw [e] at hm
      obtain ⟨b, h1, h2⟩ := hm
      exact ⟨b, h1, by rw [List.getElem?_map, hc, Option.map_some, h2]⟩
theorem e_clc {y : Operand} {xs : List Operand} {ats : Array TypeId} {f : FuncId} {ds : List Dat} {r : Dat} {ks : List Nat} {css : List (List Dat)} {E : TypeId} {rd : List (Nat × List SV)}
    (hf : Takes P f (ds ++ css.map (fun cs => .cptr E cs 0)) r) (ho : o.op = .call { callee := .value y, args := xs.toArray, argTypes := ats }) (hy : ev S y = .clo f ks) (hx : xs.map (ev S) = ds.map .d)
    (hrk : rd = ks.zip (css.map (fun cs => cs.map SV.d))) (hlen : css.length = ks.length) (ha : Avoids E r) : EOk P o S rd (.d r) :=
  fun a w D β Q hop hrd hD => by
    have hyv := hop y (by simp [ho, Op.operands, Call.operands])
    rw [hy] at hyv
    obtain ⟨vs, hv1, hv2, hv3⟩ := hyv
    have hl : xs.length = ds.length := by simpa using congrArg List.length hx
    have hargs0 : Args w D (xs.map a.eval) ds := by
      refine ⟨by simpa using hl, fun i v d hv hd => ?_⟩
      rw [List.getElem?_map, Option.map_eq_some_iff] at hv
      obtain ⟨x, hxi, rfl⟩ := hv
      have hm := hop x (by simp [ho, Op.operands, Call.operands, List.mem_of_getElem? hxi])
      have hi := congrArg (fun l : List SV => l[i]?) hx
      simp only [List.getElem?_map, hxi, hd, Option.map_some, Option.some.injEq] at hi
      rw [hi] at hm
      exact hm
    have hrun : (execOp a.eval o).run P w = .ok (.enter f (xs.map a.eval ++ vs).toArray) w := by
      simp only [execOp, ho, resolve, Deferred.ofValue, hv1, Sem.run_bind, Sem.run_pure, Result.andThen_ok, invoke, Array.empty_append]
      rw [run_callFunc hf.may]
      simp
    -- the private variables are published for the time of the call
    let X : TypeId → Nat → Nat → Prop := fun t g _ => t = E ∧ ∃ k ∈ ks, β k = some g
    have hblk : ∀ (i : Nat) k cs, ks[i]? = some k → css[i]? = some cs → BlkOk w D β k (cs.map SV.d) := fun i k cs hk hc => by
      refine hrd (k, cs.map SV.d) ?_
      rw [hrk]
      refine List.mem_of_getElem? (i := i) ?_
      rw [List.getElem?_zip_eq_some]
      exact ⟨hk, by rw [List.getElem?_map, hc]; rfl⟩
    have hcap : ∀ (i : Nat) k cs, ks[i]? = some k → css[i]? = some cs → ∃ b us T', β k = some b ∧ vs[i]? = some (.pointer (some ⟨b, 0, none⟩)) ∧ w.heap[b]? = some (.cells us T' (0, 0)) ∧
        (∀ (j : Nat) x, (cs.map SV.d)[j]? = some x → ∃ u, us[j]? = some u ∧ u.oneCell' = true ∧ RepS w D β u x) ∧ ∀ t o, ¬ D t b o := fun i k cs hk hc => by
      obtain ⟨b, h1, h2⟩ := hv3 i k hk
      rcases hblk i k cs hk hc with ⟨g1, _⟩ | ⟨b', us, T', g1, g2, g3, g4, g5⟩
      · rw [h1] at g1; cases g1
      · obtain rfl : b = b' := by rw [h1] at g1; injection g1
        exact ⟨b, us, T', h1, h2, g2, g4, g5⟩
    have hXb : ∀ t g i, X t g i → (∀ t' i', ¬ D t' g i') ∧ g < w.heap.size := fun t g i ⟨_, k, hk, hb⟩ => by
      obtain ⟨i, hi⟩ := List.getElem?_of_mem hk
      have hlt : i < css.length := by rw [hlen]; exact (List.getElem?_eq_some_iff.1 hi).1
      obtain ⟨b, us, T', h1, _, h3, _, h5⟩ := hcap i k _ hi (List.getElem?_eq_getElem hlt)
      obtain rfl : g = b := by rw [hb] at h1; injection h1
      exact ⟨fun t' i' => h5 t' i', heap_lt h3⟩
    have hD' : DOk (fun t g i => D t g i ∨ X t g i) w := fun t g i hd => by
      rcases hd with hd | hd
      · exact hD _ _ _ hd
      · exact (hXb t g i hd).2
    have hmono : ∀ t' g i, D t' g i → (D t' g i ∨ X t' g i) ∧ w.cell? ⟨g, i, none⟩ = w.cell? ⟨g, i, none⟩ := fun t' g i hd => ⟨.inl hd, rfl⟩
    have hargs : Args w (fun t g i => D t g i ∨ X t g i) (xs.map a.eval ++ vs) (ds ++ css.map (fun cs => .cptr E cs 0)) := by
      refine ⟨by simp [hl, hv2, hlen], fun i v d hv hd => ?_⟩
      by_cases hi : i < xs.length
      · rw [List.getElem?_append_left (by simpa using hi)] at hv
        rw [List.getElem?_append_left (by omega)] at hd
        exact Rep.mono hmono (hargs0.2 i v d hv hd)
      · rw [List.getElem?_append_right (by simpa using hi), List.length_map] at hv
        rw [List.getElem?_append_right (by omega), ← hl] at hd
        rw [List.getElem?_map, Option.map_eq_some_iff] at hd
        obtain ⟨cs, hcs, rfl⟩ := hd
        have hlt : i - xs.length < ks.length := by rw [← hlen]; exact (List.getElem?_eq_some_iff.1 hcs).1
        obtain ⟨b, us, T', h1, h2, h3, h4, h5⟩ := hcap _ _ cs (List.getElem?_eq_getElem hlt) hcs
        rw [h2] at hv
        injection hv with hv
        subst hv
        have hcell : ∀ j, w.cell? ⟨b, j, none⟩ = us[j]? := fun j => cell_of_row w b j us T' (0, 0) h3
        have hj : ∀ j, j < cs.length → ∃ u, us[j]? = some u ∧ u.oneCell' = true ∧ Rep w D u (cs[j]?.getD (.tup [])) := fun j hj => by
          obtain ⟨u, q1, q2, q3⟩ := h4 j (.d cs[j]) (by rw [List.getElem?_map, List.getElem?_eq_getElem hj]; rfl)
          exact ⟨u, q1, q2, by rw [List.getElem?_eq_getElem hj]; exact q3⟩
        refine Rep.cptr (off := 0) b 0 (fun j => us.getD j undef) (fun j _ => .inr ⟨rfl, _, List.getElem_mem hlt, h1⟩) (fun j hj' => ?_) (fun j hj' => ?_) (fun j d hd => ?_)
        · obtain ⟨u, q1, _, _⟩ := hj j hj'
          rw [Nat.zero_add, hcell, Array.getD_eq_getD_getElem?, q1]; rfl
        · obtain ⟨u, q1, q2, _⟩ := hj j hj'
          rw [Array.getD_eq_getD_getElem?, q1]; exact q2
        · obtain ⟨u, q1, q2, q3⟩ := hj j (List.getElem?_eq_some_iff.1 hd).1
          rw [Array.getD_eq_getD_getElem?, q1]
          rw [hd] at q3
          exact Rep.mono hmono q3
    refine wp_enter hrun ((hf.run w _ _ hD' hargs).mono fun e w' h => ?_)
    obtain ⟨v, D2, he, h1, h2, h3⟩ := h
    refine ⟨v, he, v, fun t g i => D2 t g i ∧ ¬ X t g i, rfl, h1, ⟨fun t g i hd => ⟨h2.up _ _ _ (.inl hd), fun hx' => (hXb t g i hx').1 t i hd⟩, fun t g i hd => ?_⟩, ?_⟩
    · rcases h2.new t g i hd.1 with h | h
      · rcases h with h | h
        · exact .inl h
        · exact absurd h hd.2
      · exact .inr h
    · exact ha.rep (fun t g i hne hd => ⟨hd, fun hx' => hne hx'.1⟩) h3
theorem oMf {f : FuncId} {caps : List Operand} (ks : List Nat) (ho : o.op = .makeFunc (.func f) #[] caps.toArray := by exact rfl) (hx : caps.map (ev S) = ks.map (fun k => .ref k 0) := by kernel_rfl) : EOk P o S [] (.clo f ks) := e_mkf ho hx
end
def RKs (P : Program) (o : Oper) (S : SL) (B : BS) (ks : List Nat) (x : SV) : Prop := ∃ rd : List (Nat × List SV), rd.map (·.1) = ks ∧ EOk P o (sget S) rd x ∧ ∀ p ∈ rd, bget B p.1 = some p.2
theorem oCc {P : Program} {o : Oper} {S : SL} {B : BS} {y : Operand} {xs : List Operand} {ats : Array TypeId} {f : FuncId} {ds : List Dat} {r : Dat} (ks : List Nat) (css : List (List Dat))
    (hf : Takes P f (ds ++ css.map (fun cs => .cptr 1000000 cs 0)) r) (ha : Avoids 1000000 r) (ho : o.op = .call { callee := .value y, args := xs.toArray, argTypes := ats } := by exact rfl) (hy : ev (sget S) y = .clo f ks := by kernel_rfl) (hx : xs.map (ev (sget S)) = ds.map .d := by kernel_rfl)
    (hlen : Nat.beq css.length ks.length = true := by kernel_rfl) (hb : ks.map (fun k => bget B k) = css.map (fun cs => some (cs.map SV.d)) := by kernel_rfl) : RKs P o S B ks (.d r) := by
  have hlen := Nat.eq_of_beq_eq_true hlen
  refine ⟨ks.zip (css.map (fun cs => cs.map SV.d)), ?_, e_clc hf ho hy hx rfl hlen ha, fun p hp => ?_⟩
  · rw [List.map_fst_zip]; simp [hlen]
  · obtain ⟨i, hi⟩ := List.getElem?_of_mem hp
    rw [List.getElem?_zip_eq_some] at hi
    have h1 := congrArg (fun l : List (Option (List SV)) => l[i]?) hb
    simp only [List.getElem?_map, hi.1, Option.map_some] at h1
    have h2 := hi.2
    rw [List.getElem?_map, Option.map_eq_some_iff] at h2
    obtain ⟨cs, hc, e⟩ := h2
    rw [hc] at h1
    simp only [Option.map_some, Option.some.injEq] at h1
    rw [h1, e]
section
variable {P : Program} {n : Fr} {ops : Array Oper} {K : SL → BS → Prop} {S : SL} {B : BS} {l : List Oper} {o : Oper} {news : List Nat} {acc0 : List (List Nat × List Nat)}
theorem zC {ks : List Nat} {x : SV} (h : RKs P o S B ks x) (r : SK P n ops K ((dO o, x) :: S) B l) (g : goK n ops S o = true := by kernel_rfl) : SK P n ops K S B (o :: l) := by
  obtain ⟨st1, r1, r2⟩ := r
  obtain ⟨rd, _, h, hbk⟩ := h
  obtain ⟨hd, hg, hb⟩ := goK_spec g
  have hs := Step.e (P := P) (n := n) (ops := ops) (st := ⟨S, B⟩) (o := o) h hg (by rw [hd]; exact hb) hbk
  rw [hd] at hs
  exact ⟨st1, .cons hs r1, r2⟩
end
end Go.Fid
set_option linter.unusedVariables false
set_option linter.unusedSimpArgs false
namespace Go.Fid
open Go.RowKit (Below)
inductive CArgs (bl : List (Nat × List Dat)) : List Nat → List (List Dat) → Prop
  | nil : CArgs bl [] []
  | cons {k : Nat} {cs : List Dat} {ks : List Nat} {css : List (List Dat)} (hk : (k, cs) ∈ bl) (h : CArgs bl ks css) : CArgs bl (k :: ks) (cs :: css)
theorem CArgs.len {bl : List (Nat × List Dat)} {ks : List Nat} {css : List (List Dat)} (h : CArgs bl ks css) : ks.length = css.length := by
  induction h with
  | nil => rfl
  | cons hk h ih => simp [ih]
theorem CArgs.get {bl : List (Nat × List Dat)} {ks : List Nat} {css : List (List Dat)} (h : CArgs bl ks css) : ∀ (i : Nat) k cs, ks[i]? = some k → css[i]? = some cs → (k, cs) ∈ bl := by
  induction h with
  | nil => intro i k cs h; simp at h
  | cons hk h ih =>
    intro i k cs h1 h2
    rcases i with _ | i
    · simp at h1 h2; subst h1; subst h2; exact hk
    · exact ih i k cs (by simpa using h1) (by simpa using h2)
inductive MArgs (bl : List (Nat × List Dat)) (E : TypeId) : List SV → List Dat → Prop
  | nil : MArgs bl E [] []
  | d {x : Dat} {zs : List SV} {ds : List Dat} (h : MArgs bl E zs ds) : MArgs bl E (.d x :: zs) (x :: ds)
  | v {k q n s : Nat} {cs es : List Dat} {zs : List SV} {ds : List Dat} (hk : (k, cs) ∈ bl) (hes : ∀ e ∈ es, e.cells.length = s) (hl : es.length = n) (hc : (cs.drop q).take (n * s) = flat es) (h : MArgs bl E zs ds) : MArgs bl E (.view k q n :: zs) (.sl E s es :: ds)
  | p {k o : Nat} {cs : List Dat} {zs : List SV} {ds : List Dat} (hk : (k, cs) ∈ bl) (h : MArgs bl E zs ds) : MArgs bl E (.ref k o :: zs) (.cptr E cs o :: ds)
  | c {f : FuncId} {ks : List Nat} {css : List (List Dat)} {zs : List SV} {ds : List Dat} (hk : CArgs bl ks css) (h : MArgs bl E zs ds) : MArgs bl E (.clo f ks :: zs) (.clo f (css.map fun cs => .cptr E cs 0) :: ds)
theorem MArgs.len {bl : List (Nat × List Dat)} {E : TypeId} {zs : List SV} {ds : List Dat} (h : MArgs bl E zs ds) : zs.length = ds.length := by
  induction h with
  | nil => rfl
  | d h ih => simp [ih]
  | v hk hes hl hc h ih => simp [ih]
  | p hk h ih => simp [ih]
  | c hk h ih => simp [ih]
theorem MArgs.rep {bl : List (Nat × List Dat)} {E : TypeId} {zs : List SV} {ds : List Dat} (h : MArgs bl E zs ds) {w : World} {D D' : DSet} {β : BMap} (h1 : ∀ v x, Rep w D v x → Rep w D' v x)
    (h2 : ∀ (k q n s : Nat) (cs es : List Dat) (v : Value), (k, cs) ∈ bl → (∀ e ∈ es, e.cells.length = s) → es.length = n → (cs.drop q).take (n * s) = flat es → RepS w D β v (.view k q n) → Rep w D' v (.sl E s es))
    (h3 : ∀ (k o : Nat) (cs : List Dat) (v : Value), (k, cs) ∈ bl → RepS w D β v (.ref k o) → Rep w D' v (.cptr E cs o)) :
    ∀ (vs : List Value), vs.length = zs.length → (∀ (i : Nat) v x, vs[i]? = some v → zs[i]? = some x → RepS w D β v x) → ∀ (i : Nat) v d, vs[i]? = some v → ds[i]? = some d → Rep w D' v d := by
  induction h with
  | nil => intro vs _ _ i v d _ hd; simp at hd
  | d h ih =>
    intro vs hl hr i v d' hv hd
    rcases vs with _ | ⟨v0, vs⟩
    · simp at hl
    · rcases i with _ | i
      · simp at hv hd; subst hv; subst hd; exact h1 _ _ (hr 0 _ _ rfl rfl)
      · exact ih vs (by simpa using hl) (fun i v x h3 h4 => hr (i + 1) v x (by simpa using h3) (by simpa using h4)) i v d' (by simpa using hv) (by simpa using hd)
  | v hk hes hl' hc h ih =>
    intro vs hl hr i v d' hv hd
    rcases vs with _ | ⟨v0, vs⟩
    · simp at hl
    · rcases i with _ | i
      · simp at hv hd; subst hv; subst hd; exact h2 _ _ _ _ _ _ _ hk hes hl' hc (hr 0 _ _ rfl rfl)
      · exact ih vs (by simpa using hl) (fun i v x h3 h4 => hr (i + 1) v x (by simpa using h3) (by simpa using h4)) i v d' (by simpa using hv) (by simpa using hd)
  | p hk h ih =>
    intro vs hl hr i v d' hv hd
    rcases vs with _ | ⟨v0, vs⟩
    · simp at hl
    · rcases i with _ | i
      · simp at hv hd; subst hv; subst hd; exact h3 _ _ _ _ hk (hr 0 _ _ rfl rfl)
      · exact ih vs (by simpa using hl) (fun i v x h3 h4 => hr (i + 1) v x (by simpa using h3) (by simpa using h4)) i v d' (by simpa using hv) (by simpa using hd)
  | c hk h ih =>
    intro vs hl hr i v d' hv hd
    rcases vs with _ | ⟨v0, vs⟩
    · simp at hl
    · rcases i with _ | i
      · simp at hv hd; subst hv; subst hd
        obtain ⟨us, e1, e2, e3⟩ := hr 0 _ _ rfl rfl
        rw [e1]
        refine .clo us (by rw [e2, hk.len, List.length_map]) fun j u d hu hd => ?_
        rw [List.getElem?_map, Option.map_eq_some_iff] at hd
        obtain ⟨cs, hcs, rfl⟩ := hd
        have hlt : j < _ := (List.getElem?_eq_some_iff.1 hcs).1
        rw [← hk.len] at hlt
        obtain ⟨b, g1, g2⟩ := e3 j _ (List.getElem?_eq_getElem hlt)
        rw [hu] at g2
        injection g2 with g2
        exact h3 _ 0 cs u (hk.get j _ cs (List.getElem?_eq_getElem hlt) hcs) ⟨b, g1, g2⟩
      · exact ih vs (by simpa using hl) (fun i v x h3 h4 => hr (i + 1) v x (by simpa using h3) (by simpa using h4)) i v d' (by simpa using hv) (by simpa using hd)
end Go.Fid
set_option linter.unusedVariables false
set_option linter.unusedSimpArgs false
namespace Go.Fid
variable {P : Program}
def intFs (P : Program) : List Field → Nat → Bool
  | [], _ => true
  | f :: l, i => (f.name != "_") && (Nat.beq f.offset i && ((match P.underlying f.type with | some (.int _) => true | _ => false) && intFs P l (i + 1)))
def eqsB (P : Program) (T : TypeId) : Option Nat :=
  match P.underlying T with
  | some (.struct fs) => if intFs P fs.toList 0 && (!P.stoodInHeld T && !P.eqGuardType P.depth T) then some fs.size else none
  | _ => none
theorem run_part_int {t : TypeId} {ms : List Int} {i : Nat} {m : Int} {k j : IntKind} (ht : P.underlying t = some (.int j)) (hi : ms[i]? = some m) (w : World) : (part t (ms.map (Value.int k)).toArray i).run P w = .ok (.int k m) w := by
  have h2 : (ms.map (Value.int k))[i]? = some (.int k m) := by rw [List.getElem?_map, hi]; rfl
  simp [part, run_isAgg ht, isAggD, h2]
theorem run_eqInt {t : TypeId} {k j : IntKind} {m n : Int} (ht : P.underlying t = some (.int j)) (d : Nat) (w : World) : (Op.equalIn (d + 1) t (.int k m) (.int k n)).run P w = .ok (m == n) w := by
  simp [Op.equalIn, run_underlying ht]
theorem run_fs (k : IntKind) (d : Nat) (w : World) (ms ns : List Int) : ∀ (l : List Field) (i : Nat), intFs P l i = true → ms.length = i + l.length → ns.length = i + l.length →
    Sem.run P (forIn l ((none, ()) : Option Bool × Unit) fun f _ =>
            if f.name = "_" then pure (ForInStep.yield (none, ()))
            else do
              let a ← part f.type (List.map (Value.int k) ms).toArray f.offset
              let b ← part f.type (List.map (Value.int k) ns).toArray f.offset
              let c ← Op.equalIn (d + 1) f.type a b
              if c = false then pure (ForInStep.done (some false, ())) else pure (ForInStep.yield (none, ()))) w = .ok (if ms.drop i = ns.drop i then (none, ()) else (some false, ())) w
  | [], i, _, h1, h2 => by
    have e1 : ms.drop i = [] := List.drop_eq_nil_of_le (by simp at h1; omega)
    have e2 : ns.drop i = [] := List.drop_eq_nil_of_le (by simp at h2; omega)
    rw [e1, e2]; simp
  | f :: l, i, h, h1, h2 => by
    unfold intFs at h
    simp only [Bool.and_eq_true, bne_iff_ne, ne_eq] at h
    obtain ⟨g1, g2, g3, g4⟩ := h
    have g2 : f.offset = i := Nat.eq_of_beq_eq_true g2
    have hd : ∃ j, P.underlying f.type = some (.int j) := by
      split at g3
      · rename_i j e; exact ⟨j, e⟩
      · cases g3
    obtain ⟨j, hj⟩ := hd
    simp only [List.length_cons] at h1 h2
    have b1 : i < ms.length := by omega
    have b2 : i < ns.length := by omega
    have ih := run_fs k d w ms ns l (i + 1) g4 (by omega) (by omega)
    have e1 := List.drop_eq_getElem_cons b1
    have e2 := List.drop_eq_getElem_cons b2
    simp only [List.forIn_cons, g1, if_false, g2, Sem.run_bind, run_part_int hj (List.getElem?_eq_getElem b1), run_part_int hj (List.getElem?_eq_getElem b2), Result.andThen_ok, run_eqInt hj]
    by_cases he : ms[i] = ns[i]
    · have hx : (ms.drop i = ns.drop i) = (ms.drop (i + 1) = ns.drop (i + 1)) := by
        rw [e1, e2, he]
        exact propext ⟨fun h => (List.cons.inj h).2, fun h => by rw [h]⟩
      simp only [he, beq_self_eq_true, Bool.true_eq_false, if_false, Sem.run_pure, Result.andThen_ok]
      rw [ih]
      simp only [hx]
    · have hx : ¬ ms.drop i = ns.drop i := by
        rw [e1, e2]
        exact fun h => he (List.cons.inj h).1
      have hb : (ms[i] == ns[i]) = false := by simp [he]
      simp only [hb, if_true, Sem.run_pure, Result.andThen_ok, if_neg hx]
theorem run_eqS {T : TypeId} {c : Nat} (h : eqsB P T = some c) (k : IntKind) (ms ns : List Int) (h1 : ms.length = c) (h2 : ns.length = c) (w : World) :
    (Op.equal T (.agg (ms.map (Value.int k)).toArray) (.agg (ns.map (Value.int k)).toArray)).run P w = .ok (decide (ms = ns)) w ∧ P.eqGuardType P.depth T = false := by
  unfold eqsB at h
  split at h
  · rename_i fs hT
    split at h
    · rename_i hq
      simp only [Bool.and_eq_true, Bool.not_eq_true'] at hq
      injection h with h
      refine ⟨?_, hq.2.2⟩
      show (Op.equalIn (9998 + 2) T _ _).run P w = _
      rw [Op.equalIn]
      have hl := run_fs k 9998 w ms ns fs.toList 0 hq.1 (by simp; omega) (by simp; omega)
      rw [Array.forIn_toList] at hl
      simp [run_underlying hT, hq.2.1]
      have hl2 := hl
      simp only [List.drop_zero] at hl2
      rw [hl2]
      by_cases e : ms = ns
      · simp [e]
      · simp [e]
    · cases h
  · cases h
theorem rep_ints {w : World} {D : DSet} {v : Value} {k : IntKind} {ms : List Int} (h : Rep w D v (.agg (ms.map fun m => .val (.int k m)))) : v = .agg (ms.map (Value.int k)).toArray := by
  obtain ⟨vs, rfl, hl, _, hr⟩ := rep_agg h
  have e : vs = ms.map (Value.int k) := by
    refine List.ext_getElem (by simpa using hl) fun i h1 h2 => ?_
    have hi : i < ms.length := by simpa using h2
    have := rep_val (hr i vs[i] (.val (.int k ms[i])) (List.getElem?_eq_getElem h1) (by rw [List.getElem?_map, List.getElem?_eq_getElem hi]; rfl))
    rw [this]; simp
  rw [e]
theorem e_eqs {o : Oper} {S : Nat → SV} {T T' : TypeId} {x y : Operand} {k : IntKind} {ms ns : List Int} {c : Nat} (ho : o.op = .binOp .eql T x y T') (hT : eqsB P T = some c) (hx : ev S x = .d (.agg (ms.map fun m => .val (.int k m)))) (hy : ev S y = .d (.agg (ns.map fun m => .val (.int k m)))) (h1 : ms.length = c) (h2 : ns.length = c) : EOk P o S [] (.d (.val (.bool (decide (ms = ns))))) :=
  EOk.same fun a w D β hop _ => by
    have hx' := hop x (by simp [ho, Op.operands])
    have hy' := hop y (by simp [ho, Op.operands])
    rw [hx] at hx'
    rw [hy] at hy'
    have ex := rep_ints hx'
    have ey := rep_ints hy'
    obtain ⟨g1, g2⟩ := run_eqS hT k ms ns h1 h2 w
    refine ⟨.bool (decide (ms = ns)), ?_, .val _⟩
    simp [execOp, ho, ex, ey, eqGuard, g2, binOp, g1]
theorem oEs {P : Program} {o : Oper} {S : Nat → SV} {T T' : TypeId} {x y : Operand} {c : Nat} (hT : eqsB P T = some c) (k : IntKind) (ms ns : List Int) (ho : o.op = .binOp .eql T x y T' := by exact rfl) (hx : ev S x = .d (.agg (ms.map fun m => .val (.int k m))) := by kernel_rfl) (hy : ev S y = .d (.agg (ns.map fun m => .val (.int k m))) := by kernel_rfl) (h1 : ms.length = c := by exact rfl) (h2 : ns.length = c := by exact rfl) : EOk P o S [] (.d (.val (.bool (decide (ms = ns))))) := e_eqs ho hT hx hy h1 h2
end Go.Fid
set_option linter.unusedVariables false
set_option linter.unusedSimpArgs false
namespace Go.Fid
variable {P : Program} {o : Oper} {S : Nat → SV}
end Go.Fid
namespace Go.Proofs.YtihgdjljnaekmaaGreat
open Go.Fid
theorem avo_encQuat (x : RQuat) : Avoids 1000000 (encQuat x) := .agg (avo_cons (.val _) (avo_cons (.val _) (avo_cons (.val _) (avo_cons (.val _) avo_nil))))
end Go.Proofs.YtihgdjljnaekmaaGreat
