/- Part 19 of a proof: rules, plain facts, and functions walked. -/
import Derived.Test.YtiooafhcpkdhcaaGreatDoorM18
namespace Go.Proofs.YtiooafhcpkdhcaaGreatDoor
open Go.Fid
set_option maxRecDepth 4000
set_option linter.unusedVariables false
set_option linter.unusedSimpArgs false
theorem cb40 : callB Tryz.prog 40 = true := by kernel_rfl
theorem cb41 : callB Tryz.prog 41 = true := by kernel_rfl
theorem cb42 : callB Tryz.prog 42 = true := by kernel_rfl
theorem cb43 : callB Tryz.prog 43 = true := by kernel_rfl
theorem cb47 : callB Tryz.prog 47 = true := by kernel_rfl
theorem cb65 : callB Tryz.prog 65 = true := by kernel_rfl
theorem cb67 : callB Tryz.prog 67 = true := by kernel_rfl
theorem cb110 : callB Tryz.prog 110 = true := by kernel_rfl
theorem cb111 : callB Tryz.prog 111 = true := by kernel_rfl
theorem cb112 : callB Tryz.prog 112 = true := by kernel_rfl
theorem cb120 : callB Tryz.prog 120 = true := by kernel_rfl
theorem g_reduced (num den : RInt) (a b : Int) (hnum : IOk num a 68719476736) (hden : IOk den b 68719476736) (hb : b ≠ 0) : Takes Tryz.prog 112 [(encI num), (encI den)] (encR (ofQ (Rat.divInt a b))) := by
  refine fn_intro Tryz.func112 rfl cb112 rfl ?_
  show PWp _ _ _ _ ⟨[(0, (.d (encI num))), (1, (.d (encI den)))], []⟩
  refine pwp_seq <| kx [(2, (.ref 0 0)), (3, (.ref 1 0)), (4, (.ref 2 0))] [(0, some (bx (encI num))), (1, some (bx (encI den))), (2, some (bx (encR (RRat.mk (RInt.mk false []) (RInt.mk false [])))))] (zN (oBx 0) <| zN (oBx 1) <| zN (oAl 2 ze26 zo26) <| zZ) ?_
  refine pwp_seq <| kx [(5, (.ref 3 0))] [(3, some (bx (encI (ofZ ((Int.gcd a b : Nat) : Int)))))] (zR (oLa sh24) <| zR (oLa sh24) <| zE (oCl (rs_gcd hnum hden (by decide) (by decide))) <| zN (oAl 3 ze24 zo24) <| zT (oSt sh24) <| zZ) ?_
  refine pwp_seq <| pwp_seq <| kx [(17, (vb (decide ((signI b) < 0))))] [] (zR (oLa sh24) <| zE (oCl (rs_sign hden (by decide))) <| zE oLt <| zZ) ?_
  refine pwp_cond (b := decide ((signI b) < 0)) rfl (fun h1 => ?_) (fun h1 => ?_)
  · replace h1 := of_decide_eq_true h1
    have hlt := signI_lt.1 h1
    refine kx [] [(3, some (bx (encI (ofZ (-(((Int.gcd a b : Nat) : Int)))))))] (zR (oLa sh24) <| zE (oCl (rs_neg (iok_gcd (k := 68719476736) hnum hden (by decide)) (by decide))) <| zT (oSt sh24) <| zZ) ?_
    refine pwp_seq <| kx [(6, (.ref 4 0))] [(4, some (bx (encI (ofZ (a.fdiv (-(((Int.gcd a b : Nat) : Int)))))))), (5, none)] (zR (oLa sh24) <| zR (oLa sh24) <| zE (oCl (rs_divide hnum (iok_neg (iok_gcd (k := 68719476736) hnum hden (by decide))) (by decide) (by decide) (by have := gcd_ne (a := a) hb; omega))) <| zM <| zE oEx <| zE oEx <| zE oEx <| zN (oAl 4 ze24 zo24) <| zN (oAl 5 ze24 zo24) <| zT (oSt sh24) <| zT (oSt sh24) <| zM <| zZ) ?_
    refine pwp_seq <| kx [(9, (.ref 6 0))] [(6, some (bx (encI (ofZ (b.fdiv (-(((Int.gcd a b : Nat) : Int)))))))), (7, none)] (zR (oLa sh24) <| zR (oLa sh24) <| zE (oCl (rs_divide hden (iok_neg (iok_gcd (k := 68719476736) hnum hden (by decide))) (by decide) (by decide) (by have := gcd_ne (a := a) hb; omega))) <| zM <| zE oEx <| zE oEx <| zE oEx <| zN (oAl 6 ze24 zo24) <| zN (oAl 7 ze24 zo24) <| zT (oSt sh24) <| zT (oSt sh24) <| zM <| zZ) ?_
    refine pwp_seq <| kx [] [(2, some (bx (encR (RRat.mk (ofZ (a.fdiv (-(((Int.gcd a b : Nat) : Int))))) (ofZ (b.fdiv (-(((Int.gcd a b : Nat) : Int)))))))))] (zR (oLa sh24) <| zR (oLa sh24) <| zE (oBd pl26 ze26 zo26) <| zT (oSt sh26) <| zZ) ?_
    refine pwp_ret ⟨_, (res_a (cs := (bx (encR (RRat.mk (ofZ (a.fdiv (-(((Int.gcd a b : Nat) : Int))))) (ofZ (b.fdiv (-(((Int.gcd a b : Nat) : Int))))))))) (d := (encR (RRat.mk (ofZ (a.fdiv (-(((Int.gcd a b : Nat) : Int))))) (ofZ (b.fdiv (-(((Int.gcd a b : Nat) : Int)))))))) rfl rfl sh26 rfl rfl .nil), ?_⟩
    rw [← red_neg2 hlt]; rfl
  · replace h1 := of_decide_eq_false h1
    have hge : ¬ b < 0 := fun hh => h1 (signI_lt.2 hh)
    refine pwp_skip <| pwp_seq <| kx [(6, (.ref 8 0))] [(8, some (bx (encI (ofZ (a.fdiv (((Int.gcd a b : Nat) : Int))))))), (9, none)] (zR (oLa sh24) <| zR (oLa sh24) <| zE (oCl (rs_divide hnum (iok_gcd (k := 68719476736) hnum hden (by decide)) (by decide) (by decide) (by have := gcd_ne (a := a) hb; omega))) <| zM <| zE oEx <| zE oEx <| zE oEx <| zN (oAl 8 ze24 zo24) <| zN (oAl 9 ze24 zo24) <| zT (oSt sh24) <| zT (oSt sh24) <| zM <| zZ) ?_
    refine pwp_seq <| kx [(9, (.ref 10 0))] [(10, some (bx (encI (ofZ (b.fdiv (((Int.gcd a b : Nat) : Int))))))), (11, none)] (zR (oLa sh24) <| zR (oLa sh24) <| zE (oCl (rs_divide hden (iok_gcd (k := 68719476736) hnum hden (by decide)) (by decide) (by decide) (by have := gcd_ne (a := a) hb; omega))) <| zM <| zE oEx <| zE oEx <| zE oEx <| zN (oAl 10 ze24 zo24) <| zN (oAl 11 ze24 zo24) <| zT (oSt sh24) <| zT (oSt sh24) <| zM <| zZ) ?_
    refine pwp_seq <| kx [] [(2, some (bx (encR (RRat.mk (ofZ (a.fdiv (((Int.gcd a b : Nat) : Int)))) (ofZ (b.fdiv (((Int.gcd a b : Nat) : Int))))))))] (zR (oLa sh24) <| zR (oLa sh24) <| zE (oBd pl26 ze26 zo26) <| zT (oSt sh26) <| zZ) ?_
    refine pwp_ret ⟨_, (res_a (cs := (bx (encR (RRat.mk (ofZ (a.fdiv (((Int.gcd a b : Nat) : Int)))) (ofZ (b.fdiv (((Int.gcd a b : Nat) : Int)))))))) (d := (encR (RRat.mk (ofZ (a.fdiv (((Int.gcd a b : Nat) : Int)))) (ofZ (b.fdiv (((Int.gcd a b : Nat) : Int))))))) rfl rfl sh26 rfl rfl .nil), ?_⟩
    rw [red_pos hge hb]; rfl
theorem g_whole1 (n : Int) (hlo : -9223372036854775808 ≤ n) (hhi : n ≤ 9223372036854775807) : Takes Tryz.prog 120 [(.val (.int .i64 (n)))] (encI (ofZ n)) := by
  refine fn_intro Tryz.func120 rfl cb120 rfl ?_
  show PWp _ _ _ _ ⟨[(0, (vi n))], []⟩
  refine pwp_seq <| kx [(2, (.ref 0 0))] [(0, some (bx (encI (RInt.mk false []))))] (zN (oAl 0 ze24 zo24) <| zZ) ?_
  refine pwp_seq <| kx [] [(0, some (bx (encI (ofZ n))))] (zM <| zE (oCl (r_of n (by omega) (by omega))) <| zT (oSt sh24) <| zZ) ?_
  refine pwp_ret ⟨_, (res_a (cs := (bx (encI (ofZ n)))) (d := (encI (ofZ n))) rfl rfl sh24 rfl rfl .nil), ?_⟩
  rfl
theorem g_whole (n : Int) (hlo : -9223372036854775808 ≤ n) (hhi : n ≤ 9223372036854775807) : Takes Tryz.prog 67 [(.val (.int .i64 (n)))] (encR (ofQ ((n : Int) : Rat))) := by
  refine fn_intro Tryz.func67 rfl cb67 rfl ?_
  show PWp _ _ _ _ ⟨[(0, (vi n))], []⟩
  refine pwp_seq <| kx [(2, (.ref 0 0))] [(0, some (bx (encR (RRat.mk (RInt.mk false []) (RInt.mk false [])))))] (zN (oAl 0 ze26 zo26) <| zZ) ?_
  refine pwp_seq <| kx [] [(0, some (bx (encR (RRat.mk (ofZ n) (ofZ 1)))))] (zM <| zE (oCl (g_whole1 n (by omega) (by omega))) <| zE (oCl (g_whole1 1 (by decide) (by decide))) <| zE (oBd pl26 ze26 zo26) <| zT (oSt sh26) <| zZ) ?_
  refine pwp_ret ⟨_, (res_a (cs := (bx (encR (RRat.mk (ofZ n) (ofZ 1))))) (d := (encR (RRat.mk (ofZ n) (ofZ 1)))) rfl rfl sh26 rfl rfl .nil), ?_⟩
  rfl
theorem g_valid (x : RRat) (p : Rat) (hx : QOk x p 17179869184) : Takes Tryz.prog 65 [(encR x)] (.val (.bool ((validR x)))) := by
  refine fn_intro Tryz.func65 rfl cb65 rfl ?_
  show PWp _ _ _ _ ⟨[(0, (.d (encR x)))], []⟩
  refine pwp_seq <| kx [(1, (.ref 0 0))] [(0, some (bx (encR x)))] (zN (oBx 0) <| zM <| zZ) ?_
  refine pwp_seq <| pwp_seq <| kx [(18, (vb ((!(validI x.num) || !(validI x.den)) || decide ((signI (toZ x.den)) ≤ 0))))] [] ?_ ?_
  · refine zE (oFr fo26_0) <| zR (oLa sh24) <| zE (oCl (r_valid x.num (Nat.le_trans (iok_raw hx.n1).l (by decide)))) <| zE oNt <| zE (oV (vb (!(validI x.num))) (mv_ok (by kernel_rfl))) <| ?_
    rcases hb1 : (!(validI x.num)) with _ | _
    · refine zE (oFr fo26_1) <| zR (oLa sh24) <| zE (oCl (r_valid x.den (Nat.le_trans (iok_raw hx.n2).l (by decide)))) <| zE oNt <| zE oPo <| zE (oV (vb (false || !(validI x.den))) (mv_ok (by kernel_rfl))) <| ?_
      rcases hb2 : (false || !(validI x.den)) with _ | _
      · exact zE (oFr fo26_1) <| zR (oLa sh24) <| zE (oCl (rs_sign (iok_raw hx.n2) (by decide))) <| zE oLe <| zE oPo <| zZ
      · exact zK <| zK <| zK <| zK <| zE oPt <| zZ
    · exact zK <| zK <| zK <| zK <| zE oPt <| zM <| zK <| zK <| zK <| zK <| zE oPt <| zZ
  refine pwp_cond rfl (fun h3 => ?_) (fun h3 => ?_)
  · refine pwp_seq <| kx [(2, (vb false))] [] (zM <| zZ) ?_
    refine pwp_ret ⟨_, (.tmp (d := (.val (.bool (false)))) rfl .nil), ?_⟩
    rw [validR_no h3]; rfl
  · refine pwp_skip <| pwp_seq <| kx [(2, (vb ((cmpI (((Int.gcd (toZ x.num) (toZ x.den) : Nat) : Int)) 1) == 0)))] [] (zE (oFr fo26_0) <| zR (oLa sh24) <| zE (oFr fo26_1) <| zR (oLa sh24) <| zE (oCl (rs_gcd (iok_raw hx.n1) (iok_raw hx.n2) (by decide) (by decide))) <| zE (oCl (g_whole1 1 (by decide) (by decide))) <| zE (oCl (rs_compare (iok_gcd (k := 17179869184) (iok_raw hx.n1) (iok_raw hx.n2) (by decide)) (iok_small (z := 1) (by decide)) (by decide) (by decide))) <| zE oEq <| zM <| zZ) ?_
    refine pwp_ret ⟨_, (.tmp (d := (.val (.bool (((cmpI (((Int.gcd (toZ x.num) (toZ x.den) : Nat) : Int)) 1) == 0))))) rfl .nil), ?_⟩
    rw [validR_yes h3]; rfl
theorem g_value (x : RRat) (p : Rat) (hx : QOk x p 17179869184) : Takes Tryz.prog 110 [(encR x)] (encR (ofQ p)) := by
  refine fn_intro Tryz.func110 rfl cb110 rfl ?_
  show PWp _ _ _ _ ⟨[(0, (.d (encR x)))], []⟩
  refine pwp_seq <| kx [(1, (.ref 0 0)), (2, (.ref 1 0))] [(0, some (bx (encR x))), (1, some (bx (encR (RRat.mk (RInt.mk false []) (RInt.mk false [])))))] (zN (oBx 0) <| zN (oAl 1 ze26 zo26) <| zZ) ?_
  refine pwp_seq <| pwp_seq <| kx [(4, (vb (validR x)))] [] (zR (oLa sh26) <| zE (oCl (g_valid x p hx)) <| zZ) ?_
  refine pwp_cond (b := (validR x)) rfl (fun h1 => ?_) (fun h1 => ?_)
  · refine pwp_seq <| kx [] [(1, some (bx (encR x)))] (zR (oLa sh26) <| zT (oSt sh26) <| zZ) ?_
    refine pwp_ret ⟨_, (res_a (cs := (bx (encR x))) (d := (encR x)) rfl rfl sh26 rfl rfl .nil), ?_⟩
    rw [← hx.v, ofQ_toQ h1]; rfl
  · refine pwp_skip <| pwp_seq <| kx [] [(1, some (bx (encR (ofQ ((0 : Int) : Rat)))))] (zE (oCl (g_whole 0 (by decide) (by decide))) <| zT (oSt sh26) <| zZ) ?_
    refine pwp_ret ⟨_, (res_a (cs := (bx (encR (ofQ ((0 : Int) : Rat))))) (d := (encR (ofQ ((0 : Int) : Rat)))) rfl rfl sh26 rfl rfl .nil), ?_⟩
    rw [← hx.v, toQ_bad h1]; rfl
theorem g_sign (x : RRat) (p : Rat) (hx : QOk x p 17179869184) : Takes Tryz.prog 40 [(encR x)] (.val (.int .i64 ((signQ p)))) := by
  refine fn_intro Tryz.func40 rfl cb40 rfl ?_
  show PWp _ _ _ _ ⟨[(0, (.d (encR x)))], []⟩
  refine pwp_seq <| kx [(1, (.ref 0 0))] [(0, some (bx (encR x)))] (zN (oBx 0) <| zM <| zZ) ?_
  refine pwp_seq <| kx [(2, (vi (signI p.num)))] [] (zR (oLa sh26) <| zE (oCl (g_value x p hx)) <| zE (oFv ft26_0 sh24) <| zE (oCl (rs_sign (qok_num hx.ql) (by decide))) <| zM <| zZ) ?_
  refine pwp_ret ⟨_, (.tmp (d := (.val (.int .i64 ((signI p.num))))) rfl .nil), ?_⟩
  rfl
theorem g_neg (x : RRat) (p : Rat) (hx : QOk x p 17179869184) : Takes Tryz.prog 111 [(encR x)] (encR (ofQ (-p))) := by
  refine fn_intro Tryz.func111 rfl cb111 rfl ?_
  show PWp _ _ _ _ ⟨[(0, (.d (encR x)))], []⟩
  refine pwp_seq <| kx [(1, (.ref 0 0)), (2, (.ref 1 0))] [(0, some (bx (encR x))), (1, some (bx (encR (RRat.mk (RInt.mk false []) (RInt.mk false [])))))] (zN (oBx 0) <| zN (oAl 1 ze26 zo26) <| zZ) ?_
  refine pwp_seq <| kx [(3, (.ref 2 0))] [(2, some (bx (encR (ofQ p))))] (zR (oLa sh26) <| zE (oCl (g_value x p hx)) <| zN (oAl 2 ze26 zo26) <| zT (oSt sh26) <| zZ) ?_
  refine pwp_seq <| kd [] [(1, some (bx (encR (RRat.mk (ofZ (-p.num)) ((ofQ p).den)))))] mo (wE (oFr fo26_0) <| wR (oLa sh24) <| wE (oCl (rs_neg (qok_num hx.ql) (by decide))) <| wE (oFr fo26_1) <| wR (oLa sh24) <| wE (oBd pl26 ze26 zo26) <| wT (oSt sh26) <| wZ) ?_
  refine pwp_ret ⟨_, (res_a (cs := (bx (encR (RRat.mk (ofZ (-p.num)) ((ofQ p).den))))) (d := (encR (RRat.mk (ofZ (-p.num)) ((ofQ p).den)))) rfl rfl sh26 rfl rfl .nil), ?_⟩
  rfl
theorem g_add (x : RRat) (y : RRat) (p : Rat) (q : Rat) (hx : QOk x p 17179869184) (hy : QOk y q 17179869184) : Takes Tryz.prog 47 [(encR x), (encR y)] (encR (ofQ (p + q))) := by
  refine fn_intro Tryz.func47 rfl cb47 rfl ?_
  show PWp _ _ _ _ ⟨[(0, (.d (encR x))), (1, (.d (encR y)))], []⟩
  refine pwp_seq <| kx [(2, (.ref 0 0)), (3, (.ref 1 0)), (4, (.ref 2 0))] [(0, some (bx (encR x))), (1, some (bx (encR y))), (2, some (bx (encR (RRat.mk (RInt.mk false []) (RInt.mk false [])))))] (zN (oBx 0) <| zN (oBx 1) <| zN (oAl 2 ze26 zo26) <| zZ) ?_
  refine pwp_seq <| kx [(5, (.ref 3 0))] [(3, some (bx (encR (ofQ p))))] (zR (oLa sh26) <| zE (oCl (g_value x p hx)) <| zN (oAl 3 ze26 zo26) <| zT (oSt sh26) <| zZ) ?_
  refine pwp_seq <| kx [(6, (.ref 4 0))] [(4, some (bx (encR (ofQ q))))] (zR (oLa sh26) <| zE (oCl (g_value y q hy)) <| zN (oAl 4 ze26 zo26) <| zT (oSt sh26) <| zZ) ?_
  refine pwp_seq <| kd [] [(2, some (bx (encR (ofQ (Rat.divInt ((p.num * (q.den : Int)) + (q.num * (p.den : Int))) ((p.den : Int) * (q.den : Int)))))))] mo (wE (oFr fo26_0) <| wR (oLa sh24) <| wE (oFr fo26_1) <| wR (oLa sh24) <| wE (oCl (rs_mul (qok_num hx.ql) (qok_den hy.ql) (by decide) (by decide))) <| wE (oFr fo26_0) <| wR (oLa sh24) <| wE (oFr fo26_1) <| wR (oLa sh24) <| wE (oCl (rs_mul (qok_num hy.ql) (qok_den hx.ql) (by decide) (by decide))) <| wE (oCl (rs_add (iok_mul (k := 34359738368) (qok_num hx.ql) (qok_den hy.ql) (by decide)) (iok_mul (k := 34359738368) (qok_num hy.ql) (qok_den hx.ql) (by decide)) (by decide) (by decide))) <| wE (oFr fo26_1) <| wR (oLa sh24) <| wE (oFr fo26_1) <| wR (oLa sh24) <| wE (oCl (rs_mul (qok_den hx.ql) (qok_den hy.ql) (by decide) (by decide))) <| wE (oCl (g_reduced (ofZ ((p.num * (q.den : Int)) + (q.num * (p.den : Int)))) (ofZ ((p.den : Int) * (q.den : Int))) ((p.num * (q.den : Int)) + (q.num * (p.den : Int))) ((p.den : Int) * (q.den : Int)) (iok_up (iok_add (k := 34359738369) (iok_mul (k := 34359738368) (qok_num hx.ql) (qok_den hy.ql) (by decide)) (iok_mul (k := 34359738368) (qok_num hy.ql) (qok_den hx.ql) (by decide)) (by decide)) (by decide)) (iok_up (iok_mul (k := 34359738368) (qok_den hx.ql) (qok_den hy.ql) (by decide)) (by decide)) (mul_ne (den_ne _) (den_ne _)))) <| wT (oSt sh26) <| wZ) ?_
  refine pwp_ret ⟨_, (res_a (cs := (bx (encR (ofQ (Rat.divInt ((p.num * (q.den : Int)) + (q.num * (p.den : Int))) ((p.den : Int) * (q.den : Int))))))) (d := (encR (ofQ (Rat.divInt ((p.num * (q.den : Int)) + (q.num * (p.den : Int))) ((p.den : Int) * (q.den : Int)))))) rfl rfl sh26 rfl rfl .nil), ?_⟩
  rw [add_divInt]; rfl
theorem g_sub (x : RRat) (y : RRat) (p : Rat) (q : Rat) (hx : QOk x p 17179869184) (hy : QOk y q 17179869184) : Takes Tryz.prog 41 [(encR x), (encR y)] (encR (ofQ (p - q))) := by
  refine fn_intro Tryz.func41 rfl cb41 rfl ?_
  show PWp _ _ _ _ ⟨[(0, (.d (encR x))), (1, (.d (encR y)))], []⟩
  refine pwp_seq <| kx [(2, (.ref 0 0)), (3, (.ref 1 0)), (4, (.ref 2 0))] [(0, some (bx (encR x))), (1, some (bx (encR y))), (2, some (bx (encR (RRat.mk (RInt.mk false []) (RInt.mk false [])))))] (zN (oBx 0) <| zN (oBx 1) <| zN (oAl 2 ze26 zo26) <| zZ) ?_
  refine pwp_seq <| kd [] [(2, some (bx (encR (ofQ (p + (-q))))))] mo (wR (oLa sh26) <| wR (oLa sh26) <| wE (oCl (g_neg y q hy)) <| wE (oCl (g_add x (ofQ (-q)) p (-q) hx (qok_of (ql_neg hy.ql)))) <| wT (oSt sh26) <| wZ) ?_
  refine pwp_ret ⟨_, (res_a (cs := (bx (encR (ofQ (p + (-q)))))) (d := (encR (ofQ (p + (-q))))) rfl rfl sh26 rfl rfl .nil), ?_⟩
  rw [Rat.sub_eq_add_neg]; rfl
theorem g_mul (x : RRat) (y : RRat) (p : Rat) (q : Rat) (hx : QOk x p 17179869184) (hy : QOk y q 17179869184) : Takes Tryz.prog 43 [(encR x), (encR y)] (encR (ofQ (p * q))) := by
  refine fn_intro Tryz.func43 rfl cb43 rfl ?_
  show PWp _ _ _ _ ⟨[(0, (.d (encR x))), (1, (.d (encR y)))], []⟩
  refine pwp_seq <| kx [(2, (.ref 0 0)), (3, (.ref 1 0)), (4, (.ref 2 0))] [(0, some (bx (encR x))), (1, some (bx (encR y))), (2, some (bx (encR (RRat.mk (RInt.mk false []) (RInt.mk false [])))))] (zN (oBx 0) <| zN (oBx 1) <| zN (oAl 2 ze26 zo26) <| zZ) ?_
  refine pwp_seq <| kx [(5, (.ref 3 0))] [(3, some (bx (encR (ofQ p))))] (zR (oLa sh26) <| zE (oCl (g_value x p hx)) <| zN (oAl 3 ze26 zo26) <| zT (oSt sh26) <| zZ) ?_
  refine pwp_seq <| kx [(6, (.ref 4 0))] [(4, some (bx (encR (ofQ q))))] (zR (oLa sh26) <| zE (oCl (g_value y q hy)) <| zN (oAl 4 ze26 zo26) <| zT (oSt sh26) <| zZ) ?_
  refine pwp_seq <| kd [] [(2, some (bx (encR (ofQ (Rat.divInt (p.num * q.num) ((p.den : Int) * (q.den : Int)))))))] mo (wE (oFr fo26_0) <| wR (oLa sh24) <| wE (oFr fo26_0) <| wR (oLa sh24) <| wE (oCl (rs_mul (qok_num hx.ql) (qok_num hy.ql) (by decide) (by decide))) <| wE (oFr fo26_1) <| wR (oLa sh24) <| wE (oFr fo26_1) <| wR (oLa sh24) <| wE (oCl (rs_mul (qok_den hx.ql) (qok_den hy.ql) (by decide) (by decide))) <| wE (oCl (g_reduced (ofZ (p.num * q.num)) (ofZ ((p.den : Int) * (q.den : Int))) (p.num * q.num) ((p.den : Int) * (q.den : Int)) (iok_up (iok_mul (k := 34359738368) (qok_num hx.ql) (qok_num hy.ql) (by decide)) (by decide)) (iok_up (iok_mul (k := 34359738368) (qok_den hx.ql) (qok_den hy.ql) (by decide)) (by decide)) (mul_ne (den_ne _) (den_ne _)))) <| wT (oSt sh26) <| wZ) ?_
  refine pwp_ret ⟨_, (res_a (cs := (bx (encR (ofQ (Rat.divInt (p.num * q.num) ((p.den : Int) * (q.den : Int))))))) (d := (encR (ofQ (Rat.divInt (p.num * q.num) ((p.den : Int) * (q.den : Int)))))) rfl rfl sh26 rfl rfl .nil), ?_⟩
  rw [mul_divInt]; rfl
theorem g_compare (x : RRat) (y : RRat) (p : Rat) (q : Rat) (hx : QOk x p 4294967296) (hy : QOk y q 4294967296) : Takes Tryz.prog 42 [(encR x), (encR y)] (.val (.int .i64 ((cmpQ p q)))) := by
  refine fn_intro Tryz.func42 rfl cb42 rfl ?_
  show PWp _ _ _ _ ⟨[(0, (.d (encR x))), (1, (.d (encR y)))], []⟩
  refine pwp_seq <| kx [(2, (.ref 0 0)), (3, (.ref 1 0))] [(0, some (bx (encR x))), (1, some (bx (encR y)))] (zN (oBx 0) <| zN (oBx 1) <| zM <| zZ) ?_
  refine pwp_seq <| kx [(4, (vi (signQ (p - q))))] [] (zR (oLa sh26) <| zR (oLa sh26) <| zE (oCl (g_sub x y p q (qok_up hx (by decide)) (qok_up hy (by decide)))) <| zE (oCl (g_sign (ofQ (p - q)) (p - q) (qok_up (qok_of (ql_sub (k := 8589934593) hx.ql hy.ql (by decide))) (by decide)))) <| zM <| zZ) ?_
  refine pwp_ret ⟨_, (.tmp (d := (.val (.int .i64 ((signQ (p - q)))))) rfl .nil), ?_⟩
  rw [← signQ_sub]; rfl
end Go.Proofs.YtiooafhcpkdhcaaGreatDoor
namespace Go.Proofs.YtiooafhcpkdhcaaGreatDoor
open Go.Fid
set_option maxRecDepth 4000
set_option linter.unusedVariables false
set_option linter.unusedSimpArgs false
theorem cb36 : callB Tryz.prog 36 = true := by kernel_rfl
theorem cb38 : callB Tryz.prog 38 = true := by kernel_rfl
theorem cb122 : callB Tryz.prog 122 = true := by kernel_rfl
theorem fo28_0 : fieldB Tryz.prog 28 0 = some 0 := by kernel_rfl
theorem fo28_1 : fieldB Tryz.prog 28 1 = some 4 := by kernel_rfl
theorem g_same (x : RRat) (y : RRat) (p : Rat) (q : Rat) (hx : QOk x p 4294967296) (hy : QOk y q 4294967296) : Takes Tryz.prog 36 [(encR x), (encR y)] (.val (.bool ((sameR x y)))) := by
  refine fn_intro Tryz.func36 rfl cb36 rfl ?_
  show PWp _ _ _ _ ⟨[(0, (.d (encR x))), (1, (.d (encR y)))], []⟩
  refine pwp_seq <| kx [(2, (.ref 0 0)), (3, (.ref 1 0))] [(0, some (bx (encR x))), (1, some (bx (encR y)))] (zN (oBx 0) <| zN (oBx 1) <| zM <| zZ) ?_
  refine pwp_seq <| kx [(4, (vb (((validR x) && (validR y)) && ((cmpQ p q) == 0))))] [] ?_ ?_
  · refine zR (oLa sh26) <| zE (oCl (g_valid x p (qok_up hx (by decide)))) <| zE (oV (vb (validR x)) (mv_ok (by kernel_rfl))) <| ?_
    rcases hb1 : (validR x) with _ | _
    · exact zK <| zK <| zE oPf <| zM <| zK <| zK <| zK <| zK <| zE oPf <| zM <| zZ
    · refine zR (oLa sh26) <| zE (oCl (g_valid y q (qok_up hy (by decide)))) <| zE oPa <| zE (oV (vb (true && (validR y))) (mv_ok (by kernel_rfl))) <| ?_
      rcases hb2 : (true && (validR y)) with _ | _
      · exact zK <| zK <| zK <| zK <| zE oPf <| zM <| zZ
      · exact zR (oLa sh26) <| zR (oLa sh26) <| zE (oCl (g_compare x y p q hx hy)) <| zE oEq <| zE oPa <| zM <| zZ
  refine pwp_ret ⟨_, (.tmp (d := (.val (.bool ((((validR x) && (validR y)) && ((cmpQ p q) == 0)))))) rfl .nil), ?_⟩
  unfold sameR
  rw [← sameR_eq, hx.v, hy.v]; rfl
theorem g_digits (x : RRat) (p : Rat) (hx : QOk x p 140737488355328) : Takes Tryz.prog 38 [(encR x)] (.val (.int .i64 ((((digR x) : Nat) : Int)))) := by
  have h1 := hx.n1
  have h2 := hx.n2
  refine fn_intro Tryz.func38 rfl cb38 rfl ?_
  show PWp _ _ _ _ ⟨[(0, (.d (encR x)))], []⟩
  refine pwp_seq <| kx [(1, (.ref 0 0))] [(0, some (bx (encR x)))] (zN (oBx 0) <| zM <| zZ) ?_
  refine pwp_seq <| kx [(2, (vin (x.num.gs.length + x.den.gs.length)))] [] (zE (oFr fo26_0) <| zE (oFr fo24_1) <| zR (oL1 sh22) <| zE (oLm el22) <| zE (oFr fo26_1) <| zE (oFr fo24_1) <| zR (oL1 sh22) <| zE (oLm el22) <| zE (oAd (x.num.gs.length + x.den.gs.length)) <| zM <| zZ) ?_
  refine pwp_ret ⟨_, (.tmp (d := (.val (.int .i64 ((((x.num.gs.length + x.den.gs.length) : Nat) : Int))))) rfl .nil), ?_⟩
  rfl
theorem g_samerange (a b : RRng) (ha : GOk 4294967296 a) (hb : GOk 4294967296 b) : Takes Tryz.prog 122 [(encG a), (encG b)] (.val (.bool ((sameR a.lo b.lo && sameR a.hi b.hi)))) := by
  refine fn_intro Tryz.func122 rfl cb122 rfl ?_
  show PWp _ _ _ _ ⟨[(0, (.d (encG a))), (1, (.d (encG b)))], []⟩
  refine pwp_seq <| kx [(2, (.ref 0 0)), (3, (.ref 1 0))] [(0, some (bx (encG a))), (1, some (bx (encG b)))] (zN (oBx 0) <| zN (oBx 1) <| zM <| zZ) ?_
  refine pwp_seq <| kx [(4, (vb ((sameR a.lo b.lo) && (sameR a.hi b.hi))))] [] ?_ ?_
  · refine zE (oFr fo28_0) <| zR (oLa sh26) <| zE (oFr fo28_0) <| zR (oLa sh26) <| zE (oCl (g_same a.lo b.lo (toQ a.lo) (toQ b.lo) ha.1 hb.1)) <| zE (oV (vb (sameR a.lo b.lo)) (mv_ok (by kernel_rfl))) <| ?_
    rcases hb1 : (sameR a.lo b.lo) with _ | _
    · exact zK <| zK <| zK <| zK <| zK <| zE oPf <| zM <| zZ
    · exact zE (oFr fo28_1) <| zR (oLa sh26) <| zE (oFr fo28_1) <| zR (oLa sh26) <| zE (oCl (g_same a.hi b.hi (toQ a.hi) (toQ b.hi) ha.2 hb.2)) <| zE oPa <| zM <| zZ
  refine pwp_ret ⟨_, (.tmp (d := (.val (.bool (((sameR a.lo b.lo) && (sameR a.hi b.hi)))))) rfl .nil), ?_⟩
  rfl
end Go.Proofs.YtiooafhcpkdhcaaGreatDoor
