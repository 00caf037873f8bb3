/- Part 8 of a proof: rules, plain facts, and functions walked. -/
import Derived.Test.YtbecgnplakngdaaGreatM7
import Derived.Test.YtbecgnplakngdaaGreatM4
import Derived.Test.YtbecgnplakngdaaGreatM5
namespace Go.Proofs.YtbecgnplakngdaaGreat
open Go.Fid
set_option maxRecDepth 4000
set_option linter.unusedVariables false
set_option linter.unusedSimpArgs false
theorem cb97 : callB Tryz.prog 97 = true := by kernel_rfl
theorem cb102 : callB Tryz.prog 102 = true := by kernel_rfl
theorem cb104 : callB Tryz.prog 104 = true := by kernel_rfl
theorem cb105 : callB Tryz.prog 105 = true := by kernel_rfl
theorem cb121 : callB Tryz.prog 121 = true := by kernel_rfl
theorem cb130 : callB Tryz.prog 130 = true := by kernel_rfl
theorem cb137 : callB Tryz.prog 137 = true := by kernel_rfl
theorem cb139 : callB Tryz.prog 139 = true := by kernel_rfl
theorem cb146 : callB Tryz.prog 146 = true := by kernel_rfl
theorem cb170 : callB Tryz.prog 170 = true := by kernel_rfl
theorem cb176 : callB Tryz.prog 176 = true := by kernel_rfl
theorem fo42_0 : fieldB Tryz.prog 42 0 = some 0 := by kernel_rfl
theorem fo42_1 : fieldB Tryz.prog 42 1 = some 2 := by kernel_rfl
theorem ft42_0 : fieldT Tryz.prog 42 0 = some (0, 40) := by kernel_rfl
theorem pl42 : placesB Tryz.prog 42 = some [(0, 2), (2, 2)] := by kernel_rfl
theorem sh42 : shapeB Tryz.prog 42 = some (true, 4) := by kernel_rfl
theorem ze42 : zeroB Tryz.prog 42 = some [.bool false, .slice none 0 0, .bool false, .slice none 0 0] := by kernel_rfl
theorem zo42 : ZOk [.bool false, .slice none 0 0, .bool false, .slice none 0 0] [.val (.bool false), .sl 152 1 [], .val (.bool false), .sl 152 1 []] := by simp [ZOk, Value.oneCell']
theorem f_reduced (num den : RInt) (a b : Int) (hnum : IOk num a 68719476736) (hden : IOk den b 68719476736) (hb : b ≠ 0) : Takes Tryz.prog 139 [(encI num), (encI den)] (encR (ofQ (Rat.divInt a b))) := by
  refine fn_intro Tryz.func139 rfl cb139 rfl ?_
  show PWp _ _ _ _ ⟨[(0, (.d (encI num))), (1, (.d (encI den)))], []⟩
  refine pwp_seq <| kx [(2, (.ref 0 0)), (3, (.ref 1 0)), (4, (.ref 2 0))] [(0, some (bx (encI num))), (1, some (bx (encI den))), (2, some (bx (encR (RRat.mk (RInt.mk false []) (RInt.mk false [])))))] (zN (oBx 0) <| zN (oBx 1) <| zN (oAl 2 ze42 zo42) <| zZ) ?_
  refine pwp_seq <| pwp_seq <| kx [(8, (vb (decide ((signI b) < 0))))] [] (zR (oLa sh40) <| zE (oCl (s_sign hden (by decide))) <| zE oLt <| zZ) ?_
  refine pwp_cond (b := decide ((signI b) < 0)) rfl (fun h1 => ?_) (fun h1 => ?_)
  · replace h1 := of_decide_eq_true h1
    have hlt := signI_lt.1 h1
    have hb2 : -b ≠ 0 := by omega
    refine kd [] [(0, some (bx (encI (ofZ (-a))))), (1, some (bx (encI (ofZ (-b)))))] mo (wR (oLa sh40) <| wE (oCl (s_neg hnum (by decide))) <| wR (oLa sh40) <| wE (oCl (s_neg hden (by decide))) <| wT (oSt sh40) <| wT (oSt sh40) <| wZ) ?_
    refine pwp_seq <| kx [(5, (.ref 3 0))] [(3, some (bx (encI (ofZ ((Int.gcd (-a) (-b) : Nat) : Int)))))] (zR (oLa sh40) <| zR (oLa sh40) <| zE (oCl (s_gcd (iok_neg hnum) (iok_neg hden) (by decide) (by decide))) <| zN (oAl 3 ze40 zo40) <| zT (oSt sh40) <| zZ) ?_
    refine pwp_seq <| kx [] [(0, some (bx (encI (ofZ ((-a).fdiv (((Int.gcd (-a) (-b) : Nat) : Int)))))))] (zR (oLa sh40) <| zR (oLa sh40) <| zE (oCl (s_divide (iok_neg hnum) (iok_gcd (k := 68719476736) (iok_neg hnum) (iok_neg hden) (by decide)) (by decide) (by decide) (gcd_ne (by omega)))) <| zM <| zE oEx <| zE oEx <| zE oEx <| zT (oSt sh40) <| zZ) ?_
    refine pwp_seq <| kx [] [(1, some (bx (encI (ofZ ((-b).fdiv (((Int.gcd (-a) (-b) : Nat) : Int)))))))] (zR (oLa sh40) <| zR (oLa sh40) <| zE (oCl (s_divide (iok_neg hden) (iok_gcd (k := 68719476736) (iok_neg hnum) (iok_neg hden) (by decide)) (by decide) (by decide) (gcd_ne (by omega)))) <| zM <| zE oEx <| zE oEx <| zE oEx <| zT (oSt sh40) <| zZ) ?_
    refine pwp_seq <| kx [] [(2, some (bx (encR (RRat.mk (ofZ ((-a).fdiv (((Int.gcd (-a) (-b) : Nat) : Int)))) (ofZ ((-b).fdiv (((Int.gcd (-a) (-b) : Nat) : Int))))))))] (zR (oLa sh40) <| zR (oLa sh40) <| zE (oBd pl42 ze42 zo42) <| zT (oSt sh42) <| zZ) ?_
    refine pwp_ret ⟨_, (res_a (cs := (bx (encR (RRat.mk (ofZ ((-a).fdiv (((Int.gcd (-a) (-b) : Nat) : Int)))) (ofZ ((-b).fdiv (((Int.gcd (-a) (-b) : Nat) : Int)))))))) (d := (encR (RRat.mk (ofZ ((-a).fdiv (((Int.gcd (-a) (-b) : Nat) : Int)))) (ofZ ((-b).fdiv (((Int.gcd (-a) (-b) : Nat) : Int))))))) rfl rfl sh42 rfl rfl .nil), ?_⟩
    rw [red_neg hlt]; rfl
  · replace h1 := of_decide_eq_false h1
    have hge : ¬ b < 0 := fun hh => h1 (signI_lt.2 hh)
    refine pwp_skip <| pwp_seq <| kx [(5, (.ref 4 0))] [(4, some (bx (encI (ofZ ((Int.gcd a b : Nat) : Int)))))] (zR (oLa sh40) <| zR (oLa sh40) <| zE (oCl (s_gcd hnum hden (by decide) (by decide))) <| zN (oAl 4 ze40 zo40) <| zT (oSt sh40) <| zZ) ?_
    refine pwp_seq <| kx [] [(0, some (bx (encI (ofZ (a.fdiv (((Int.gcd a b : Nat) : Int)))))))] (zR (oLa sh40) <| zR (oLa sh40) <| zE (oCl (s_divide hnum (iok_gcd (k := 68719476736) hnum hden (by decide)) (by decide) (by decide) (gcd_ne (by omega)))) <| zM <| zE oEx <| zE oEx <| zE oEx <| zT (oSt sh40) <| zZ) ?_
    refine pwp_seq <| kx [] [(1, some (bx (encI (ofZ (b.fdiv (((Int.gcd a b : Nat) : Int)))))))] (zR (oLa sh40) <| zR (oLa sh40) <| zE (oCl (s_divide hden (iok_gcd (k := 68719476736) hnum hden (by decide)) (by decide) (by decide) (gcd_ne (by omega)))) <| zM <| zE oEx <| zE oEx <| zE oEx <| zT (oSt sh40) <| zZ) ?_
    refine pwp_seq <| kx [] [(2, some (bx (encR (RRat.mk (ofZ (a.fdiv (((Int.gcd a b : Nat) : Int)))) (ofZ (b.fdiv (((Int.gcd a b : Nat) : Int))))))))] (zR (oLa sh40) <| zR (oLa sh40) <| zE (oBd pl42 ze42 zo42) <| zT (oSt sh42) <| zZ) ?_
    refine pwp_ret ⟨_, (res_a (cs := (bx (encR (RRat.mk (ofZ (a.fdiv (((Int.gcd a b : Nat) : Int)))) (ofZ (b.fdiv (((Int.gcd a b : Nat) : Int)))))))) (d := (encR (RRat.mk (ofZ (a.fdiv (((Int.gcd a b : Nat) : Int)))) (ofZ (b.fdiv (((Int.gcd a b : Nat) : Int))))))) rfl rfl sh42 rfl rfl .nil), ?_⟩
    rw [red_pos hge hb]; rfl
theorem f_whole (n : Int) (hlo : -9223372036854775808 ≤ n) (hhi : n ≤ 9223372036854775807) : Takes Tryz.prog 102 [(.val (.int .i64 (n)))] (encR (ofQ ((n : Int) : Rat))) := by
  refine fn_intro Tryz.func102 rfl cb102 rfl ?_
  show PWp _ _ _ _ ⟨[(0, (vi n))], []⟩
  refine pwp_seq <| kx [(2, (.ref 0 0))] [(0, some (bx (encR (RRat.mk (RInt.mk false []) (RInt.mk false [])))))] (zN (oAl 0 ze42 zo42) <| zZ) ?_
  refine pwp_seq <| kx [] [(0, some (bx (encR (RRat.mk (ofZ n) (ofZ 1)))))] (zM <| zE (oCl (t_of n (by omega) (by omega))) <| zE (oCl (t_of 1 (by decide) (by decide))) <| zE (oBd pl42 ze42 zo42) <| zT (oSt sh42) <| zZ) ?_
  refine pwp_ret ⟨_, (res_a (cs := (bx (encR (RRat.mk (ofZ n) (ofZ 1))))) (d := (encR (RRat.mk (ofZ n) (ofZ 1)))) rfl rfl sh42 rfl rfl .nil), ?_⟩
  rfl
theorem f_valid (x : RRat) (p : Rat) (hx : QOk x p 17179869184) : Takes Tryz.prog 104 [(encR x)] (.val (.bool ((validR x)))) := by
  refine fn_intro Tryz.func104 rfl cb104 rfl ?_
  show PWp _ _ _ _ ⟨[(0, (.d (encR x)))], []⟩
  refine pwp_seq <| kx [(1, (.ref 0 0))] [(0, some (bx (encR x)))] (zN (oBx 0) <| zM <| zZ) ?_
  refine pwp_seq <| pwp_seq <| kx [(18, (vb ((!(validI x.num) || !(validI x.den)) || decide ((signI (toZ x.den)) ≤ 0))))] [] ?_ ?_
  · refine zE (oFr fo42_0) <| zR (oLa sh40) <| zE (oCl (t_valid x.num (Nat.le_trans (iok_raw hx.n1).l (by decide)))) <| zE oNt <| zE (oV (vb (!(validI x.num))) (mv_ok (by kernel_rfl))) <| ?_
    rcases hb1 : (!(validI x.num)) with _ | _
    · refine zE (oFr fo42_1) <| zR (oLa sh40) <| zE (oCl (t_valid x.den (Nat.le_trans (iok_raw hx.n2).l (by decide)))) <| zE oNt <| zE oPo <| zE (oV (vb (false || !(validI x.den))) (mv_ok (by kernel_rfl))) <| ?_
      rcases hb2 : (false || !(validI x.den)) with _ | _
      · exact zE (oFr fo42_1) <| zR (oLa sh40) <| zE (oCl (s_sign (iok_raw hx.n2) (by decide))) <| zE oLe <| zE oPo <| zZ
      · exact zK <| zK <| zK <| zK <| zE oPt <| zZ
    · exact zK <| zK <| zK <| zK <| zE oPt <| zM <| zK <| zK <| zK <| zK <| zE oPt <| zZ
  refine pwp_cond rfl (fun h3 => ?_) (fun h3 => ?_)
  · refine pwp_seq <| kx [(2, (vb false))] [] (zM <| zZ) ?_
    refine pwp_ret ⟨_, (.tmp (d := (.val (.bool (false)))) rfl .nil), ?_⟩
    rw [validR_no h3]; rfl
  · refine pwp_skip <| pwp_seq <| kx [(2, (vb ((cmpI (((Int.gcd (toZ x.num) (toZ x.den) : Nat) : Int)) 1) == 0)))] [] (zE (oFr fo42_0) <| zR (oLa sh40) <| zE (oFr fo42_1) <| zR (oLa sh40) <| zE (oCl (s_gcd (iok_raw hx.n1) (iok_raw hx.n2) (by decide) (by decide))) <| zE (oCl (t_of 1 (by decide) (by decide))) <| zE (oCl (s_compare (iok_gcd (k := 17179869184) (iok_raw hx.n1) (iok_raw hx.n2) (by decide)) (iok_small (z := 1) (by decide)) (by decide) (by decide))) <| zE oEq <| zM <| zZ) ?_
    refine pwp_ret ⟨_, (.tmp (d := (.val (.bool (((cmpI (((Int.gcd (toZ x.num) (toZ x.den) : Nat) : Int)) 1) == 0))))) rfl .nil), ?_⟩
    rw [validR_yes h3]; rfl
theorem f_copied (x : RRat) (p : Rat) (hx : QOk x p 17179869184) : Takes Tryz.prog 176 [(encR x)] (encR (RRat.mk (ofZ (-(-toZ x.num))) (ofZ (-(-toZ x.den))))) := by
  refine fn_intro Tryz.func176 rfl cb176 rfl ?_
  show PWp _ _ _ _ ⟨[(0, (.d (encR x)))], []⟩
  refine pwp_seq <| kx [(1, (.ref 0 0)), (2, (.ref 1 0))] [(0, some (bx (encR x))), (1, some (bx (encR (RRat.mk (RInt.mk false []) (RInt.mk false [])))))] (zN (oBx 0) <| zN (oAl 1 ze42 zo42) <| zZ) ?_
  refine pwp_seq <| kd [] [(1, some (bx (encR (RRat.mk (ofZ (-(-(toZ x.num)))) (ofZ (-(-(toZ x.den))))))))] mo (wE (oFr fo42_0) <| wR (oLa sh40) <| wE (oCl (s_neg (iok_raw hx.n1) (by decide))) <| wE (oCl (s_neg (iok_neg (iok_raw hx.n1)) (by decide))) <| wE (oFr fo42_1) <| wR (oLa sh40) <| wE (oCl (s_neg (iok_raw hx.n2) (by decide))) <| wE (oCl (s_neg (iok_neg (iok_raw hx.n2)) (by decide))) <| wE (oBd pl42 ze42 zo42) <| wT (oSt sh42) <| wZ) ?_
  refine pwp_ret ⟨_, (res_a (cs := (bx (encR (RRat.mk (ofZ (-(-(toZ x.num)))) (ofZ (-(-(toZ x.den)))))))) (d := (encR (RRat.mk (ofZ (-(-(toZ x.num)))) (ofZ (-(-(toZ x.den))))))) rfl rfl sh42 rfl rfl .nil), ?_⟩
  rfl
theorem f_value (x : RRat) (p : Rat) (hx : QOk x p 17179869184) : Takes Tryz.prog 137 [(encR x)] (encR (ofQ p)) := by
  refine fn_intro Tryz.func137 rfl cb137 rfl ?_
  show PWp _ _ _ _ ⟨[(0, (.d (encR x)))], []⟩
  refine pwp_seq <| kx [(1, (.ref 0 0)), (2, (.ref 1 0))] [(0, some (bx (encR x))), (1, some (bx (encR (RRat.mk (RInt.mk false []) (RInt.mk false [])))))] (zN (oBx 0) <| zN (oAl 1 ze42 zo42) <| zZ) ?_
  refine pwp_seq <| pwp_seq <| kx [(4, (vb (validR x)))] [] (zR (oLa sh42) <| zE (oCl (f_valid x p hx)) <| zZ) ?_
  refine pwp_cond (b := (validR x)) rfl (fun h1 => ?_) (fun h1 => ?_)
  · refine pwp_seq <| kx [] [(1, some (bx (encR (RRat.mk (ofZ (-(-toZ x.num))) (ofZ (-(-toZ x.den)))))))] (zR (oLa sh42) <| zE (oCl (f_copied x p hx)) <| zT (oSt sh42) <| zZ) ?_
    refine pwp_ret ⟨_, (res_a (cs := (bx (encR (RRat.mk (ofZ (-(-toZ x.num))) (ofZ (-(-toZ x.den))))))) (d := (encR (RRat.mk (ofZ (-(-toZ x.num))) (ofZ (-(-toZ x.den)))))) rfl rfl sh42 rfl rfl .nil), ?_⟩
    rw [← hx.v, ← copied_eq h1]; rfl
  · refine pwp_skip <| pwp_seq <| kx [] [(1, some (bx (encR (ofQ ((0 : Int) : Rat)))))] (zE (oCl (f_whole 0 (by decide) (by decide))) <| zT (oSt sh42) <| zZ) ?_
    refine pwp_ret ⟨_, (res_a (cs := (bx (encR (ofQ ((0 : Int) : Rat))))) (d := (encR (ofQ ((0 : Int) : Rat)))) rfl rfl sh42 rfl rfl .nil), ?_⟩
    rw [← hx.v, toQ_bad h1]; rfl
theorem f_sign (x : RRat) (p : Rat) (hx : QOk x p 17179869184) : Takes Tryz.prog 105 [(encR x)] (.val (.int .i64 ((signQ p)))) := by
  refine fn_intro Tryz.func105 rfl cb105 rfl ?_
  show PWp _ _ _ _ ⟨[(0, (.d (encR x)))], []⟩
  refine pwp_seq <| kx [(1, (.ref 0 0))] [(0, some (bx (encR x)))] (zN (oBx 0) <| zM <| zZ) ?_
  refine pwp_seq <| kx [(2, (vi (signI p.num)))] [] (zR (oLa sh42) <| zE (oCl (f_value x p hx)) <| zE (oFv ft42_0 sh40) <| zE (oCl (s_sign (qok_num hx.ql) (by decide))) <| zM <| zZ) ?_
  refine pwp_ret ⟨_, (.tmp (d := (.val (.int .i64 ((signI p.num))))) rfl .nil), ?_⟩
  rfl
theorem f_neg (x : RRat) (p : Rat) (hx : QOk x p 17179869184) : Takes Tryz.prog 170 [(encR x)] (encR (ofQ (-p))) := by
  refine fn_intro Tryz.func170 rfl cb170 rfl ?_
  show PWp _ _ _ _ ⟨[(0, (.d (encR x)))], []⟩
  refine pwp_seq <| kx [(1, (.ref 0 0)), (2, (.ref 1 0))] [(0, some (bx (encR x))), (1, some (bx (encR (RRat.mk (RInt.mk false []) (RInt.mk false [])))))] (zN (oBx 0) <| zN (oAl 1 ze42 zo42) <| zZ) ?_
  refine pwp_seq <| kx [] [(0, some (bx (encR (ofQ p))))] (zR (oLa sh42) <| zE (oCl (f_value x p hx)) <| zT (oSt sh42) <| zZ) ?_
  refine pwp_seq <| kd [] [(1, some (bx (encR (RRat.mk (ofZ (-p.num)) ((ofQ p).den)))))] mo (wE (oFr fo42_0) <| wR (oLa sh40) <| wE (oCl (s_neg (qok_num hx.ql) (by decide))) <| wE (oFr fo42_1) <| wR (oLa sh40) <| wE (oBd pl42 ze42 zo42) <| wT (oSt sh42) <| wZ) ?_
  refine pwp_ret ⟨_, (res_a (cs := (bx (encR (RRat.mk (ofZ (-p.num)) ((ofQ p).den))))) (d := (encR (RRat.mk (ofZ (-p.num)) ((ofQ p).den)))) rfl rfl sh42 rfl rfl .nil), ?_⟩
  rfl
theorem f_add (x : RRat) (y : RRat) (p : Rat) (q : Rat) (hx : QOk x p 17179869184) (hy : QOk y q 17179869184) : Takes Tryz.prog 146 [(encR x), (encR y)] (encR (ofQ (p + q))) := by
  refine fn_intro Tryz.func146 rfl cb146 rfl ?_
  show PWp _ _ _ _ ⟨[(0, (.d (encR x))), (1, (.d (encR y)))], []⟩
  refine pwp_seq <| kx [(2, (.ref 0 0)), (3, (.ref 1 0)), (4, (.ref 2 0))] [(0, some (bx (encR x))), (1, some (bx (encR y))), (2, some (bx (encR (RRat.mk (RInt.mk false []) (RInt.mk false [])))))] (zN (oBx 0) <| zN (oBx 1) <| zN (oAl 2 ze42 zo42) <| zZ) ?_
  refine pwp_seq <| kd [] [(0, some (bx (encR (ofQ p)))), (1, some (bx (encR (ofQ q))))] mo (wR (oLa sh42) <| wE (oCl (f_value x p hx)) <| wR (oLa sh42) <| wE (oCl (f_value y q hy)) <| wT (oSt sh42) <| wT (oSt sh42) <| wZ) ?_
  refine pwp_seq <| kd [] [(2, some (bx (encR (ofQ (Rat.divInt ((p.num * (q.den : Int)) + (q.num * (p.den : Int))) ((p.den : Int) * (q.den : Int)))))))] mo (wE (oFr fo42_0) <| wR (oLa sh40) <| wE (oFr fo42_1) <| wR (oLa sh40) <| wE (oCl (s_mul (qok_num hx.ql) (qok_den hy.ql) (by decide) (by decide))) <| wE (oFr fo42_0) <| wR (oLa sh40) <| wE (oFr fo42_1) <| wR (oLa sh40) <| wE (oCl (s_mul (qok_num hy.ql) (qok_den hx.ql) (by decide) (by decide))) <| wE (oCl (s_add (iok_mul (k := 34359738368) (qok_num hx.ql) (qok_den hy.ql) (by decide)) (iok_mul (k := 34359738368) (qok_num hy.ql) (qok_den hx.ql) (by decide)) (by decide) (by decide))) <| wE (oFr fo42_1) <| wR (oLa sh40) <| wE (oFr fo42_1) <| wR (oLa sh40) <| wE (oCl (s_mul (qok_den hx.ql) (qok_den hy.ql) (by decide) (by decide))) <| wE (oCl (f_reduced (ofZ ((p.num * (q.den : Int)) + (q.num * (p.den : Int)))) (ofZ ((p.den : Int) * (q.den : Int))) ((p.num * (q.den : Int)) + (q.num * (p.den : Int))) ((p.den : Int) * (q.den : Int)) (iok_up (iok_add (k := 34359738369) (iok_mul (k := 34359738368) (qok_num hx.ql) (qok_den hy.ql) (by decide)) (iok_mul (k := 34359738368) (qok_num hy.ql) (qok_den hx.ql) (by decide)) (by decide)) (by decide)) (iok_up (iok_mul (k := 34359738368) (qok_den hx.ql) (qok_den hy.ql) (by decide)) (by decide)) (mul_ne (den_ne _) (den_ne _)))) <| wT (oSt sh42) <| wZ) ?_
  refine pwp_ret ⟨_, (res_a (cs := (bx (encR (ofQ (Rat.divInt ((p.num * (q.den : Int)) + (q.num * (p.den : Int))) ((p.den : Int) * (q.den : Int))))))) (d := (encR (ofQ (Rat.divInt ((p.num * (q.den : Int)) + (q.num * (p.den : Int))) ((p.den : Int) * (q.den : Int)))))) rfl rfl sh42 rfl rfl .nil), ?_⟩
  rw [add_divInt]; rfl
theorem f_sub (x : RRat) (y : RRat) (p : Rat) (q : Rat) (hx : QOk x p 17179869184) (hy : QOk y q 17179869184) : Takes Tryz.prog 130 [(encR x), (encR y)] (encR (ofQ (p - q))) := by
  refine fn_intro Tryz.func130 rfl cb130 rfl ?_
  show PWp _ _ _ _ ⟨[(0, (.d (encR x))), (1, (.d (encR y)))], []⟩
  refine pwp_seq <| kx [(2, (.ref 0 0)), (3, (.ref 1 0)), (4, (.ref 2 0))] [(0, some (bx (encR x))), (1, some (bx (encR y))), (2, some (bx (encR (RRat.mk (RInt.mk false []) (RInt.mk false [])))))] (zN (oBx 0) <| zN (oBx 1) <| zN (oAl 2 ze42 zo42) <| zZ) ?_
  refine pwp_seq <| kd [] [(2, some (bx (encR (ofQ (p + (-q))))))] mo (wR (oLa sh42) <| wR (oLa sh42) <| wE (oCl (f_neg y q hy)) <| wE (oCl (f_add x (ofQ (-q)) p (-q) hx (qok_of (ql_neg hy.ql)))) <| wT (oSt sh42) <| wZ) ?_
  refine pwp_ret ⟨_, (res_a (cs := (bx (encR (ofQ (p + (-q)))))) (d := (encR (ofQ (p + (-q))))) rfl rfl sh42 rfl rfl .nil), ?_⟩
  rw [Rat.sub_eq_add_neg]; rfl
theorem f_mul (x : RRat) (y : RRat) (p : Rat) (q : Rat) (hx : QOk x p 17179869184) (hy : QOk y q 17179869184) : Takes Tryz.prog 121 [(encR x), (encR y)] (encR (ofQ (p * q))) := by
  refine fn_intro Tryz.func121 rfl cb121 rfl ?_
  show PWp _ _ _ _ ⟨[(0, (.d (encR x))), (1, (.d (encR y)))], []⟩
  refine pwp_seq <| kx [(2, (.ref 0 0)), (3, (.ref 1 0)), (4, (.ref 2 0))] [(0, some (bx (encR x))), (1, some (bx (encR y))), (2, some (bx (encR (RRat.mk (RInt.mk false []) (RInt.mk false [])))))] (zN (oBx 0) <| zN (oBx 1) <| zN (oAl 2 ze42 zo42) <| zZ) ?_
  refine pwp_seq <| kd [] [(0, some (bx (encR (ofQ p)))), (1, some (bx (encR (ofQ q))))] mo (wR (oLa sh42) <| wE (oCl (f_value x p hx)) <| wR (oLa sh42) <| wE (oCl (f_value y q hy)) <| wT (oSt sh42) <| wT (oSt sh42) <| wZ) ?_
  refine pwp_seq <| kd [] [(2, some (bx (encR (ofQ (Rat.divInt (p.num * q.num) ((p.den : Int) * (q.den : Int)))))))] mo (wE (oFr fo42_0) <| wR (oLa sh40) <| wE (oFr fo42_0) <| wR (oLa sh40) <| wE (oCl (s_mul (qok_num hx.ql) (qok_num hy.ql) (by decide) (by decide))) <| wE (oFr fo42_1) <| wR (oLa sh40) <| wE (oFr fo42_1) <| wR (oLa sh40) <| wE (oCl (s_mul (qok_den hx.ql) (qok_den hy.ql) (by decide) (by decide))) <| wE (oCl (f_reduced (ofZ (p.num * q.num)) (ofZ ((p.den : Int) * (q.den : Int))) (p.num * q.num) ((p.den : Int) * (q.den : Int)) (iok_up (iok_mul (k := 34359738368) (qok_num hx.ql) (qok_num hy.ql) (by decide)) (by decide)) (iok_up (iok_mul (k := 34359738368) (qok_den hx.ql) (qok_den hy.ql) (by decide)) (by decide)) (mul_ne (den_ne _) (den_ne _)))) <| wT (oSt sh42) <| wZ) ?_
  refine pwp_ret ⟨_, (res_a (cs := (bx (encR (ofQ (Rat.divInt (p.num * q.num) ((p.den : Int) * (q.den : Int))))))) (d := (encR (ofQ (Rat.divInt (p.num * q.num) ((p.den : Int) * (q.den : Int)))))) rfl rfl sh42 rfl rfl .nil), ?_⟩
  rw [mul_divInt]; rfl
theorem f_divide (x : RRat) (y : RRat) (p : Rat) (q : Rat) (hx : QOk x p 17179869184) (hy : QOk y q 17179869184) : Takes Tryz.prog 97 [(encR x), (encR y)] (.tup [(encR (divR p q)), (.val (.int .i64 ((divC q))))]) := by
  refine fn_intro Tryz.func97 rfl cb97 rfl ?_
  show PWp _ _ _ _ ⟨[(0, (.d (encR x))), (1, (.d (encR y)))], []⟩
  refine pwp_seq <| kx [(2, (.ref 0 0)), (3, (.ref 1 0)), (4, (.ref 2 0))] [(0, some (bx (encR x))), (1, some (bx (encR y))), (2, some (bx (encR (RRat.mk (RInt.mk false []) (RInt.mk false [])))))] (zN (oBx 0) <| zN (oBx 1) <| zN (oAl 2 ze42 zo42) <| zM <| zZ) ?_
  refine pwp_seq <| kd [] [(0, some (bx (encR (ofQ p)))), (1, some (bx (encR (ofQ q))))] mo (wR (oLa sh42) <| wE (oCl (f_value x p hx)) <| wR (oLa sh42) <| wE (oCl (f_value y q hy)) <| wT (oSt sh42) <| wT (oSt sh42) <| wZ) ?_
  refine pwp_seq <| pwp_seq <| kx [(13, (vb ((signI q.num) == 0)))] [] (zE (oFr fo42_0) <| zR (oLa sh40) <| zE (oCl (s_sign (qok_num hy.ql) (by decide))) <| zE oEq <| zZ) ?_
  refine pwp_cond (b := ((signI q.num) == 0)) rfl (fun h1 => ?_) (fun h1 => ?_)
  · replace h1 := eq_of_beq h1
    have hq0 := signQ_zero.1 h1
    refine pwp_seq <| kx [(5, (vin 14))] [(2, some (bx (encR (RRat.mk (RInt.mk false []) (RInt.mk false [])))))] (zE (oBd pl42 ze42 zo42) <| zT (oSt sh42) <| zM <| zZ) ?_
    refine pwp_ret ⟨_, (res_a (cs := (bx (encR (RRat.mk (RInt.mk false []) (RInt.mk false []))))) (d := (encR (RRat.mk (RInt.mk false []) (RInt.mk false [])))) rfl rfl sh42 rfl rfl (.tmp (d := (.val (.int .i64 (14)))) rfl .nil)), ?_⟩
    rw [divR_zero hq0, divC_zero hq0]; rfl
  · replace h1 := ne_of_beq_false h1
    have hq0 : q ≠ 0 := fun hh => h1 (signQ_zero.2 hh)
    refine pwp_skip <| pwp_seq <| kd [(5, (vin 0))] [(2, some (bx (encR (ofQ (Rat.divInt (p.num * (q.den : Int)) ((p.den : Int) * q.num))))))] mo (wE (oFr fo42_0) <| wR (oLa sh40) <| wE (oFr fo42_1) <| wR (oLa sh40) <| wE (oCl (s_mul (qok_num hx.ql) (qok_den hy.ql) (by decide) (by decide))) <| wE (oFr fo42_1) <| wR (oLa sh40) <| wE (oFr fo42_0) <| wR (oLa sh40) <| wE (oCl (s_mul (qok_den hx.ql) (qok_num hy.ql) (by decide) (by decide))) <| wE (oCl (f_reduced (ofZ (p.num * (q.den : Int))) (ofZ ((p.den : Int) * q.num)) (p.num * (q.den : Int)) ((p.den : Int) * q.num) (iok_up (iok_mul (k := 34359738368) (qok_num hx.ql) (qok_den hy.ql) (by decide)) (by decide)) (iok_up (iok_mul (k := 34359738368) (qok_den hx.ql) (qok_num hy.ql) (by decide)) (by decide)) (mul_ne (den_ne _) (num_ne hq0)))) <| wT (oSt sh42) <| wM <| wZ) ?_
    refine pwp_ret ⟨_, (res_a (cs := (bx (encR (ofQ (Rat.divInt (p.num * (q.den : Int)) ((p.den : Int) * q.num)))))) (d := (encR (ofQ (Rat.divInt (p.num * (q.den : Int)) ((p.den : Int) * q.num))))) rfl rfl sh42 rfl rfl (.tmp (d := (.val (.int .i64 (0)))) rfl .nil)), ?_⟩
    rw [divR_ne hq0, divC_ne hq0, div_divInt]; rfl
end Go.Proofs.YtbecgnplakngdaaGreat
namespace Go.Proofs.YtbecgnplakngdaaGreat
open Go.Fid
set_option maxRecDepth 4000
set_option linter.unusedVariables false
set_option linter.unusedSimpArgs false
theorem cb17 : callB Tryz.prog 17 = true := by kernel_rfl
theorem cb21 : callB Tryz.prog 21 = true := by kernel_rfl
theorem cb26 : callB Tryz.prog 26 = true := by kernel_rfl
theorem cb32 : callB Tryz.prog 32 = true := by kernel_rfl
theorem cb43 : callB Tryz.prog 43 = true := by kernel_rfl
theorem cb57 : callB Tryz.prog 57 = true := by kernel_rfl
theorem cb64 : callB Tryz.prog 64 = true := by kernel_rfl
theorem cb65 : callB Tryz.prog 65 = true := by kernel_rfl
theorem cb85 : callB Tryz.prog 85 = true := by kernel_rfl
theorem cb88 : callB Tryz.prog 88 = true := by kernel_rfl
theorem cb89 : callB Tryz.prog 89 = true := by kernel_rfl
theorem cb91 : callB Tryz.prog 91 = true := by kernel_rfl
theorem cb93 : callB Tryz.prog 93 = true := by kernel_rfl
theorem g_reduced (num den : RInt) (a b : Int) (hnum : IOk num a 68719476736) (hden : IOk den b 68719476736) (hb : b ≠ 0) : Takes Tryz.prog 93 [(encI num), (encI den)] (encR (ofQ (Rat.divInt a b))) := by
  refine fn_intro Tryz.func93 rfl cb93 rfl ?_
  show PWp _ _ _ _ ⟨[(0, (.d (encI num))), (1, (.d (encI den)))], []⟩
  refine pwp_seq <| kx [(2, (.ref 0 0)), (3, (.ref 1 0)), (4, (.ref 2 0))] [(0, some (bx (encI num))), (1, some (bx (encI den))), (2, some (bx (encR (RRat.mk (RInt.mk false []) (RInt.mk false [])))))] (zN (oBx 0) <| zN (oBx 1) <| zN (oAl 2 ze42 zo42) <| zZ) ?_
  refine pwp_seq <| kx [(5, (.ref 3 0))] [(3, some (bx (encI (ofZ ((Int.gcd a b : Nat) : Int)))))] (zR (oLa sh40) <| zR (oLa sh40) <| zE (oCl (rs_gcd hnum hden (by decide) (by decide))) <| zN (oAl 3 ze40 zo40) <| zT (oSt sh40) <| zZ) ?_
  refine pwp_seq <| pwp_seq <| kx [(17, (vb (decide ((signI b) < 0))))] [] (zR (oLa sh40) <| zE (oCl (rs_sign hden (by decide))) <| zE oLt <| zZ) ?_
  refine pwp_cond (b := decide ((signI b) < 0)) rfl (fun h1 => ?_) (fun h1 => ?_)
  · replace h1 := of_decide_eq_true h1
    have hlt := signI_lt.1 h1
    refine kx [] [(3, some (bx (encI (ofZ (-(((Int.gcd a b : Nat) : Int)))))))] (zR (oLa sh40) <| zE (oCl (rs_neg (iok_gcd (k := 68719476736) hnum hden (by decide)) (by decide))) <| zT (oSt sh40) <| zZ) ?_
    refine pwp_seq <| kx [(6, (.ref 4 0))] [(4, some (bx (encI (ofZ (a.fdiv (-(((Int.gcd a b : Nat) : Int)))))))), (5, none)] (zR (oLa sh40) <| zR (oLa sh40) <| zE (oCl (rs_divide hnum (iok_neg (iok_gcd (k := 68719476736) hnum hden (by decide))) (by decide) (by decide) (by have := gcd_ne (a := a) hb; omega))) <| zM <| zE oEx <| zE oEx <| zE oEx <| zN (oAl 4 ze40 zo40) <| zN (oAl 5 ze40 zo40) <| zT (oSt sh40) <| zT (oSt sh40) <| zM <| zZ) ?_
    refine pwp_seq <| kx [(9, (.ref 6 0))] [(6, some (bx (encI (ofZ (b.fdiv (-(((Int.gcd a b : Nat) : Int)))))))), (7, none)] (zR (oLa sh40) <| zR (oLa sh40) <| zE (oCl (rs_divide hden (iok_neg (iok_gcd (k := 68719476736) hnum hden (by decide))) (by decide) (by decide) (by have := gcd_ne (a := a) hb; omega))) <| zM <| zE oEx <| zE oEx <| zE oEx <| zN (oAl 6 ze40 zo40) <| zN (oAl 7 ze40 zo40) <| zT (oSt sh40) <| zT (oSt sh40) <| zM <| zZ) ?_
    refine pwp_seq <| kx [] [(2, some (bx (encR (RRat.mk (ofZ (a.fdiv (-(((Int.gcd a b : Nat) : Int))))) (ofZ (b.fdiv (-(((Int.gcd a b : Nat) : Int)))))))))] (zR (oLa sh40) <| zR (oLa sh40) <| zE (oBd pl42 ze42 zo42) <| zT (oSt sh42) <| zZ) ?_
    refine pwp_ret ⟨_, (res_a (cs := (bx (encR (RRat.mk (ofZ (a.fdiv (-(((Int.gcd a b : Nat) : Int))))) (ofZ (b.fdiv (-(((Int.gcd a b : Nat) : Int))))))))) (d := (encR (RRat.mk (ofZ (a.fdiv (-(((Int.gcd a b : Nat) : Int))))) (ofZ (b.fdiv (-(((Int.gcd a b : Nat) : Int)))))))) rfl rfl sh42 rfl rfl .nil), ?_⟩
    rw [← red_neg2 hlt]; rfl
  · replace h1 := of_decide_eq_false h1
    have hge : ¬ b < 0 := fun hh => h1 (signI_lt.2 hh)
    refine pwp_skip <| pwp_seq <| kx [(6, (.ref 8 0))] [(8, some (bx (encI (ofZ (a.fdiv (((Int.gcd a b : Nat) : Int))))))), (9, none)] (zR (oLa sh40) <| zR (oLa sh40) <| zE (oCl (rs_divide hnum (iok_gcd (k := 68719476736) hnum hden (by decide)) (by decide) (by decide) (by have := gcd_ne (a := a) hb; omega))) <| zM <| zE oEx <| zE oEx <| zE oEx <| zN (oAl 8 ze40 zo40) <| zN (oAl 9 ze40 zo40) <| zT (oSt sh40) <| zT (oSt sh40) <| zM <| zZ) ?_
    refine pwp_seq <| kx [(9, (.ref 10 0))] [(10, some (bx (encI (ofZ (b.fdiv (((Int.gcd a b : Nat) : Int))))))), (11, none)] (zR (oLa sh40) <| zR (oLa sh40) <| zE (oCl (rs_divide hden (iok_gcd (k := 68719476736) hnum hden (by decide)) (by decide) (by decide) (by have := gcd_ne (a := a) hb; omega))) <| zM <| zE oEx <| zE oEx <| zE oEx <| zN (oAl 10 ze40 zo40) <| zN (oAl 11 ze40 zo40) <| zT (oSt sh40) <| zT (oSt sh40) <| zM <| zZ) ?_
    refine pwp_seq <| kx [] [(2, some (bx (encR (RRat.mk (ofZ (a.fdiv (((Int.gcd a b : Nat) : Int)))) (ofZ (b.fdiv (((Int.gcd a b : Nat) : Int))))))))] (zR (oLa sh40) <| zR (oLa sh40) <| zE (oBd pl42 ze42 zo42) <| zT (oSt sh42) <| zZ) ?_
    refine pwp_ret ⟨_, (res_a (cs := (bx (encR (RRat.mk (ofZ (a.fdiv (((Int.gcd a b : Nat) : Int)))) (ofZ (b.fdiv (((Int.gcd a b : Nat) : Int)))))))) (d := (encR (RRat.mk (ofZ (a.fdiv (((Int.gcd a b : Nat) : Int)))) (ofZ (b.fdiv (((Int.gcd a b : Nat) : Int))))))) rfl rfl sh42 rfl rfl .nil), ?_⟩
    rw [red_pos hge hb]; rfl
theorem g_whole1 (n : Int) (hlo : -9223372036854775808 ≤ n) (hhi : n ≤ 9223372036854775807) : Takes Tryz.prog 91 [(.val (.int .i64 (n)))] (encI (ofZ n)) := by
  refine fn_intro Tryz.func91 rfl cb91 rfl ?_
  show PWp _ _ _ _ ⟨[(0, (vi n))], []⟩
  refine pwp_seq <| kx [(2, (.ref 0 0))] [(0, some (bx (encI (RInt.mk false []))))] (zN (oAl 0 ze40 zo40) <| zZ) ?_
  refine pwp_seq <| kx [] [(0, some (bx (encI (ofZ n))))] (zM <| zE (oCl (r_of n (by omega) (by omega))) <| zT (oSt sh40) <| zZ) ?_
  refine pwp_ret ⟨_, (res_a (cs := (bx (encI (ofZ n)))) (d := (encI (ofZ n))) rfl rfl sh40 rfl rfl .nil), ?_⟩
  rfl
theorem g_whole (n : Int) (hlo : -9223372036854775808 ≤ n) (hhi : n ≤ 9223372036854775807) : Takes Tryz.prog 21 [(.val (.int .i64 (n)))] (encR (ofQ ((n : Int) : Rat))) := by
  refine fn_intro Tryz.func21 rfl cb21 rfl ?_
  show PWp _ _ _ _ ⟨[(0, (vi n))], []⟩
  refine pwp_seq <| kx [(2, (.ref 0 0))] [(0, some (bx (encR (RRat.mk (RInt.mk false []) (RInt.mk false [])))))] (zN (oAl 0 ze42 zo42) <| zZ) ?_
  refine pwp_seq <| kx [] [(0, some (bx (encR (RRat.mk (ofZ n) (ofZ 1)))))] (zM <| zE (oCl (g_whole1 n (by omega) (by omega))) <| zE (oCl (g_whole1 1 (by decide) (by decide))) <| zE (oBd pl42 ze42 zo42) <| zT (oSt sh42) <| zZ) ?_
  refine pwp_ret ⟨_, (res_a (cs := (bx (encR (RRat.mk (ofZ n) (ofZ 1))))) (d := (encR (RRat.mk (ofZ n) (ofZ 1)))) rfl rfl sh42 rfl rfl .nil), ?_⟩
  rfl
theorem g_valid (x : RRat) (p : Rat) (hx : QOk x p 17179869184) : Takes Tryz.prog 43 [(encR x)] (.val (.bool ((validR x)))) := by
  refine fn_intro Tryz.func43 rfl cb43 rfl ?_
  show PWp _ _ _ _ ⟨[(0, (.d (encR x)))], []⟩
  refine pwp_seq <| kx [(1, (.ref 0 0))] [(0, some (bx (encR x)))] (zN (oBx 0) <| zM <| zZ) ?_
  refine pwp_seq <| pwp_seq <| kx [(18, (vb ((!(validI x.num) || !(validI x.den)) || decide ((signI (toZ x.den)) ≤ 0))))] [] ?_ ?_
  · refine zE (oFr fo42_0) <| zR (oLa sh40) <| zE (oCl (r_valid x.num (Nat.le_trans (iok_raw hx.n1).l (by decide)))) <| zE oNt <| zE (oV (vb (!(validI x.num))) (mv_ok (by kernel_rfl))) <| ?_
    rcases hb1 : (!(validI x.num)) with _ | _
    · refine zE (oFr fo42_1) <| zR (oLa sh40) <| zE (oCl (r_valid x.den (Nat.le_trans (iok_raw hx.n2).l (by decide)))) <| zE oNt <| zE oPo <| zE (oV (vb (false || !(validI x.den))) (mv_ok (by kernel_rfl))) <| ?_
      rcases hb2 : (false || !(validI x.den)) with _ | _
      · exact zE (oFr fo42_1) <| zR (oLa sh40) <| zE (oCl (rs_sign (iok_raw hx.n2) (by decide))) <| zE oLe <| zE oPo <| zZ
      · exact zK <| zK <| zK <| zK <| zE oPt <| zZ
    · exact zK <| zK <| zK <| zK <| zE oPt <| zM <| zK <| zK <| zK <| zK <| zE oPt <| zZ
  refine pwp_cond rfl (fun h3 => ?_) (fun h3 => ?_)
  · refine pwp_seq <| kx [(2, (vb false))] [] (zM <| zZ) ?_
    refine pwp_ret ⟨_, (.tmp (d := (.val (.bool (false)))) rfl .nil), ?_⟩
    rw [validR_no h3]; rfl
  · refine pwp_skip <| pwp_seq <| kx [(2, (vb ((cmpI (((Int.gcd (toZ x.num) (toZ x.den) : Nat) : Int)) 1) == 0)))] [] (zE (oFr fo42_0) <| zR (oLa sh40) <| zE (oFr fo42_1) <| zR (oLa sh40) <| zE (oCl (rs_gcd (iok_raw hx.n1) (iok_raw hx.n2) (by decide) (by decide))) <| zE (oCl (g_whole1 1 (by decide) (by decide))) <| zE (oCl (rs_compare (iok_gcd (k := 17179869184) (iok_raw hx.n1) (iok_raw hx.n2) (by decide)) (iok_small (z := 1) (by decide)) (by decide) (by decide))) <| zE oEq <| zM <| zZ) ?_
    refine pwp_ret ⟨_, (.tmp (d := (.val (.bool (((cmpI (((Int.gcd (toZ x.num) (toZ x.den) : Nat) : Int)) 1) == 0))))) rfl .nil), ?_⟩
    rw [validR_yes h3]; rfl
theorem g_value (x : RRat) (p : Rat) (hx : QOk x p 17179869184) : Takes Tryz.prog 85 [(encR x)] (encR (ofQ p)) := by
  refine fn_intro Tryz.func85 rfl cb85 rfl ?_
  show PWp _ _ _ _ ⟨[(0, (.d (encR x)))], []⟩
  refine pwp_seq <| kx [(1, (.ref 0 0)), (2, (.ref 1 0))] [(0, some (bx (encR x))), (1, some (bx (encR (RRat.mk (RInt.mk false []) (RInt.mk false [])))))] (zN (oBx 0) <| zN (oAl 1 ze42 zo42) <| zZ) ?_
  refine pwp_seq <| pwp_seq <| kx [(4, (vb (validR x)))] [] (zR (oLa sh42) <| zE (oCl (g_valid x p hx)) <| zZ) ?_
  refine pwp_cond (b := (validR x)) rfl (fun h1 => ?_) (fun h1 => ?_)
  · refine pwp_seq <| kx [] [(1, some (bx (encR x)))] (zR (oLa sh42) <| zT (oSt sh42) <| zZ) ?_
    refine pwp_ret ⟨_, (res_a (cs := (bx (encR x))) (d := (encR x)) rfl rfl sh42 rfl rfl .nil), ?_⟩
    rw [← hx.v, ofQ_toQ h1]; rfl
  · refine pwp_skip <| pwp_seq <| kx [] [(1, some (bx (encR (ofQ ((0 : Int) : Rat)))))] (zE (oCl (g_whole 0 (by decide) (by decide))) <| zT (oSt sh42) <| zZ) ?_
    refine pwp_ret ⟨_, (res_a (cs := (bx (encR (ofQ ((0 : Int) : Rat))))) (d := (encR (ofQ ((0 : Int) : Rat)))) rfl rfl sh42 rfl rfl .nil), ?_⟩
    rw [← hx.v, toQ_bad h1]; rfl
theorem g_sign (x : RRat) (p : Rat) (hx : QOk x p 17179869184) : Takes Tryz.prog 17 [(encR x)] (.val (.int .i64 ((signQ p)))) := by
  refine fn_intro Tryz.func17 rfl cb17 rfl ?_
  show PWp _ _ _ _ ⟨[(0, (.d (encR x)))], []⟩
  refine pwp_seq <| kx [(1, (.ref 0 0))] [(0, some (bx (encR x)))] (zN (oBx 0) <| zM <| zZ) ?_
  refine pwp_seq <| kx [(2, (vi (signI p.num)))] [] (zR (oLa sh42) <| zE (oCl (g_value x p hx)) <| zE (oFv ft42_0 sh40) <| zE (oCl (rs_sign (qok_num hx.ql) (by decide))) <| zM <| zZ) ?_
  refine pwp_ret ⟨_, (.tmp (d := (.val (.int .i64 ((signI p.num))))) rfl .nil), ?_⟩
  rfl
theorem g_neg (x : RRat) (p : Rat) (hx : QOk x p 17179869184) : Takes Tryz.prog 88 [(encR x)] (encR (ofQ (-p))) := by
  refine fn_intro Tryz.func88 rfl cb88 rfl ?_
  show PWp _ _ _ _ ⟨[(0, (.d (encR x)))], []⟩
  refine pwp_seq <| kx [(1, (.ref 0 0)), (2, (.ref 1 0))] [(0, some (bx (encR x))), (1, some (bx (encR (RRat.mk (RInt.mk false []) (RInt.mk false [])))))] (zN (oBx 0) <| zN (oAl 1 ze42 zo42) <| zZ) ?_
  refine pwp_seq <| kx [(3, (.ref 2 0))] [(2, some (bx (encR (ofQ p))))] (zR (oLa sh42) <| zE (oCl (g_value x p hx)) <| zN (oAl 2 ze42 zo42) <| zT (oSt sh42) <| zZ) ?_
  refine pwp_seq <| kd [] [(1, some (bx (encR (RRat.mk (ofZ (-p.num)) ((ofQ p).den)))))] mo (wE (oFr fo42_0) <| wR (oLa sh40) <| wE (oCl (rs_neg (qok_num hx.ql) (by decide))) <| wE (oFr fo42_1) <| wR (oLa sh40) <| wE (oBd pl42 ze42 zo42) <| wT (oSt sh42) <| wZ) ?_
  refine pwp_ret ⟨_, (res_a (cs := (bx (encR (RRat.mk (ofZ (-p.num)) ((ofQ p).den))))) (d := (encR (RRat.mk (ofZ (-p.num)) ((ofQ p).den)))) rfl rfl sh42 rfl rfl .nil), ?_⟩
  rfl
theorem g_abs (x : RRat) (p : Rat) (hx : QOk x p 17179869184) : Takes Tryz.prog 65 [(encR x)] (encR (ofQ (absQ p))) := by
  refine fn_intro Tryz.func65 rfl cb65 rfl ?_
  show PWp _ _ _ _ ⟨[(0, (.d (encR x)))], []⟩
  refine pwp_seq <| kx [(1, (.ref 0 0)), (2, (.ref 1 0))] [(0, some (bx (encR x))), (1, some (bx (encR (RRat.mk (RInt.mk false []) (RInt.mk false [])))))] (zN (oBx 0) <| zN (oAl 1 ze42 zo42) <| zZ) ?_
  refine pwp_seq <| pwp_seq <| kx [(5, (vb (decide ((signQ p) < 0))))] [] (zR (oLa sh42) <| zE (oCl (g_sign x p hx)) <| zE oLt <| zZ) ?_
  refine pwp_cond (b := decide ((signQ p) < 0)) rfl (fun h1 => ?_) (fun h1 => ?_)
  · replace h1 := of_decide_eq_true h1
    refine pwp_seq <| kx [] [(1, some (bx (encR (ofQ (-p)))))] (zR (oLa sh42) <| zE (oCl (g_neg x p hx)) <| zT (oSt sh42) <| zZ) ?_
    refine pwp_ret ⟨_, (res_a (cs := (bx (encR (ofQ (-p))))) (d := (encR (ofQ (-p)))) rfl rfl sh42 rfl rfl .nil), ?_⟩
    rw [absQ_neg h1]; rfl
  · replace h1 := of_decide_eq_false h1
    refine pwp_skip <| pwp_seq <| kx [] [(1, some (bx (encR (ofQ p))))] (zR (oLa sh42) <| zE (oCl (g_value x p hx)) <| zT (oSt sh42) <| zZ) ?_
    refine pwp_ret ⟨_, (res_a (cs := (bx (encR (ofQ p)))) (d := (encR (ofQ p))) rfl rfl sh42 rfl rfl .nil), ?_⟩
    rw [absQ_pos h1]; rfl
theorem g_add (x : RRat) (y : RRat) (p : Rat) (q : Rat) (hx : QOk x p 17179869184) (hy : QOk y q 17179869184) : Takes Tryz.prog 89 [(encR x), (encR y)] (encR (ofQ (p + q))) := by
  refine fn_intro Tryz.func89 rfl cb89 rfl ?_
  show PWp _ _ _ _ ⟨[(0, (.d (encR x))), (1, (.d (encR y)))], []⟩
  refine pwp_seq <| kx [(2, (.ref 0 0)), (3, (.ref 1 0)), (4, (.ref 2 0))] [(0, some (bx (encR x))), (1, some (bx (encR y))), (2, some (bx (encR (RRat.mk (RInt.mk false []) (RInt.mk false [])))))] (zN (oBx 0) <| zN (oBx 1) <| zN (oAl 2 ze42 zo42) <| zZ) ?_
  refine pwp_seq <| kx [(5, (.ref 3 0))] [(3, some (bx (encR (ofQ p))))] (zR (oLa sh42) <| zE (oCl (g_value x p hx)) <| zN (oAl 3 ze42 zo42) <| zT (oSt sh42) <| zZ) ?_
  refine pwp_seq <| kx [(6, (.ref 4 0))] [(4, some (bx (encR (ofQ q))))] (zR (oLa sh42) <| zE (oCl (g_value y q hy)) <| zN (oAl 4 ze42 zo42) <| zT (oSt sh42) <| zZ) ?_
  refine pwp_seq <| kd [] [(2, some (bx (encR (ofQ (Rat.divInt ((p.num * (q.den : Int)) + (q.num * (p.den : Int))) ((p.den : Int) * (q.den : Int)))))))] mo (wE (oFr fo42_0) <| wR (oLa sh40) <| wE (oFr fo42_1) <| wR (oLa sh40) <| wE (oCl (rs_mul (qok_num hx.ql) (qok_den hy.ql) (by decide) (by decide))) <| wE (oFr fo42_0) <| wR (oLa sh40) <| wE (oFr fo42_1) <| wR (oLa sh40) <| wE (oCl (rs_mul (qok_num hy.ql) (qok_den hx.ql) (by decide) (by decide))) <| wE (oCl (rs_add (iok_mul (k := 34359738368) (qok_num hx.ql) (qok_den hy.ql) (by decide)) (iok_mul (k := 34359738368) (qok_num hy.ql) (qok_den hx.ql) (by decide)) (by decide) (by decide))) <| wE (oFr fo42_1) <| wR (oLa sh40) <| wE (oFr fo42_1) <| wR (oLa sh40) <| wE (oCl (rs_mul (qok_den hx.ql) (qok_den hy.ql) (by decide) (by decide))) <| wE (oCl (g_reduced (ofZ ((p.num * (q.den : Int)) + (q.num * (p.den : Int)))) (ofZ ((p.den : Int) * (q.den : Int))) ((p.num * (q.den : Int)) + (q.num * (p.den : Int))) ((p.den : Int) * (q.den : Int)) (iok_up (iok_add (k := 34359738369) (iok_mul (k := 34359738368) (qok_num hx.ql) (qok_den hy.ql) (by decide)) (iok_mul (k := 34359738368) (qok_num hy.ql) (qok_den hx.ql) (by decide)) (by decide)) (by decide)) (iok_up (iok_mul (k := 34359738368) (qok_den hx.ql) (qok_den hy.ql) (by decide)) (by decide)) (mul_ne (den_ne _) (den_ne _)))) <| wT (oSt sh42) <| wZ) ?_
  refine pwp_ret ⟨_, (res_a (cs := (bx (encR (ofQ (Rat.divInt ((p.num * (q.den : Int)) + (q.num * (p.den : Int))) ((p.den : Int) * (q.den : Int))))))) (d := (encR (ofQ (Rat.divInt ((p.num * (q.den : Int)) + (q.num * (p.den : Int))) ((p.den : Int) * (q.den : Int)))))) rfl rfl sh42 rfl rfl .nil), ?_⟩
  rw [add_divInt]; rfl
theorem g_sub (x : RRat) (y : RRat) (p : Rat) (q : Rat) (hx : QOk x p 17179869184) (hy : QOk y q 17179869184) : Takes Tryz.prog 32 [(encR x), (encR y)] (encR (ofQ (p - q))) := by
  refine fn_intro Tryz.func32 rfl cb32 rfl ?_
  show PWp _ _ _ _ ⟨[(0, (.d (encR x))), (1, (.d (encR y)))], []⟩
  refine pwp_seq <| kx [(2, (.ref 0 0)), (3, (.ref 1 0)), (4, (.ref 2 0))] [(0, some (bx (encR x))), (1, some (bx (encR y))), (2, some (bx (encR (RRat.mk (RInt.mk false []) (RInt.mk false [])))))] (zN (oBx 0) <| zN (oBx 1) <| zN (oAl 2 ze42 zo42) <| zZ) ?_
  refine pwp_seq <| kd [] [(2, some (bx (encR (ofQ (p + (-q))))))] mo (wR (oLa sh42) <| wR (oLa sh42) <| wE (oCl (g_neg y q hy)) <| wE (oCl (g_add x (ofQ (-q)) p (-q) hx (qok_of (ql_neg hy.ql)))) <| wT (oSt sh42) <| wZ) ?_
  refine pwp_ret ⟨_, (res_a (cs := (bx (encR (ofQ (p + (-q)))))) (d := (encR (ofQ (p + (-q))))) rfl rfl sh42 rfl rfl .nil), ?_⟩
  rw [Rat.sub_eq_add_neg]; rfl
theorem g_mul (x : RRat) (y : RRat) (p : Rat) (q : Rat) (hx : QOk x p 17179869184) (hy : QOk y q 17179869184) : Takes Tryz.prog 57 [(encR x), (encR y)] (encR (ofQ (p * q))) := by
  refine fn_intro Tryz.func57 rfl cb57 rfl ?_
  show PWp _ _ _ _ ⟨[(0, (.d (encR x))), (1, (.d (encR y)))], []⟩
  refine pwp_seq <| kx [(2, (.ref 0 0)), (3, (.ref 1 0)), (4, (.ref 2 0))] [(0, some (bx (encR x))), (1, some (bx (encR y))), (2, some (bx (encR (RRat.mk (RInt.mk false []) (RInt.mk false [])))))] (zN (oBx 0) <| zN (oBx 1) <| zN (oAl 2 ze42 zo42) <| zZ) ?_
  refine pwp_seq <| kx [(5, (.ref 3 0))] [(3, some (bx (encR (ofQ p))))] (zR (oLa sh42) <| zE (oCl (g_value x p hx)) <| zN (oAl 3 ze42 zo42) <| zT (oSt sh42) <| zZ) ?_
  refine pwp_seq <| kx [(6, (.ref 4 0))] [(4, some (bx (encR (ofQ q))))] (zR (oLa sh42) <| zE (oCl (g_value y q hy)) <| zN (oAl 4 ze42 zo42) <| zT (oSt sh42) <| zZ) ?_
  refine pwp_seq <| kd [] [(2, some (bx (encR (ofQ (Rat.divInt (p.num * q.num) ((p.den : Int) * (q.den : Int)))))))] mo (wE (oFr fo42_0) <| wR (oLa sh40) <| wE (oFr fo42_0) <| wR (oLa sh40) <| wE (oCl (rs_mul (qok_num hx.ql) (qok_num hy.ql) (by decide) (by decide))) <| wE (oFr fo42_1) <| wR (oLa sh40) <| wE (oFr fo42_1) <| wR (oLa sh40) <| wE (oCl (rs_mul (qok_den hx.ql) (qok_den hy.ql) (by decide) (by decide))) <| wE (oCl (g_reduced (ofZ (p.num * q.num)) (ofZ ((p.den : Int) * (q.den : Int))) (p.num * q.num) ((p.den : Int) * (q.den : Int)) (iok_up (iok_mul (k := 34359738368) (qok_num hx.ql) (qok_num hy.ql) (by decide)) (by decide)) (iok_up (iok_mul (k := 34359738368) (qok_den hx.ql) (qok_den hy.ql) (by decide)) (by decide)) (mul_ne (den_ne _) (den_ne _)))) <| wT (oSt sh42) <| wZ) ?_
  refine pwp_ret ⟨_, (res_a (cs := (bx (encR (ofQ (Rat.divInt (p.num * q.num) ((p.den : Int) * (q.den : Int))))))) (d := (encR (ofQ (Rat.divInt (p.num * q.num) ((p.den : Int) * (q.den : Int)))))) rfl rfl sh42 rfl rfl .nil), ?_⟩
  rw [mul_divInt]; rfl
theorem g_compare (x : RRat) (y : RRat) (p : Rat) (q : Rat) (hx : QOk x p 4294967296) (hy : QOk y q 4294967296) : Takes Tryz.prog 64 [(encR x), (encR y)] (.val (.int .i64 ((cmpQ p q)))) := by
  refine fn_intro Tryz.func64 rfl cb64 rfl ?_
  show PWp _ _ _ _ ⟨[(0, (.d (encR x))), (1, (.d (encR y)))], []⟩
  refine pwp_seq <| kx [(2, (.ref 0 0)), (3, (.ref 1 0))] [(0, some (bx (encR x))), (1, some (bx (encR y)))] (zN (oBx 0) <| zN (oBx 1) <| zM <| zZ) ?_
  refine pwp_seq <| kx [(4, (vi (signQ (p - q))))] [] (zR (oLa sh42) <| zR (oLa sh42) <| zE (oCl (g_sub x y p q (qok_up hx (by decide)) (qok_up hy (by decide)))) <| zE (oCl (g_sign (ofQ (p - q)) (p - q) (qok_up (qok_of (ql_sub (k := 8589934593) hx.ql hy.ql (by decide))) (by decide)))) <| zM <| zZ) ?_
  refine pwp_ret ⟨_, (.tmp (d := (.val (.int .i64 ((signQ (p - q)))))) rfl .nil), ?_⟩
  rw [← signQ_sub]; rfl
end Go.Proofs.YtbecgnplakngdaaGreat
namespace Go.Proofs.YtbecgnplakngdaaGreat
open Go.Fid
set_option maxRecDepth 4000
set_option linter.unusedVariables false
set_option linter.unusedSimpArgs false
theorem cb28 : callB Tryz.prog 28 = true := by kernel_rfl
theorem g_same (x : RRat) (y : RRat) (p : Rat) (q : Rat) (hx : QOk x p 4294967296) (hy : QOk y q 4294967296) : Takes Tryz.prog 28 [(encR x), (encR y)] (.val (.bool ((sameR x y)))) := by
  refine fn_intro Tryz.func28 rfl cb28 rfl ?_
  show PWp _ _ _ _ ⟨[(0, (.d (encR x))), (1, (.d (encR y)))], []⟩
  refine pwp_seq <| kx [(2, (.ref 0 0)), (3, (.ref 1 0))] [(0, some (bx (encR x))), (1, some (bx (encR y)))] (zN (oBx 0) <| zN (oBx 1) <| zM <| zZ) ?_
  refine pwp_seq <| kx [(4, (vb (((validR x) && (validR y)) && ((cmpQ p q) == 0))))] [] ?_ ?_
  · refine zR (oLa sh42) <| zE (oCl (g_valid x p (qok_up hx (by decide)))) <| zE (oV (vb (validR x)) (mv_ok (by kernel_rfl))) <| ?_
    rcases hb1 : (validR x) with _ | _
    · exact zK <| zK <| zE oPf <| zM <| zK <| zK <| zK <| zK <| zE oPf <| zM <| zZ
    · refine zR (oLa sh42) <| zE (oCl (g_valid y q (qok_up hy (by decide)))) <| zE oPa <| zE (oV (vb (true && (validR y))) (mv_ok (by kernel_rfl))) <| ?_
      rcases hb2 : (true && (validR y)) with _ | _
      · exact zK <| zK <| zK <| zK <| zE oPf <| zM <| zZ
      · exact zR (oLa sh42) <| zR (oLa sh42) <| zE (oCl (g_compare x y p q hx hy)) <| zE oEq <| zE oPa <| zM <| zZ
  refine pwp_ret ⟨_, (.tmp (d := (.val (.bool ((((validR x) && (validR y)) && ((cmpQ p q) == 0)))))) rfl .nil), ?_⟩
  unfold sameR
  rw [← sameR_eq, hx.v, hy.v]; rfl
end Go.Proofs.YtbecgnplakngdaaGreat
namespace Go.Fid
def dot3 (a b c x y z : Rat) : Rat := a * x + b * y + c * z
theorem dot3_eq (a b c x y z : Rat) : dot3 a b c x y z = (((0 : Int) : Rat) + a * x + b * y + c * z) := by
  unfold dot3; rw [Rat.intCast_zero, Rat.zero_add]
theorem ql_dot3 {a b c x y z : Rat} {n k : Nat} (h1 : QL a n) (h2 : QL b n) (h3 : QL c n) (h4 : QL x n) (h5 : QL y n) (h6 : QL z n) (hk : 6 * n + 2 ≤ k) : QL (dot3 a b c x y z) k := by
  unfold dot3
  exact ql_add (ql_add (ql_mul h1 h4 (Nat.le_refl _)) (ql_mul h2 h5 (Nat.le_refl _)) (Nat.le_refl _)) (ql_mul h3 h6 (Nat.le_refl _)) (by omega)
def rotC (a b c d : Int) : Nat := if a = 0 ∧ b = 0 ∧ c = 0 ∧ d = 0 then 1 else if (-1048576 ≤ a ∧ a ≤ 1048576) ∧ (-1048576 ≤ b ∧ b ≤ 1048576) ∧ (-1048576 ≤ c ∧ c ≤ 1048576) ∧ (-1048576 ≤ d ∧ d ≤ 1048576) then 0 else 3
theorem rotC_z {a b c d : Int} (h : a = 0 ∧ b = 0 ∧ c = 0 ∧ d = 0) : rotC a b c d = 1 := if_pos h
theorem rotC_l {a b c d : Int} (h : ¬ (a = 0 ∧ b = 0 ∧ c = 0 ∧ d = 0)) (h2 : ¬ ((-1048576 ≤ a ∧ a ≤ 1048576) ∧ (-1048576 ≤ b ∧ b ≤ 1048576) ∧ (-1048576 ≤ c ∧ c ≤ 1048576) ∧ (-1048576 ≤ d ∧ d ≤ 1048576))) : rotC a b c d = 3 := by unfold rotC; rw [if_neg h, if_neg h2]
theorem rotC_0 {a b c d : Int} (h : ¬ (a = 0 ∧ b = 0 ∧ c = 0 ∧ d = 0)) (h2 : (-1048576 ≤ a ∧ a ≤ 1048576) ∧ (-1048576 ≤ b ∧ b ≤ 1048576) ∧ (-1048576 ≤ c ∧ c ≤ 1048576) ∧ (-1048576 ≤ d ∧ d ≤ 1048576)) : rotC a b c d = 0 := by unfold rotC; rw [if_neg h, if_pos h2]
def stnP (x y z u v f : Int) : Prop := (-1048576 ≤ x ∧ x ≤ 1048576) ∧ (-1048576 ≤ y ∧ y ≤ 1048576) ∧ (-1048576 ≤ z ∧ z ≤ 1048576) ∧ (-1048576 ≤ u ∧ u ≤ 1048576) ∧ (-1048576 ≤ v ∧ v ≤ 1048576) ∧ (1 ≤ f ∧ f ≤ 1048576)
instance {x y z u v f : Int} : Decidable (stnP x y z u v f) := by unfold stnP; infer_instance
def stnC (x y z u v f a b c d : Int) : Nat := if stnP x y z u v f then rotC a b c d else 2
theorem stnC_r {x y z u v f a b c d : Int} (h : ¬ stnP x y z u v f) : stnC x y z u v f a b c d = 2 := if_neg h
theorem stnC_q {x y z u v f a b c d : Int} (h : stnP x y z u v f) : stnC x y z u v f a b c d = rotC a b c d := if_pos h
theorem sq_b {a b : Int} (ha : -1048576 ≤ a ∧ a ≤ 1048576) (hb : -1048576 ≤ b ∧ b ≤ 1048576) : -1099511627776 ≤ a * b ∧ a * b ≤ 1099511627776 := by
  have h1 : (a * b).natAbs ≤ 1048576 * 1048576 := by
    rw [Int.natAbs_mul]; exact Nat.mul_le_mul (by omega) (by omega)
  omega
end Go.Fid
set_option linter.unusedVariables false
set_option linter.unusedSimpArgs false
namespace Go.Fid
open Go.RowKit (Below)
section
variable {P : Program} {o : Oper} {S : Nat → SV}
end
def RKs (P : Program) (o : Oper) (S : SL) (B : BS) (ks : List Nat) (x : SV) : Prop := ∃ rd : List (Nat × List SV), rd.map (·.1) = ks ∧ EOk P o (sget S) rd x ∧ ∀ p ∈ rd, bget B p.1 = some p.2
section
variable {P : Program} {n : Fr} {ops : Array Oper} {K : SL → BS → Prop} {S : SL} {B : BS} {l : List Oper} {o : Oper} {news : List Nat} {acc0 : List (List Nat × List Nat)}
theorem wC {ks : List Nat} {x : SV} (h : RKs P o S B ks x) (r : DK P n ops K news (acc0 ++ [(ks, [])]) ((dO o, x) :: S) B l) (g : goK n ops S o = true := by kernel_rfl) (hn : clearR ops S o news x = true := by kernel_rfl) : DK P n ops K news acc0 S B (o :: l) := by
  obtain ⟨st1, acc, r1, r0, r2⟩ := r
  obtain ⟨rd, hk, h, hbk⟩ := h
  obtain ⟨hd, hg, hb⟩ := goK_spec g
  have hs := DStep.e (P := P) (n := n) (ops := ops) (news := news) (st := ⟨S, B⟩) (o := o) h hg (by rw [hd]; exact hb) hbk hn
  rw [hd, hk] at hs
  exact ⟨st1, (ks, []) :: acc, .cons hs r1, by simpa using r0, r2⟩
end
end Go.Fid
set_option linter.unusedVariables false
set_option linter.unusedSimpArgs false
namespace Go.Fid
open Go.RowKit (Below)
inductive MArgs (bl : List (Nat × List Dat)) (E : TypeId) : List SV → List Dat → Prop
  | nil : MArgs bl E [] []
  | d {x : Dat} {zs : List SV} {ds : List Dat} (h : MArgs bl E zs ds) : MArgs bl E (.d x :: zs) (x :: ds)
  | v {k q n s : Nat} {cs es : List Dat} {zs : List SV} {ds : List Dat} (hk : (k, cs) ∈ bl) (hes : ∀ e ∈ es, e.cells.length = s) (hl : es.length = n) (hc : (cs.drop q).take (n * s) = flat es) (h : MArgs bl E zs ds) : MArgs bl E (.view k q n :: zs) (.sl E s es :: ds)
  | p {k o : Nat} {cs : List Dat} {zs : List SV} {ds : List Dat} (hk : (k, cs) ∈ bl) (h : MArgs bl E zs ds) : MArgs bl E (.ref k o :: zs) (.cptr E cs o :: ds)
theorem MArgs.len {bl : List (Nat × List Dat)} {E : TypeId} {zs : List SV} {ds : List Dat} (h : MArgs bl E zs ds) : zs.length = ds.length := by
  induction h with
  | nil => rfl
  | d h ih => simp [ih]
  | v hk hes hl hc h ih => simp [ih]
  | p hk h ih => simp [ih]
theorem MArgs.rep {bl : List (Nat × List Dat)} {E : TypeId} {zs : List SV} {ds : List Dat} (h : MArgs bl E zs ds) {w : World} {D D' : DSet} {β : BMap} (h1 : ∀ v x, Rep w D v x → Rep w D' v x)
    (h2 : ∀ (k q n s : Nat) (cs es : List Dat) (v : Value), (k, cs) ∈ bl → (∀ e ∈ es, e.cells.length = s) → es.length = n → (cs.drop q).take (n * s) = flat es → RepS w D β v (.view k q n) → Rep w D' v (.sl E s es))
    (h3 : ∀ (k o : Nat) (cs : List Dat) (v : Value), (k, cs) ∈ bl → RepS w D β v (.ref k o) → Rep w D' v (.cptr E cs o)) :
    ∀ (vs : List Value), vs.length = zs.length → (∀ (i : Nat) v x, vs[i]? = some v → zs[i]? = some x → RepS w D β v x) → ∀ (i : Nat) v d, vs[i]? = some v → ds[i]? = some d → Rep w D' v d := by
  induction h with
  | nil => intro vs _ _ i v d _ hd; simp at hd
  | d h ih =>
    intro vs hl hr i v d' hv hd
    rcases vs with _ | ⟨v0, vs⟩
    · simp at hl
    · rcases i with _ | i
      · simp at hv hd; subst hv; subst hd; exact h1 _ _ (hr 0 _ _ rfl rfl)
      · exact ih vs (by simpa using hl) (fun i v x h3 h4 => hr (i + 1) v x (by simpa using h3) (by simpa using h4)) i v d' (by simpa using hv) (by simpa using hd)
  | v hk hes hl' hc h ih =>
    intro vs hl hr i v d' hv hd
    rcases vs with _ | ⟨v0, vs⟩
    · simp at hl
    · rcases i with _ | i
      · simp at hv hd; subst hv; subst hd; exact h2 _ _ _ _ _ _ _ hk hes hl' hc (hr 0 _ _ rfl rfl)
      · exact ih vs (by simpa using hl) (fun i v x h3 h4 => hr (i + 1) v x (by simpa using h3) (by simpa using h4)) i v d' (by simpa using hv) (by simpa using hd)
  | p hk h ih =>
    intro vs hl hr i v d' hv hd
    rcases vs with _ | ⟨v0, vs⟩
    · simp at hl
    · rcases i with _ | i
      · simp at hv hd; subst hv; subst hd; exact h3 _ _ _ _ hk (hr 0 _ _ rfl rfl)
      · exact ih vs (by simpa using hl) (fun i v x h3 h4 => hr (i + 1) v x (by simpa using h3) (by simpa using h4)) i v d' (by simpa using hv) (by simpa using hd)
theorem blk_pub {w : World} {D : DSet} {β : BMap} {bl : List (Nat × List Dat)} {E : TypeId} (hD : DOk D w) (hbl : ∀ p ∈ bl, BlkOk w D β p.1 (p.2.map SV.d)) :
    ∃ X : TypeId → Nat → Nat → Prop, DOk (fun t g i => D t g i ∨ X t g i) w ∧ (∀ t g i, X t g i → t = E ∧ ∀ t' i', ¬ D t' g i') ∧
      (∀ (k q n s : Nat) (cs es : List Dat) (v : Value), (k, cs) ∈ bl → (∀ e ∈ es, e.cells.length = s) → es.length = n → (cs.drop q).take (n * s) = flat es → RepS w D β v (.view k q n) → Rep w (fun t g i => D t g i ∨ X t g i) v (.sl E s es)) ∧
      (∀ (k o : Nat) (cs : List Dat) (v : Value), (k, cs) ∈ bl → RepS w D β v (.ref k o) → Rep w (fun t g i => D t g i ∨ X t g i) v (.cptr E cs o)) := by
  let X : TypeId → Nat → Nat → Prop := fun t g _ => t = E ∧ ∃ p ∈ bl, β p.1 = some g
  have hcap : ∀ p ∈ bl, ∀ b, β p.1 = some b → ∃ us T', w.heap[b]? = some (.cells us T' (0, 0)) ∧ (∀ (j : Nat) x, (p.2.map SV.d)[j]? = some x → ∃ u, us[j]? = some u ∧ u.oneCell' = true ∧ RepS w D β u x) ∧ ∀ t o, ¬ D t b o := fun p hp b hb => by
    rcases hbl p hp with ⟨g1, _⟩ | ⟨b', us, T', g1, g2, g3, g4, g5⟩
    · rw [hb] at g1; cases g1
    · obtain rfl : b = b' := by rw [hb] at g1; injection g1
      exact ⟨us, T', g2, g4, g5⟩
  have hmono : ∀ t' g i, D t' g i → (D t' g i ∨ X t' g i) ∧ w.cell? ⟨g, i, none⟩ = w.cell? ⟨g, i, none⟩ := fun t' g i hd => ⟨.inl hd, rfl⟩
  refine ⟨X, fun t g i hd => ?_, fun t g i ⟨h1, p, hp, hb⟩ => ?_, ?_, ?_⟩
  · rcases hd with hd | ⟨_, p, hp, hb⟩
    · exact hD _ _ _ hd
    · obtain ⟨us, T', g2, _, _⟩ := hcap p hp g hb; exact heap_lt g2
  · obtain ⟨us, T', _, _, g5⟩ := hcap p hp g hb
    exact ⟨h1, fun t' i' => g5 t' i'⟩
  · intro k q n s cs es v hk hes hl hc hv
    obtain ⟨b, cap, h1, h2, h5, h6⟩ := hv
    obtain ⟨us, T', g2, g4, g5⟩ := hcap (k, cs) hk b h1
    rw [h2]
    have hfl := flat_length hes
    have hcell : ∀ i, w.cell? ⟨b, i, none⟩ = us[i]? := fun i => cell_of_row w b i us T' (0, 0) g2
    have key : ∀ (i : Nat) d, (flat es)[i]? = some d → ∃ u, us[q + i]? = some u ∧ u.oneCell' = true ∧ Rep w D u d := fun i d hd => by
      have hi : i < n * s := by
        have := (List.getElem?_eq_some_iff.1 hd).1
        rw [hfl, hl] at this; exact this
      have e1 : cs[q + i]? = some d := by
        rw [← hc, List.getElem?_take_of_lt hi, List.getElem?_drop] at hd
        exact hd
      exact g4 _ (.d d) (by rw [List.getElem?_map, e1]; rfl)
    refine Rep.sl b q (fun i => us.getD (q + i) undef) hl.symm h5 h6 hes (fun _ => rfl) (fun i hi => .inr ⟨rfl, _, hk, h1⟩) (fun i hi => ?_) (fun i hi => ?_) (fun i d hd => ?_)
    · obtain ⟨x, q1, q2, q3⟩ := key i _ (List.getElem?_eq_getElem hi)
      rw [hcell, Array.getD_eq_getD_getElem?, q1]; rfl
    · obtain ⟨x, q1, q2, q3⟩ := key i _ (List.getElem?_eq_getElem hi)
      rw [Array.getD_eq_getD_getElem?, q1]; exact q2
    · obtain ⟨x, q1, q2, q3⟩ := key i d hd
      rw [Array.getD_eq_getD_getElem?, q1]
      exact Rep.mono hmono q3
  · intro k o cs v hk hv
    obtain ⟨b, h1, h2⟩ := hv
    obtain ⟨us, T', g2, g4, g5⟩ := hcap (k, cs) hk b h1
    rw [h2]
    have hcell : ∀ i, w.cell? ⟨b, i, none⟩ = us[i]? := fun i => cell_of_row w b i us T' (0, 0) g2
    have key : ∀ (i : Nat) d, cs[i]? = some d → ∃ u, us[i]? = some u ∧ u.oneCell' = true ∧ Rep w D u d := fun i d hd => g4 _ (.d d) (by rw [List.getElem?_map, hd]; rfl)
    have hp := Rep.cptr (w := w) (D := fun t g i => D t g i ∨ X t g i) (t := E) (cs := cs) (off := o) b 0 (fun i => us.getD i undef) (fun i hi => .inr ⟨rfl, _, hk, h1⟩) (fun i hi => by
      obtain ⟨x, q1, q2, q3⟩ := key i _ (List.getElem?_eq_getElem hi)
      rw [Nat.zero_add, hcell, Array.getD_eq_getD_getElem?, q1]; rfl) (fun i hi => by
      obtain ⟨x, q1, q2, q3⟩ := key i _ (List.getElem?_eq_getElem hi)
      rw [Array.getD_eq_getD_getElem?, q1]; exact q2) (fun i d hd => by
      obtain ⟨x, q1, q2, q3⟩ := key i d hd
      rw [Array.getD_eq_getD_getElem?, q1]
      exact Rep.mono hmono q3)
    rw [Nat.zero_add] at hp
    exact hp
theorem e_clg {P : Program} {o : Oper} {S : Nat → SV} {y : Operand} {xs : List Operand} {ats : Array TypeId} {f : FuncId} {ds : List Dat} {r : Dat} {zs : List SV} {E : TypeId} {bl : List (Nat × List Dat)} (hf : Takes P f ds r) (ho : o.op = .call { callee := .value y, args := xs.toArray, argTypes := ats }) (hy : ev S y = .d (.val (.func (.func f) #[] #[])))
    (hx : xs.map (ev S) = zs) (hz : MArgs bl E zs ds) (ha : Avoids E r) : EOk P o S (bl.map fun p => (p.1, p.2.map SV.d)) (.d r) :=
  fun a w D β Q hop hrd hD => by
    have hyv := hop y (by simp [ho, Op.operands, Call.operands])
    rw [hy] at hyv
    have hyv' := rep_val hyv
    have hrep : ∀ (i : Nat) v x, (xs.map a.eval)[i]? = some v → zs[i]? = some x → RepS w D β v x := fun i v x hv hz' => by
      rw [List.getElem?_map, Option.map_eq_some_iff] at hv
      obtain ⟨p, hqi, rfl⟩ := hv
      have hm := hop p (by simp [ho, Op.operands, Call.operands, List.mem_of_getElem? hqi])
      have hi := congrArg (fun l : List SV => l[i]?) hx
      simp only [List.getElem?_map, hqi, hz', Option.map_some, Option.some.injEq] at hi
      rw [hi] at hm
      exact hm
    have hlen : (xs.map a.eval).length = zs.length := by rw [← hx]; simp
    have hrun : (execOp a.eval o).run P w = .ok (.enter f (xs.map a.eval).toArray) w := by
      simp only [execOp, ho, resolve, Deferred.ofValue, hyv', Sem.run_bind, Sem.run_pure, Result.andThen_ok, invoke, Array.empty_append, Array.append_empty]
      rw [run_callFunc hf.may]
      simp
    obtain ⟨X, hD', hXp, hv, hp⟩ := blk_pub (E := E) (bl := bl) hD (fun p hp => hrd (p.1, p.2.map SV.d) (List.mem_map_of_mem (f := fun p : Nat × List Dat => (p.1, p.2.map SV.d)) hp))
    have hmono : ∀ t' g i, D t' g i → (D t' g i ∨ X t' g i) ∧ w.cell? ⟨g, i, none⟩ = w.cell? ⟨g, i, none⟩ := fun t' g i hd => ⟨.inl hd, rfl⟩
    have hargs : Args w (fun t g i => D t g i ∨ X t g i) (xs.map a.eval) ds := ⟨hlen.trans hz.len, hz.rep (fun v x h => Rep.mono hmono h) hv hp _ hlen hrep⟩
    refine wp_enter hrun ((hf.run w _ _ hD' hargs).mono fun e w' h => ?_)
    obtain ⟨v, D2, he, h1, h2, h3⟩ := h
    refine ⟨v, he, v, fun t g i => D2 t g i ∧ ¬ X t g i, rfl, h1, ⟨fun t g i hd => ⟨h2.up _ _ _ (.inl hd), fun hx' => (hXp t g i hx').2 t i hd⟩, fun t g i hd => ?_⟩, ?_⟩
    · rcases h2.new t g i hd.1 with h | h
      · rcases h with h | h
        · exact .inl h
        · exact absurd h hd.2
      · exact .inr h
    · exact ha.rep (fun t g i hne hd => ⟨hd, fun hx' => hne (hXp t g i hx').1⟩) h3
theorem oCg {P : Program} {o : Oper} {S : SL} {B : BS} {y : Operand} {xs : List Operand} {ats : Array TypeId} {f : FuncId} {ds : List Dat} {r : Dat} (bl : List (Nat × List Dat)) (zs : List SV) (hf : Takes P f ds r) (hz : MArgs bl 1000000 zs ds) (ha : Avoids 1000000 r)
    (ho : o.op = .call { callee := .value y, args := xs.toArray, argTypes := ats } := by exact rfl) (hy : ev (sget S) y = .d (.val (.func (.func f) #[] #[])) := by kernel_rfl) (hx : xs.map (ev (sget S)) = zs := by kernel_rfl)
    (hb : bl.map (fun p => bget B p.1) = bl.map (fun p => some (p.2.map SV.d)) := by kernel_rfl) {ks : List Nat} (hks : bl.map (·.1) = ks := by exact rfl) : RKs P o S B ks (.d r) := by
  refine ⟨bl.map fun p => (p.1, p.2.map SV.d), by rw [List.map_map]; exact hks, e_clg hf ho hy hx hz ha, fun p hp => ?_⟩
  obtain ⟨q, hq, rfl⟩ := List.mem_map.1 hp
  exact List.map_inj_left.1 hb q hq
theorem pub_ptr_core {C : Ctx} {a : Act} {w : World} {st : PS} {D : DSet} {β : BMap} {k : Nat} {T : TypeId} {cs : List Dat} (h : SimAt C a w st D β) (hb : bget st.bs k = some (cs.map SV.d)) :
    ∃ D', SimAt C a w ⟨st.sl, (k, none) :: st.bs⟩ D' β ∧ ∀ v o, RepS w D β v (.ref k o) → Rep w D' v (.cptr T cs o) := by
  have hbs : ∀ {j : Nat} {c : List SV}, bget ((k, none) :: st.bs) j = some c → j ≠ k ∧ bget st.bs j = some c := fun {j c} hj => by
    rw [bget_cons] at hj
    split at hj
    · cases hj
    · rename_i e; exact ⟨fun e' => e e'.symm, hj⟩
  rcases h.mem.ok k _ hb with ⟨g1, hcs⟩ | ⟨b, vs, T', g1, g2, g3, g4, g5⟩
  · refine ⟨D, ⟨h.base, ⟨fun j c hj => h.mem.ok j c (hbs hj).2, fun j1 j2 c1 c2 q1 q2 => h.mem.inj j1 j2 c1 c2 (hbs q1).2 (hbs q2).2⟩, fun j c hj => h.high j c (hbs hj).2, h.slots⟩, fun v o hv => ?_⟩
    obtain ⟨b, h1, _⟩ := hv
    rw [h1] at g1; cases g1
  · have hlt := heap_lt g2
    have hmono : ∀ t' g o, D t' g o → (D t' g o ∨ (t' = T ∧ g = b ∧ o < cs.length)) ∧ w.cell? ⟨g, o, none⟩ = w.cell? ⟨g, o, none⟩ := fun t' g o hd => ⟨.inl hd, rfl⟩
    have hS : ∀ {v x}, RepS w D β v x → RepS w (fun t' g o => D t' g o ∨ (t' = T ∧ g = b ∧ o < cs.length)) β v x := fun {v x} hr => by
      cases x with
      | d x => exact Rep.mono hmono hr
      | ref k o => exact hr
      | own k t s n => exact hr
      | clo f ks => exact hr
      | emp => exact hr
      | view k o n => exact hr
      | junk => trivial
    refine ⟨fun t' g o => D t' g o ∨ (t' = T ∧ g = b ∧ o < cs.length), ⟨⟨h.base.defers, h.base.size, h.base.keep, h.base.oth, h.base.pin, h.base.below, fun t' g o hd => .inl (h.base.dmono _ _ _ hd), fun t' g o hd => ?_, fun t' g o hd => ?_⟩, ⟨fun j c hj => ?_, fun j1 j2 c1 c2 q1 q2 => h.mem.inj j1 j2 c1 c2 (hbs q1).2 (hbs q2).2⟩, fun j c hj => h.high j c (hbs hj).2, fun u => hS (h.slots u)⟩, fun v o hv => ?_⟩
    · rcases hd with hd | ⟨_, e, _⟩
      · exact h.base.dnew _ _ _ hd
      · subst e; exact .inr (h.high k _ hb g g1)
    · rcases hd with hd | ⟨_, e, _⟩
      · exact h.base.dok _ _ _ hd
      · subst e; exact hlt
    · obtain ⟨hne, hj'⟩ := hbs hj
      rcases h.mem.ok j c hj' with q | ⟨b2, vs2, T2, q1, q2, q3, q4, q5⟩
      · exact .inl q
      · refine .inr ⟨b2, vs2, T2, q1, q2, q3, fun i x hx => ?_, fun t' o hd => ?_⟩
        · obtain ⟨u, e1, e2, e3⟩ := q4 i x hx
          exact ⟨u, e1, e2, hS e3⟩
        · rcases hd with hd | ⟨_, e, _⟩
          · exact q5 _ _ hd
          · subst e; exact hne (h.mem.inj j k _ _ hj' hb b2 q1 g1)
    · obtain ⟨b2, h1, h2⟩ := hv
      obtain rfl : b = b2 := by rw [h1] at g1; injection g1 with g1; exact g1.symm
      rw [h2]
      have hcell : ∀ i, w.cell? ⟨b, i, none⟩ = vs[i]? := fun i => cell_of_row w b i vs T' (0, 0) g2
      have key : ∀ (i : Nat) d, cs[i]? = some d → ∃ u, vs[i]? = some u ∧ u.oneCell' = true ∧ Rep w D u d := fun i d hd => g4 _ (.d d) (by rw [List.getElem?_map, hd]; rfl)
      have hp := Rep.cptr (w := w) (D := fun t' g o => D t' g o ∨ (t' = T ∧ g = b ∧ o < cs.length)) (t := T) (cs := cs) (off := o) b 0 (fun i => vs.getD i undef) (fun i hi => .inr ⟨rfl, rfl, by rw [Nat.zero_add]; exact hi⟩) (fun i hi => by
        obtain ⟨x, q1, q2, q3⟩ := key i _ (List.getElem?_eq_getElem hi)
        rw [Nat.zero_add, hcell, Array.getD_eq_getD_getElem?, q1]; rfl) (fun i hi => by
        obtain ⟨x, q1, q2, q3⟩ := key i _ (List.getElem?_eq_getElem hi)
        rw [Array.getD_eq_getD_getElem?, q1]; exact q2) (fun i d hd => by
        obtain ⟨x, q1, q2, q3⟩ := key i d hd
        rw [Array.getD_eq_getD_getElem?, q1]
        exact Rep.mono hmono q3)
      rw [Nat.zero_add] at hp
      exact hp
theorem publishP {st : PS} {t k o : Nat} {T : TypeId} {cs : List Dat} (hs : sget st.sl t = .ref k o) (hb : bget st.bs k = some (cs.map SV.d)) : SimImp st ⟨(t, .d (.cptr T cs o)) :: st.sl, (k, none) :: st.bs⟩ := fun C a w ⟨D, β, h⟩ => by
  obtain ⟨D', h', hp⟩ := pub_ptr_core (T := T) h hb
  have ht := h.slots t
  rw [hs] at ht
  refine ⟨D', β, h'.base, h'.mem, h'.high, fun u => ?_⟩
  show RepS w D' β _ (sget ((t, .d (.cptr T cs o)) :: st.sl) u)
  rw [sget_cons]
  split
  · rename_i e; subst e; exact hp _ _ ht
  · exact h'.slots u
end Go.Fid
set_option linter.unusedVariables false
set_option linter.unusedSimpArgs false
namespace Go.Fid
variable {P : Program}
def intFs (P : Program) : List Field → Nat → Bool
  | [], _ => true
  | f :: l, i => (f.name != "_") && (Nat.beq f.offset i && ((match P.underlying f.type with | some (.int _) => true | _ => false) && intFs P l (i + 1)))
def eqsB (P : Program) (T : TypeId) : Option Nat :=
  match P.underlying T with
  | some (.struct fs) => if intFs P fs.toList 0 && (!P.stoodInHeld T && !P.eqGuardType P.depth T) then some fs.size else none
  | _ => none
theorem run_part_int {t : TypeId} {ms : List Int} {i : Nat} {m : Int} {k j : IntKind} (ht : P.underlying t = some (.int j)) (hi : ms[i]? = some m) (w : World) : (part t (ms.map (Value.int k)).toArray i).run P w = .ok (.int k m) w := by
  have h2 : (ms.map (Value.int k))[i]? = some (.int k m) := by rw [List.getElem?_map, hi]; rfl
  simp [part, run_isAgg ht, isAggD, h2]
theorem run_eqInt {t : TypeId} {k j : IntKind} {m n : Int} (ht : P.underlying t = some (.int j)) (d : Nat) (w : World) : (Op.equalIn (d + 1) t (.int k m) (.int k n)).run P w = .ok (m == n) w := by
  simp [Op.equalIn, run_underlying ht]
theorem run_fs (k : IntKind) (d : Nat) (w : World) (ms ns : List Int) : ∀ (l : List Field) (i : Nat), intFs P l i = true → ms.length = i + l.length → ns.length = i + l.length →
    Sem.run P (forIn l ((none, ()) : Option Bool × Unit) fun f _ =>
            if f.name = "_" then pure (ForInStep.yield (none, ()))
            else do
              let a ← part f.type (List.map (Value.int k) ms).toArray f.offset
              let b ← part f.type (List.map (Value.int k) ns).toArray f.offset
              let c ← Op.equalIn (d + 1) f.type a b
              if c = false then pure (ForInStep.done (some false, ())) else pure (ForInStep.yield (none, ()))) w = .ok (if ms.drop i = ns.drop i then (none, ()) else (some false, ())) w
  | [], i, _, h1, h2 => by
    have e1 : ms.drop i = [] := List.drop_eq_nil_of_le (by simp at h1; omega)
    have e2 : ns.drop i = [] := List.drop_eq_nil_of_le (by simp at h2; omega)
    rw [e1, e2]; simp
  | f :: l, i, h, h1, h2 => by
    unfold intFs at h
    simp only [Bool.and_eq_true, bne_iff_ne, ne_eq] at h
    obtain ⟨g1, g2, g3, g4⟩ := h
    have g2 : f.offset = i := Nat.eq_of_beq_eq_true g2
    have hd : ∃ j, P.underlying f.type = some (.int j) := by
      split at g3
      · rename_i j e; exact ⟨j, e⟩
      · cases g3
    obtain ⟨j, hj⟩ := hd
    simp only [List.length_cons] at h1 h2
    have b1 : i < ms.length := by omega
    have b2 : i < ns.length := by omega
    have ih := run_fs k d w ms ns l (i + 1) g4 (by omega) (by omega)
    have e1 := List.drop_eq_getElem_cons b1
    have e2 := List.drop_eq_getElem_cons b2
    simp only [List.forIn_cons, g1, if_false, g2, Sem.run_bind, run_part_int hj (List.getElem?_eq_getElem b1), run_part_int hj (List.getElem?_eq_getElem b2), Result.andThen_ok, run_eqInt hj]
    by_cases he : ms[i] = ns[i]
    · have hx : (ms.drop i = ns.drop i) = (ms.drop (i + 1) = ns.drop (i + 1)) := by
        rw [e1, e2, he]
        exact propext ⟨fun h => (List.cons.inj h).2, fun h => by rw [h]⟩
      simp only [he, beq_self_eq_true, Bool.true_eq_false, if_false, Sem.run_pure, Result.andThen_ok]
      rw [ih]
      simp only [hx]
    · have hx : ¬ ms.drop i = ns.drop i := by
        rw [e1, e2]
        exact fun h => he (List.cons.inj h).1
      have hb : (ms[i] == ns[i]) = false := by simp [he]
      simp only [hb, if_true, Sem.run_pure, Result.andThen_ok, if_neg hx]
theorem run_eqS {T : TypeId} {c : Nat} (h : eqsB P T = some c) (k : IntKind) (ms ns : List Int) (h1 : ms.length = c) (h2 : ns.length = c) (w : World) :
    (Op.equal T (.agg (ms.map (Value.int k)).toArray) (.agg (ns.map (Value.int k)).toArray)).run P w = .ok (decide (ms = ns)) w ∧ P.eqGuardType P.depth T = false := by
  unfold eqsB at h
  split at h
  · rename_i fs hT
    split at h
    · rename_i hq
      simp only [Bool.and_eq_true, Bool.not_eq_true'] at hq
      injection h with h
      refine ⟨?_, hq.2.2⟩
      show (Op.equalIn (9998 + 2) T _ _).run P w = _
      rw [Op.equalIn]
      have hl := run_fs k 9998 w ms ns fs.toList 0 hq.1 (by simp; omega) (by simp; omega)
      rw [Array.forIn_toList] at hl
      simp [run_underlying hT, hq.2.1]
      have hl2 := hl
      simp only [List.drop_zero] at hl2
      rw [hl2]
      by_cases e : ms = ns
      · simp [e]
      · simp [e]
    · cases h
  · cases h
theorem rep_ints {w : World} {D : DSet} {v : Value} {k : IntKind} {ms : List Int} (h : Rep w D v (.agg (ms.map fun m => .val (.int k m)))) : v = .agg (ms.map (Value.int k)).toArray := by
  obtain ⟨vs, rfl, hl, _, hr⟩ := rep_agg h
  have e : vs = ms.map (Value.int k) := by
    refine List.ext_getElem (by simpa using hl) fun i h1 h2 => ?_
    have hi : i < ms.length := by simpa using h2
    have := rep_val (hr i vs[i] (.val (.int k ms[i])) (List.getElem?_eq_getElem h1) (by rw [List.getElem?_map, List.getElem?_eq_getElem hi]; rfl))
    rw [this]; simp
  rw [e]
theorem e_eqs {o : Oper} {S : Nat → SV} {T T' : TypeId} {x y : Operand} {k : IntKind} {ms ns : List Int} {c : Nat} (ho : o.op = .binOp .eql T x y T') (hT : eqsB P T = some c) (hx : ev S x = .d (.agg (ms.map fun m => .val (.int k m)))) (hy : ev S y = .d (.agg (ns.map fun m => .val (.int k m)))) (h1 : ms.length = c) (h2 : ns.length = c) : EOk P o S [] (.d (.val (.bool (decide (ms = ns))))) :=
  EOk.same fun a w D β hop _ => by
    have hx' := hop x (by simp [ho, Op.operands])
    have hy' := hop y (by simp [ho, Op.operands])
    rw [hx] at hx'
    rw [hy] at hy'
    have ex := rep_ints hx'
    have ey := rep_ints hy'
    obtain ⟨g1, g2⟩ := run_eqS hT k ms ns h1 h2 w
    refine ⟨.bool (decide (ms = ns)), ?_, .val _⟩
    simp [execOp, ho, ex, ey, eqGuard, g2, binOp, g1]
theorem oEs {P : Program} {o : Oper} {S : Nat → SV} {T T' : TypeId} {x y : Operand} {c : Nat} (hT : eqsB P T = some c) (k : IntKind) (ms ns : List Int) (ho : o.op = .binOp .eql T x y T' := by exact rfl) (hx : ev S x = .d (.agg (ms.map fun m => .val (.int k m))) := by kernel_rfl) (hy : ev S y = .d (.agg (ns.map fun m => .val (.int k m))) := by kernel_rfl) (h1 : ms.length = c := by exact rfl) (h2 : ns.length = c := by exact rfl) : EOk P o S [] (.d (.val (.bool (decide (ms = ns))))) := e_eqs ho hT hx hy h1 h2
end Go.Fid
set_option linter.unusedVariables false
set_option linter.unusedSimpArgs false
namespace Go.Fid
variable {P : Program} {o : Oper} {S : Nat → SV}
theorem e_nckd {x : Operand} {t : TypeId} {q : Nat} {cs : List Dat} (ho : o.op = .nilCheck x) (hx : ev S x = .d (.cptr t cs q)) : EOk P o S [] (.d (.cptr t cs q)) :=
  EOk.same fun a' w D β hop _ => by
    have hp := hop x (by simp [ho, Op.operands])
    rw [hx] at hp
    generalize hvv : a'.eval x = v at hp
    cases hp with
    | cptr g p u hD hu h1 hr =>
      exact ⟨.pointer (some ⟨g, p + q, none⟩), by simp [execOp, ho, hvv], Rep.cptr g p u hD hu h1 hr⟩
theorem oNd {x : Operand} {t : TypeId} {q : Nat} {cs : List Dat} (ho : o.op = .nilCheck x := by exact rfl) (hx : ev S x = .d (.cptr t cs q) := by exact rfl) : EOk P o S [] (.d (.cptr t cs q)) := e_nckd ho hx
theorem oXc {T E t : TypeId} {x y : Operand} {k : IntKind} {N s p : Nat} {cs : List Dat} (hT : arrB P T = some (N, E, s)) (j : Nat) (ho : o.op = .indexAddr T x y := by exact rfl) (hx : ev S x = .d (.cptr t cs p) := by exact rfl) (hi : ev S y = .d (.val (.int k ((j : Nat) : Int))) := by exact rfl) (h1 : Nat.blt j N = true := by kernel_rfl) : EOk P o S [] (.d (.cptr t cs (p + j * s))) :=
  e_index_acptr ho hT hx hi (Int.natCast_nonneg j) (Int.ofNat_lt.2 (Nat.le_of_ble_eq_true h1))
end Go.Fid
namespace Go.Proofs.YtbecgnplakngdaaGreat
open Go.Fid
theorem avo_encR (h152 : 152 ≠ 1000000) (x : RRat) : Avoids 1000000 (encR x) := .agg (avo_cons (.val _) (avo_cons (avo_vals h152 _) (avo_cons (.val _) (avo_cons (avo_vals h152 _) avo_nil))))
end Go.Proofs.YtbecgnplakngdaaGreat
