/- Part 27 of a proof: rules, plain facts, and functions walked. -/
import Derived.Test.YtleidgohjckmlaaM26
import Derived.Test.YtleidgohjckmlaaM17
import Derived.Test.YtleidgohjckmlaaM16
import Derived.Test.YtleidgohjckmlaaM12
set_option linter.unusedVariables false
set_option linter.unusedSimpArgs false
namespace Go.Fid
def nq (a b c d : Int) : Int := (((a * a) + (b * b)) + (c * c)) + (d * d)
def N4 (a b c d : Int) : Rat := ((nq a b c d : Int) : Rat)
def r02 (a b c d : Int) : Int := 2 * ((b * d) + (a * c))
def R02 (a b c d : Int) : Rat := ((r02 a b c d : Int) : Rat)
def r12 (a b c d : Int) : Int := 2 * ((c * d) - (a * b))
def R12 (a b c d : Int) : Rat := ((r12 a b c d : Int) : Rat)
def r22 (a b c d : Int) : Int := (((a * a) - (b * b)) - (c * c)) + (d * d)
def R22 (a b c d : Int) : Rat := ((r22 a b c d : Int) : Rat)
def gcd3 (a b c : Rat) : Int := ((Int.gcd a.num ((Int.gcd b.num c.num : Nat) : Int) : Nat) : Int)
def redK (a b c : Rat) : Rat := Rat.divInt 1 (gcd3 a b c)
def dq0 (a b c d p q r s : Int) : Rat := (R02 a b c d * N4 p q r s) + (R02 p q r s * N4 a b c d)
def dq1 (a b c d p q r s : Int) : Rat := (R12 a b c d * N4 p q r s) + (R12 p q r s * N4 a b c d)
def dq2 (a b c d p q r s : Int) : Rat := (R22 a b c d * N4 p q r s) + (R22 p q r s * N4 a b c d)
def RFr (lx ly lz la lb lc ld rx ry rz ra rb rc rd : Int) (b0 b1 b2 e00 e01 e02 e10 e11 e12 e20 e21 e22 : Rat) : Prop :=
  (((rx - lx) : Int) : Rat) = b0 ∧
  (((ry - ly) : Int) : Rat) = b1 ∧
  (((rz - lz) : Int) : Rat) = b2 ∧
  b0 * redK b0 b1 b2 = e00 ∧
  b1 * redK b0 b1 b2 = e01 ∧
  b2 * redK b0 b1 b2 = e02 ∧
  (((dq1 la lb lc ld ra rb rc rd) * e02) - ((dq2 la lb lc ld ra rb rc rd) * e01)) * redK (((dq1 la lb lc ld ra rb rc rd) * e02) - ((dq2 la lb lc ld ra rb rc rd) * e01)) (((dq2 la lb lc ld ra rb rc rd) * e00) - ((dq0 la lb lc ld ra rb rc rd) * e02)) (((dq0 la lb lc ld ra rb rc rd) * e01) - ((dq1 la lb lc ld ra rb rc rd) * e00)) = e10 ∧
  (((dq2 la lb lc ld ra rb rc rd) * e00) - ((dq0 la lb lc ld ra rb rc rd) * e02)) * redK (((dq1 la lb lc ld ra rb rc rd) * e02) - ((dq2 la lb lc ld ra rb rc rd) * e01)) (((dq2 la lb lc ld ra rb rc rd) * e00) - ((dq0 la lb lc ld ra rb rc rd) * e02)) (((dq0 la lb lc ld ra rb rc rd) * e01) - ((dq1 la lb lc ld ra rb rc rd) * e00)) = e11 ∧
  (((dq0 la lb lc ld ra rb rc rd) * e01) - ((dq1 la lb lc ld ra rb rc rd) * e00)) * redK (((dq1 la lb lc ld ra rb rc rd) * e02) - ((dq2 la lb lc ld ra rb rc rd) * e01)) (((dq2 la lb lc ld ra rb rc rd) * e00) - ((dq0 la lb lc ld ra rb rc rd) * e02)) (((dq0 la lb lc ld ra rb rc rd) * e01) - ((dq1 la lb lc ld ra rb rc rd) * e00)) = e12 ∧
  ((e01 * e12) - (e02 * e11)) * redK ((e01 * e12) - (e02 * e11)) ((e02 * e10) - (e00 * e12)) ((e00 * e11) - (e01 * e10)) = e20 ∧
  ((e02 * e10) - (e00 * e12)) * redK ((e01 * e12) - (e02 * e11)) ((e02 * e10) - (e00 * e12)) ((e00 * e11) - (e01 * e10)) = e21 ∧
  ((e00 * e11) - (e01 * e10)) * redK ((e01 * e12) - (e02 * e11)) ((e02 * e10) - (e00 * e12)) ((e00 * e11) - (e01 * e10)) = e22
instance {lx ly lz la lb lc ld rx ry rz ra rb rc rd : Int} {b0 b1 b2 e00 e01 e02 e10 e11 e12 e20 e21 e22 : Rat} : Decidable (RFr lx ly lz la lb lc ld rx ry rz ra rb rc rd b0 b1 b2 e00 e01 e02 e10 e11 e12 e20 e21 e22) := by unfold RFr; infer_instance
section
variable {lx ly lz la lb lc ld rx ry rz ra rb rc rd : Int} {b0 b1 b2 e00 e01 e02 e10 e11 e12 e20 e21 e22 : Rat}
end
end Go.Fid
set_option linter.unusedVariables false
set_option linter.unusedSimpArgs false
namespace Go.Fid
end Go.Fid
set_option linter.unusedVariables false
set_option linter.unusedSimpArgs false
namespace Go.Fid
end Go.Fid
set_option linter.unusedVariables false
set_option linter.unusedSimpArgs false
namespace Go.Fid
theorem den_pos (u : Rat) : ((u.den : Nat) : Int) ≠ 0 := by have := u.den_pos; omega
end Go.Fid
namespace Go.Proofs.Ytleidgohjckmlaa
open Go.Fid
set_option maxRecDepth 4000
set_option linter.unusedVariables false
set_option linter.unusedSimpArgs false
theorem cb38 : callB Try.prog 38 = true := by kernel_rfl
theorem cb53 : callB Try.prog 53 = true := by kernel_rfl
theorem f_counted (x : RInt) (a : Int) (hx : IOk x a 68719476736) : Takes Try.prog 53 [(encI x)] (encI (ofZ a)) := by
  refine fn_intro Try.func53 rfl cb53 rfl ?_
  show PWp _ _ _ _ ⟨[(0, (.d (encI x)))], []⟩
  refine pwp_seq <| kx [(1, (.ref 0 0)), (2, (.ref 1 0))] [(0, some (bx (encI x))), (1, some (bx (encI (RInt.mk false []))))] (zN (oBx 0) <| zN (oAl 1 ze32 zo32) <| zZ) ?_
  refine pwp_seq <| pwp_seq <| kx [(4, (vb (validI x)))] [] (zR (oLa sh32) <| zE (oCl (t_valid x (Nat.le_trans hx.l (by decide)))) <| zZ) ?_
  refine pwp_cond (b := (validI x)) rfl (fun h1 => ?_) (fun h1 => ?_)
  · refine pwp_seq <| kx [] [(1, some (bx (encI x)))] (zR (oLa sh32) <| zT (oSt sh32) <| zZ) ?_
    refine pwp_ret ⟨_, (res_a (cs := (bx (encI x))) (d := (encI x)) rfl rfl sh32 rfl rfl .nil), ?_⟩
    rw [← hx.v, ofZ_toZ h1]; rfl
  · refine pwp_skip <| pwp_seq <| kx [] [(1, some (bx (encI (ofZ 0))))] (zE (oCl (t_of 0 (by decide) (by decide))) <| zT (oSt sh32) <| zZ) ?_
    refine pwp_ret ⟨_, (res_a (cs := (bx (encI (ofZ 0)))) (d := (encI (ofZ 0))) rfl rfl sh32 rfl rfl .nil), ?_⟩
    rw [← hx.v, toZ_bad h1, ofZ_zero]; rfl
theorem f_newO (num : RInt) (a : Int) (hnum : IOk num a 68719476736) (den : RInt) (b : Int) (hden : IOk den b 68719476736) (hb : b ≠ 0) : Takes Try.prog 38 [(encI num), (encI den)] (.tup [(encR (ofQ (Rat.divInt a b))), (.val (.int .i64 (0)))]) := by
  refine fn_intro Try.func38 rfl cb38 rfl ?_
  show PWp _ _ _ _ ⟨[(0, (.d (encI num))), (1, (.d (encI den)))], []⟩
  refine pwp_seq <| kx [(2, (.ref 0 0)), (3, (.ref 1 0)), (4, (.ref 2 0))] [(0, some (bx (encI num))), (1, some (bx (encI den))), (2, some (bx (encR (RRat.mk (RInt.mk false []) (RInt.mk false [])))))] (zN (oBx 0) <| zN (oBx 1) <| zN (oAl 2 ze34 zo34) <| zM <| zZ) ?_
  refine pwp_seq <| kd [] [(0, some (bx (encI (ofZ a)))), (1, some (bx (encI (ofZ b))))] mo (wR (oLa sh32) <| wE (oCl (f_counted num a hnum)) <| wR (oLa sh32) <| wE (oCl (f_counted den b hden)) <| wT (oSt sh32) <| wT (oSt sh32) <| wZ) ?_
  refine pwp_seq <| pwp_seq <| kx [(12, (vb false))] [] (zR (oLa sh32) <| zE (oCl (s_sign (iok_of (IOk.ln hden)) (by decide))) <| zE (oBk false oEq (by exact beq_eq_false_iff_ne.2 (signI_ne hb))) <| zZ) ?_
  refine pwp_cond (b := false) (by kernel_rfl) (fun h => by cases h) (fun _ => ?_)
  refine pwp_skip <| pwp_seq <| kx [(5, (vin 0))] [(2, some (bx (encR (ofQ (Rat.divInt a b)))))] (zR (oLa sh32) <| zR (oLa sh32) <| zE (oCl (f_reduced (ofZ a) (ofZ b) a b (iok_of (IOk.ln hnum)) (iok_of (IOk.ln hden)) (by assumption))) <| zT (oSt sh34) <| zM <| zZ) ?_
  refine pwp_ret ⟨_, (res_a (cs := (bx (encR (ofQ (Rat.divInt a b))))) (d := (encR (ofQ (Rat.divInt a b)))) rfl rfl sh34 rfl rfl (.tmp (d := (.val (.int .i64 (0)))) rfl .nil)), ?_⟩
  rfl
theorem g_newO (num : RInt) (a : Int) (hnum : IOk num a 68719476736) (den : RInt) (b : Int) (hden : IOk den b 68719476736) (hb : b ≠ 0) : Takes Try.prog 29 [(encI num), (encI den)] (.tup [(encR (ofQ (Rat.divInt a b))), (.val (.int .i64 (0)))]) := by
  refine fn_intro Try.func29 rfl cb29 rfl ?_
  show PWp _ _ _ _ ⟨[(0, (.d (encI num))), (1, (.d (encI den)))], []⟩
  refine pwp_seq <| kx [(2, (.ref 0 0)), (3, (.ref 1 0)), (4, (.ref 2 0))] [(0, some (bx (encI num))), (1, some (bx (encI den))), (2, some (bx (encR (RRat.mk (RInt.mk false []) (RInt.mk false [])))))] (zN (oBx 0) <| zN (oBx 1) <| zN (oAl 2 ze34 zo34) <| zM <| zZ) ?_
  refine pwp_seq <| pwp_seq <| kx [(8, (vb false))] [] (zR (oLa sh32) <| zE (oCl (rs_sign hden (by decide))) <| zE (oBk false oEq (by exact beq_eq_false_iff_ne.2 (signI_ne hb))) <| zZ) ?_
  refine pwp_cond (b := false) (by kernel_rfl) (fun h => by cases h) (fun _ => ?_)
  refine pwp_skip <| pwp_seq <| kx [(5, (vin 0))] [(2, some (bx (encR (ofQ (Rat.divInt a b)))))] (zR (oLa sh32) <| zR (oLa sh32) <| zE (oCl (g_reduced num den a b hnum hden (by assumption))) <| zT (oSt sh34) <| zM <| zZ) ?_
  refine pwp_ret ⟨_, (res_a (cs := (bx (encR (ofQ (Rat.divInt a b))))) (d := (encR (ofQ (Rat.divInt a b)))) rfl rfl sh34 rfl rfl (.tmp (d := (.val (.int .i64 (0)))) rfl .nil)), ?_⟩
  rfl
end Go.Proofs.Ytleidgohjckmlaa
namespace Go.Fid
end Go.Fid
namespace Go.Proofs.Ytleidgohjckmlaa
open Go.Fid
set_option maxRecDepth 4000
set_option linter.unusedVariables false
set_option linter.unusedSimpArgs false
theorem cb13 : callB Try.prog 13 = true := by kernel_rfl
end Go.Proofs.Ytleidgohjckmlaa
namespace Go.Proofs.Ytleidgohjckmlaa
open Go.Fid
set_option maxRecDepth 4000
set_option linter.unusedVariables false
set_option linter.unusedSimpArgs false
theorem cb28 : callB Try.prog 28 = true := by kernel_rfl
theorem q_of (n : Int) (hnl : -9223372036854775808 ≤ n) (hnh : n ≤ 9223372036854775807) (d : Int) (hdl : -9223372036854775808 ≤ d) (hdh : d ≤ 9223372036854775807) (hd : d ≠ 0) : Takes Try.prog 28 [(.val (.int .i64 (n))), (.val (.int .i64 (d)))] (.tup [(encR (ofQ (Rat.divInt n d))), (.val (.int .i64 (0)))]) := by
  refine fn_intro Try.func28 rfl cb28 rfl ?_
  show PWp _ _ _ _ ⟨[(0, (vi n)), (1, (vi d))], []⟩
  refine pwp_seq <| kx [(4, (.ref 0 0))] [(0, some (bx (encR (RRat.mk (RInt.mk false []) (RInt.mk false [])))))] (zN (oAl 0 ze34 zo34) <| zM <| zZ) ?_
  refine pwp_seq <| kx [(5, (vi 0))] [(0, some (bx (encR (ofQ (Rat.divInt n d)))))] (zM <| zE (oCl (t_of n (by omega) (by omega))) <| zM <| zE (oCl (t_of d (by omega) (by omega))) <| zE (oCl (f_newO (ofZ n) n (iok_up (iok_int (z := n) (by omega) (by omega)) (by decide)) (ofZ d) d (iok_up (iok_int (z := d) (by omega) (by omega)) (by decide)) hd)) <| zE oEx <| zE oEx <| zT (oSt sh34) <| zM <| zZ) ?_
  refine pwp_ret ⟨_, (res_a (cs := (bx (encR (ofQ (Rat.divInt n d))))) (d := (encR (ofQ (Rat.divInt n d)))) rfl rfl sh34 rfl rfl (.tmp (d := (.val (.int .i64 (0)))) rfl .nil)), ?_⟩
  rfl
theorem qs_of (n : Int) (hnl : -9223372036854775808 ≤ n) (hnh : n ≤ 9223372036854775807) (d : Int) (hdl : -9223372036854775808 ≤ d) (hdh : d ≤ 9223372036854775807) (hd : d ≠ 0) : Takes Try.prog 13 [(.val (.int .i64 (n))), (.val (.int .i64 (d)))] (.tup [(encR (ofQ (Rat.divInt n d))), (.val (.int .i64 (0)))]) := by
  refine fn_intro Try.func13 rfl cb13 rfl ?_
  show PWp _ _ _ _ ⟨[(0, (vi n)), (1, (vi d))], []⟩
  refine pwp_seq <| kx [(4, (.ref 0 0))] [(0, some (bx (encR (RRat.mk (RInt.mk false []) (RInt.mk false [])))))] (zN (oAl 0 ze34 zo34) <| zM <| zZ) ?_
  refine pwp_seq <| kx [(5, (vi 0))] [(0, some (bx (encR (ofQ (Rat.divInt n d)))))] (zM <| zE (oCl (g_whole1 n (by omega) (by omega))) <| zM <| zE (oCl (g_whole1 d (by omega) (by omega))) <| zE (oCl (g_newO (ofZ n) n (iok_up (iok_int (z := n) (by omega) (by omega)) (by decide)) (ofZ d) d (iok_up (iok_int (z := d) (by omega) (by omega)) (by decide)) hd)) <| zE oEx <| zE oEx <| zT (oSt sh34) <| zM <| zZ) ?_
  refine pwp_ret ⟨_, (res_a (cs := (bx (encR (ofQ (Rat.divInt n d))))) (d := (encR (ofQ (Rat.divInt n d)))) rfl rfl sh34 rfl rfl (.tmp (d := (.val (.int .i64 (0)))) rfl .nil)), ?_⟩
  rfl
end Go.Proofs.Ytleidgohjckmlaa
