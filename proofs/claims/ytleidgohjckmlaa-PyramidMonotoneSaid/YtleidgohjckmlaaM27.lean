/- Part 27 of a proof: rules, plain facts, and functions walked. -/
import Derived.Test.YtleidgohjckmlaaM26
import Derived.Test.YtleidgohjckmlaaM17
import Derived.Test.YtleidgohjckmlaaM16
import Derived.Test.YtleidgohjckmlaaM12
import Derived.Test.YtleidgohjckmlaaM20
import Derived.Test.YtleidgohjckmlaaM21
set_option linter.unusedVariables false
set_option linter.unusedSimpArgs false
namespace Go.Fid
def nq (a b c d : Int) : Int := (((a * a) + (b * b)) + (c * c)) + (d * d)
def N4 (a b c d : Int) : Rat := ((nq a b c d : Int) : Rat)
def r02 (a b c d : Int) : Int := 2 * ((b * d) + (a * c))
def R02 (a b c d : Int) : Rat := ((r02 a b c d : Int) : Rat)
def r12 (a b c d : Int) : Int := 2 * ((c * d) - (a * b))
def R12 (a b c d : Int) : Rat := ((r12 a b c d : Int) : Rat)
def r22 (a b c d : Int) : Int := (((a * a) - (b * b)) - (c * c)) + (d * d)
def R22 (a b c d : Int) : Rat := ((r22 a b c d : Int) : Rat)
def gcd3 (a b c : Rat) : Int := ((Int.gcd a.num ((Int.gcd b.num c.num : Nat) : Int) : Nat) : Int)
def redK (a b c : Rat) : Rat := Rat.divInt 1 (gcd3 a b c)
def dq0 (a b c d p q r s : Int) : Rat := (R02 a b c d * N4 p q r s) + (R02 p q r s * N4 a b c d)
def dq1 (a b c d p q r s : Int) : Rat := (R12 a b c d * N4 p q r s) + (R12 p q r s * N4 a b c d)
def dq2 (a b c d p q r s : Int) : Rat := (R22 a b c d * N4 p q r s) + (R22 p q r s * N4 a b c d)
def RFr (lx ly lz la lb lc ld rx ry rz ra rb rc rd : Int) (b0 b1 b2 e00 e01 e02 e10 e11 e12 e20 e21 e22 : Rat) : Prop :=
  (((rx - lx) : Int) : Rat) = b0 ∧
  (((ry - ly) : Int) : Rat) = b1 ∧
  (((rz - lz) : Int) : Rat) = b2 ∧
  b0 * redK b0 b1 b2 = e00 ∧
  b1 * redK b0 b1 b2 = e01 ∧
  b2 * redK b0 b1 b2 = e02 ∧
  (((dq1 la lb lc ld ra rb rc rd) * e02) - ((dq2 la lb lc ld ra rb rc rd) * e01)) * redK (((dq1 la lb lc ld ra rb rc rd) * e02) - ((dq2 la lb lc ld ra rb rc rd) * e01)) (((dq2 la lb lc ld ra rb rc rd) * e00) - ((dq0 la lb lc ld ra rb rc rd) * e02)) (((dq0 la lb lc ld ra rb rc rd) * e01) - ((dq1 la lb lc ld ra rb rc rd) * e00)) = e10 ∧
  (((dq2 la lb lc ld ra rb rc rd) * e00) - ((dq0 la lb lc ld ra rb rc rd) * e02)) * redK (((dq1 la lb lc ld ra rb rc rd) * e02) - ((dq2 la lb lc ld ra rb rc rd) * e01)) (((dq2 la lb lc ld ra rb rc rd) * e00) - ((dq0 la lb lc ld ra rb rc rd) * e02)) (((dq0 la lb lc ld ra rb rc rd) * e01) - ((dq1 la lb lc ld ra rb rc rd) * e00)) = e11 ∧
  (((dq0 la lb lc ld ra rb rc rd) * e01) - ((dq1 la lb lc ld ra rb rc rd) * e00)) * redK (((dq1 la lb lc ld ra rb rc rd) * e02) - ((dq2 la lb lc ld ra rb rc rd) * e01)) (((dq2 la lb lc ld ra rb rc rd) * e00) - ((dq0 la lb lc ld ra rb rc rd) * e02)) (((dq0 la lb lc ld ra rb rc rd) * e01) - ((dq1 la lb lc ld ra rb rc rd) * e00)) = e12 ∧
  ((e01 * e12) - (e02 * e11)) * redK ((e01 * e12) - (e02 * e11)) ((e02 * e10) - (e00 * e12)) ((e00 * e11) - (e01 * e10)) = e20 ∧
  ((e02 * e10) - (e00 * e12)) * redK ((e01 * e12) - (e02 * e11)) ((e02 * e10) - (e00 * e12)) ((e00 * e11) - (e01 * e10)) = e21 ∧
  ((e00 * e11) - (e01 * e10)) * redK ((e01 * e12) - (e02 * e11)) ((e02 * e10) - (e00 * e12)) ((e00 * e11) - (e01 * e10)) = e22
instance {lx ly lz la lb lc ld rx ry rz ra rb rc rd : Int} {b0 b1 b2 e00 e01 e02 e10 e11 e12 e20 e21 e22 : Rat} : Decidable (RFr lx ly lz la lb lc ld rx ry rz ra rb rc rd b0 b1 b2 e00 e01 e02 e10 e11 e12 e20 e21 e22) := by unfold RFr; infer_instance
section
variable {lx ly lz la lb lc ld rx ry rz ra rb rc rd : Int} {b0 b1 b2 e00 e01 e02 e10 e11 e12 e20 e21 e22 : Rat}
end
end Go.Fid
set_option linter.unusedVariables false
set_option linter.unusedSimpArgs false
namespace Go.Fid
end Go.Fid
set_option linter.unusedVariables false
set_option linter.unusedSimpArgs false
namespace Go.Fid
end Go.Fid
set_option linter.unusedVariables false
set_option linter.unusedSimpArgs false
namespace Go.Fid
theorem den_pos (u : Rat) : ((u.den : Nat) : Int) ≠ 0 := by have := u.den_pos; omega
end Go.Fid
namespace Go.Proofs.Ytleidgohjckmlaa
open Go.Fid
set_option maxRecDepth 4000
set_option linter.unusedVariables false
set_option linter.unusedSimpArgs false
theorem cb38 : callB Try.prog 38 = true := by kernel_rfl
theorem cb53 : callB Try.prog 53 = true := by kernel_rfl
theorem f_counted (x : RInt) (a : Int) (hx : IOk x a 68719476736) : Takes Try.prog 53 [(encI x)] (encI (ofZ a)) := by
  refine fn_intro Try.func53 rfl cb53 rfl ?_
  show PWp _ _ _ _ ⟨[(0, (.d (encI x)))], []⟩
  refine pwp_seq <| kx [(1, (.ref 0 0)), (2, (.ref 1 0))] [(0, some (bx (encI x))), (1, some (bx (encI (RInt.mk false []))))] (zN (oBx 0) <| zN (oAl 1 ze32 zo32) <| zZ) ?_
  refine pwp_seq <| pwp_seq <| kx [(4, (vb (validI x)))] [] (zR (oLa sh32) <| zE (oCl (t_valid x (Nat.le_trans hx.l (by decide)))) <| zZ) ?_
  refine pwp_cond (b := (validI x)) rfl (fun h1 => ?_) (fun h1 => ?_)
  · refine pwp_seq <| kx [] [(1, some (bx (encI x)))] (zR (oLa sh32) <| zT (oSt sh32) <| zZ) ?_
    refine pwp_ret ⟨_, (res_a (cs := (bx (encI x))) (d := (encI x)) rfl rfl sh32 rfl rfl .nil), ?_⟩
    rw [← hx.v, ofZ_toZ h1]; rfl
  · refine pwp_skip <| pwp_seq <| kx [] [(1, some (bx (encI (ofZ 0))))] (zE (oCl (t_of 0 (by decide) (by decide))) <| zT (oSt sh32) <| zZ) ?_
    refine pwp_ret ⟨_, (res_a (cs := (bx (encI (ofZ 0)))) (d := (encI (ofZ 0))) rfl rfl sh32 rfl rfl .nil), ?_⟩
    rw [← hx.v, toZ_bad h1, ofZ_zero]; rfl
theorem f_newO (num : RInt) (a : Int) (hnum : IOk num a 68719476736) (den : RInt) (b : Int) (hden : IOk den b 68719476736) (hb : b ≠ 0) : Takes Try.prog 38 [(encI num), (encI den)] (.tup [(encR (ofQ (Rat.divInt a b))), (.val (.int .i64 (0)))]) := by
  refine fn_intro Try.func38 rfl cb38 rfl ?_
  show PWp _ _ _ _ ⟨[(0, (.d (encI num))), (1, (.d (encI den)))], []⟩
  refine pwp_seq <| kx [(2, (.ref 0 0)), (3, (.ref 1 0)), (4, (.ref 2 0))] [(0, some (bx (encI num))), (1, some (bx (encI den))), (2, some (bx (encR (RRat.mk (RInt.mk false []) (RInt.mk false [])))))] (zN (oBx 0) <| zN (oBx 1) <| zN (oAl 2 ze34 zo34) <| zM <| zZ) ?_
  refine pwp_seq <| kd [] [(0, some (bx (encI (ofZ a)))), (1, some (bx (encI (ofZ b))))] mo (wR (oLa sh32) <| wE (oCl (f_counted num a hnum)) <| wR (oLa sh32) <| wE (oCl (f_counted den b hden)) <| wT (oSt sh32) <| wT (oSt sh32) <| wZ) ?_
  refine pwp_seq <| pwp_seq <| kx [(12, (vb false))] [] (zR (oLa sh32) <| zE (oCl (s_sign (iok_of (IOk.ln hden)) (by decide))) <| zE (oBk false oEq (by exact beq_eq_false_iff_ne.2 (signI_ne hb))) <| zZ) ?_
  refine pwp_cond (b := false) (by kernel_rfl) (fun h => by cases h) (fun _ => ?_)
  refine pwp_skip <| pwp_seq <| kx [(5, (vin 0))] [(2, some (bx (encR (ofQ (Rat.divInt a b)))))] (zR (oLa sh32) <| zR (oLa sh32) <| zE (oCl (f_reduced (ofZ a) (ofZ b) a b (iok_of (IOk.ln hnum)) (iok_of (IOk.ln hden)) (by assumption))) <| zT (oSt sh34) <| zM <| zZ) ?_
  refine pwp_ret ⟨_, (res_a (cs := (bx (encR (ofQ (Rat.divInt a b))))) (d := (encR (ofQ (Rat.divInt a b)))) rfl rfl sh34 rfl rfl (.tmp (d := (.val (.int .i64 (0)))) rfl .nil)), ?_⟩
  rfl
end Go.Proofs.Ytleidgohjckmlaa
namespace Go.Fid
end Go.Fid
namespace Go.Proofs.Ytleidgohjckmlaa
open Go.Fid
set_option maxRecDepth 4000
set_option linter.unusedVariables false
set_option linter.unusedSimpArgs false
end Go.Proofs.Ytleidgohjckmlaa
namespace Go.Proofs.Ytleidgohjckmlaa
open Go.Fid
set_option maxRecDepth 4000
set_option linter.unusedVariables false
set_option linter.unusedSimpArgs false
theorem cb28 : callB Try.prog 28 = true := by kernel_rfl
theorem q_of (n : Int) (hnl : -9223372036854775808 ≤ n) (hnh : n ≤ 9223372036854775807) (d : Int) (hdl : -9223372036854775808 ≤ d) (hdh : d ≤ 9223372036854775807) (hd : d ≠ 0) : Takes Try.prog 28 [(.val (.int .i64 (n))), (.val (.int .i64 (d)))] (.tup [(encR (ofQ (Rat.divInt n d))), (.val (.int .i64 (0)))]) := by
  refine fn_intro Try.func28 rfl cb28 rfl ?_
  show PWp _ _ _ _ ⟨[(0, (vi n)), (1, (vi d))], []⟩
  refine pwp_seq <| kx [(4, (.ref 0 0))] [(0, some (bx (encR (RRat.mk (RInt.mk false []) (RInt.mk false [])))))] (zN (oAl 0 ze34 zo34) <| zM <| zZ) ?_
  refine pwp_seq <| kx [(5, (vi 0))] [(0, some (bx (encR (ofQ (Rat.divInt n d)))))] (zM <| zE (oCl (t_of n (by omega) (by omega))) <| zM <| zE (oCl (t_of d (by omega) (by omega))) <| zE (oCl (f_newO (ofZ n) n (iok_up (iok_int (z := n) (by omega) (by omega)) (by decide)) (ofZ d) d (iok_up (iok_int (z := d) (by omega) (by omega)) (by decide)) hd)) <| zE oEx <| zE oEx <| zT (oSt sh34) <| zM <| zZ) ?_
  refine pwp_ret ⟨_, (res_a (cs := (bx (encR (ofQ (Rat.divInt n d))))) (d := (encR (ofQ (Rat.divInt n d)))) rfl rfl sh34 rfl rfl (.tmp (d := (.val (.int .i64 (0)))) rfl .nil)), ?_⟩
  rfl
end Go.Proofs.Ytleidgohjckmlaa
namespace Go.Proofs.Ytleidgohjckmlaa
open Go.Fid
set_option maxRecDepth 4000
set_option linter.unusedVariables false
set_option linter.unusedSimpArgs false
theorem ar55 : arrB Try.prog 55 = some (3, 3, 1) := by kernel_rfl
theorem cb8 : callB Try.prog 8 = true := by kernel_rfl
theorem cb10 : callB Try.prog 10 = true := by kernel_rfl
theorem cb16 : callB Try.prog 16 = true := by kernel_rfl
theorem cb25 : callB Try.prog 25 = true := by kernel_rfl
theorem sh55 : shapeB Try.prog 55 = some (true, 3) := by kernel_rfl
theorem ze55 : zeroB Try.prog 55 = some [.int .i64 0, .int .i64 0, .int .i64 0] := by kernel_rfl
theorem zo55 : ZOk [.int .i64 0, .int .i64 0, .int .i64 0] [.val (.int .i64 0), .val (.int .i64 0), .val (.int .i64 0)] := by simp [ZOk, Value.oneCell']
theorem p_smo (w h : Nat) (mx : Int) (px : List Int) (hv : RstOk w h px) (hb : px.length ≤ 1000000) (hc : chkC ((w : Nat) : Int) ((h : Nat) : Int) mx px = 0) : Takes Try.prog 8 [(encRst (RRst.mk ((w : Nat) : Int) ((h : Nat) : Int) mx px))] (.tup [(encRst (RRst.mk ((w : Nat) : Int) ((h : Nat) : Int) mx (smV w h px))), (.val (.int .i64 (0)))]) := by
  have hv0 := hv
  obtain ⟨w1, w2, w3, w4, w5, w6⟩ := hv
  let y4 := (encRst (RRst.mk ((w : Nat) : Int) ((h : Nat) : Int) mx px))
  let y3 := (bx y4)
  let y2 := (encA55 (A3.mk ((1 : Nat) : Int) ((2 : Nat) : Int) ((1 : Nat) : Int)))
  let y1 := (bx y2)
  refine fn_intro Try.func8 rfl cb8 rfl ?_
  show PWp _ _ _ _ ⟨[(0, (.d y4))], []⟩
  refine pwp_seq <| kx [(1, (.ref 0 0)), (2, (.ref 1 0))] [(0, some y3), (1, some (bx (encRst (RRst.mk 0 0 0 []))))] (zN (oBx 0) <| zN (oAl 1 ze24 zo24) <| zM <| zZ) ?_
  refine pwp_seq <| pwp_seq <| kx [(4, (vi (chkC ((w : Nat) : Int) ((h : Nat) : Int) mx px)))] [] (zR (oLa sh24) <| zE (oCl (p_chk ((w : Nat) : Int) ((h : Nat) : Int) mx px hb)) <| zM <| zZ) ?_
  refine pwp_seq <| kx [(18, (vb false))] [] (zM <| zE (oBk false oNe (by exact bne_eq_false_iff_eq.2 hc)) <| zZ) ?_
  refine pwp_cond (b := false) (by kernel_rfl) (fun h => by cases h) (fun _ => ?_)
  refine pwp_skip <| pwp_seq <| kx [(5, (.ref 2 0))] [(2, some (bx (.agg [(.val (.int .i64 (((w : Nat) : Int)))), (.val (.int .i64 (((h : Nat) : Int)))), (.val (.int .i64 (mx))), (.val (.slice none 0 0))])))] (zE (oFr fo24_0) <| zR (oL1 sh3) <| zE (oFr fo24_1) <| zR (oL1 sh3) <| zE (oFr fo24_2) <| zR (oL1 sh3) <| zE (oBd pl24 ze24 zn24) <| zN (oAl 2 ze24 zo24) <| zT (oSt sh24) <| zZ) ?_
  refine pwp_seq <| kx [(6, (.clo 27 [0]))] [] (zE (oMf [0]) <| zM <| zZ) ?_
  refine pwp_seq <| kx [(7, (.ref 3 0))] [(3, some y1)] (zE (oBf ar55 ze55 zo55) <| zN (oAl 3 ze55 zo55) <| zT (oSt sh55) <| zZ) ?_
  refine pwp_seq <| pwp_seq <| pwp_own 2 3 4 3 1 (cs := (bx (.agg [(.val (.int .i64 (((w : Nat) : Int)))), (.val (.int .i64 (((h : Nat) : Int)))), (.val (.int .i64 (mx))), (.val (.slice none 0 0))]))) (h := ?_)
  refine pwp_sim (wk (l := [(1, (.ref 0 0)), (2, (.ref 1 0)), (5, (.ref 2 0)), (6, (.clo 27 [0])), (7, (.ref 3 0))]) (b := [(0, some y3), (1, some (bx (encRst (RRst.mk 0 0 0 [])))), (2, some [(vin w), (vin h), (vi mx), (.own 4 3 1 0)]), (3, some y1), (4, some (bm enc_i64 []))])) ?_
  refine kx [(31, (vin h)), (32, (vin 0))] [] (zE (oFr fo24_1) <| zR (oL1 sh3) <| zM <| zZ) ?_
  refine pwp_block <| pwp_loop (α := Nat × List Int) (fun (y, out) => ⟨[(1, (.ref 0 0)), (2, (.ref 1 0)), (5, (.ref 2 0)), (6, (.clo 27 [0])), (7, (.ref 3 0)), (31, (vin h)), (32, (vin y))], [(0, some y3), (1, some (bx (encRst (RRst.mk 0 0 0 [])))), (2, some [(vin w), (vin h), (vi mx), (.own 4 3 1 out.length)]), (3, some y1), (4, some (bm enc_i64 out))]⟩) (fun (y, out) => y ≤ h ∧ out = (List.range (y * w + 0)).map (smP w h px)) (fun (y, out) => h - y) (0, []) wk ⟨Nat.zero_le _, by rw [Nat.zero_mul]; rfl⟩ ?_
  rintro ⟨y, out⟩ ⟨hy, ho⟩
  refine pwp_seq <| kx [(33, (vb (decide (((y : Nat) : Int) < ((h : Nat) : Int)))))] [] (zE oLt <| zZ) ?_
  refine pwp_seq <| pwp_cond rfl (fun h1 => ?_) (fun h1 => ?_)
  · replace h1 := of_decide_eq_true h1
    refine pwp_skip <| pwp_seq <| pwp_block <| pwp_seq <| kx [(8, (vin y))] [] (zM <| zM <| zZ) ?_
    refine pwp_seq <| kx [(36, (vin w)), (37, (vin 0))] [] (zE (oFr fo24_0) <| zR (oL1 sh3) <| zM <| zZ) ?_
    refine pwp_block <| pwp_loop (α := Nat × List Int) (fun (x, ou2) => ⟨[(1, (.ref 0 0)), (2, (.ref 1 0)), (5, (.ref 2 0)), (6, (.clo 27 [0])), (7, (.ref 3 0)), (8, (vin y)), (31, (vin h)), (32, (vin y)), (36, (vin w)), (37, (vin x))], [(0, some y3), (1, some (bx (encRst (RRst.mk 0 0 0 [])))), (2, some [(vin w), (vin h), (vi mx), (.own 4 3 1 ou2.length)]), (3, some y1), (4, some (bm enc_i64 ou2))]⟩) (fun (x, ou2) => x ≤ w ∧ ou2 = (List.range (y * w + x)).map (smP w h px)) (fun (x, ou2) => w - x) (0, out) wk ⟨Nat.zero_le _, ho⟩ ?_
    rintro ⟨x, ou2⟩ ⟨hx, ho2⟩
    have hol : ou2.length ≤ 1000000 := by rw [ho2, List.length_map, List.length_range]; exact lin_le w2 w4 hy hx
    have hp00 := pix_bd hv0 (((x : Nat) : Int) - 1) (((y : Nat) : Int) - 1)
    have hp10 := pix_bd hv0 ((x : Nat) : Int) (((y : Nat) : Int) - 1)
    have hp20 := pix_bd hv0 (((x : Nat) : Int) + 1) (((y : Nat) : Int) - 1)
    have hp01 := pix_bd hv0 (((x : Nat) : Int) - 1) ((y : Nat) : Int)
    have hp11 := pix_bd hv0 ((x : Nat) : Int) ((y : Nat) : Int)
    have hp21 := pix_bd hv0 (((x : Nat) : Int) + 1) ((y : Nat) : Int)
    have hp02 := pix_bd hv0 (((x : Nat) : Int) - 1) (((y : Nat) : Int) + 1)
    have hp12 := pix_bd hv0 ((x : Nat) : Int) (((y : Nat) : Int) + 1)
    have hp22 := pix_bd hv0 (((x : Nat) : Int) + 1) (((y : Nat) : Int) + 1)
    have hsm := smS_le (a := -65535) (b := 65535) hv0 hv0.2.2.2.2.2 ((x : Nat) : Int) ((y : Nat) : Int)
    refine pwp_seq <| kx [(38, (vb (decide (((x : Nat) : Int) < ((w : Nat) : Int)))))] [] (zE oLt <| zZ) ?_
    refine pwp_seq <| pwp_cond rfl (fun h2 => ?_) (fun h2 => ?_)
    · replace h2 := of_decide_eq_true h2
      refine pwp_skip <| pwp_seq <| pwp_block <| pwp_seq <| kx [(9, (vin x))] [] (zM <| zM <| zZ) ?_
      refine pwp_seq <| kx [(10, (vin 8))] [] (zM <| zZ) ?_
      refine pwp_seq <| pwp_seq <| kx [(40, (.d y2)), (41, (vin 0))] [] (zR (oLa sh55) <| zM <| zZ) ?_
      refine pwp_block <| pwp_rounds 4 ?_
      refine pwp_round <| pwp_seq <| kx [(42, (vb true))] [] (zE (oBk true oLt) <| zZ) ?_
      refine pwp_seq <| pwp_cond (b := true) (by kernel_rfl) (fun _ => ?_) (fun h => by cases h)
      refine pwp_skip <| pwp_seq <| pwp_block <| pwp_seq <| kx [(11, (vin 0)), (12, (vin 1))] [] (zM <| zE (oXa ar55 sh3 (fun _ => rfl) 0) <| zM <| zM <| zZ) ?_
      refine pwp_seq <| kx [(45, (.d y2)), (46, (vin 0))] [] (zR (oLa sh55) <| zM <| zZ) ?_
      refine pwp_block <| pwp_rounds 4 ?_
      refine pwp_round <| pwp_seq <| kx [(47, (vb true))] [] (zE (oBk true oLt) <| zZ) ?_
      refine pwp_seq <| pwp_cond (b := true) (by kernel_rfl) (fun _ => ?_) (fun h => by cases h)
      refine pwp_skip <| pwp_seq <| pwp_block <| pwp_seq <| kx [(13, (vin 0)), (14, (vin 1))] [] (zM <| zE (oXa ar55 sh3 (fun _ => rfl) 0) <| zM <| zM <| zZ) ?_
      refine kx [(10, (vi (((8 : Nat) : Int) + (((1 : Nat) : Int) * (pixA w h px (((x : Nat) : Int) - 1) (((y : Nat) : Int) - 1))))))] [] (zM <| zM <| zM <| zE (oMl 1 (hr := by decide)) <| zM <| zM <| zM <| zE (oAd (x + 0)) <| zE (zSb (((x : Nat) : Int) - 1)) <| zM <| zM <| zE (oAd (y + 0)) <| zE (zSb (((y : Nat) : Int) - 1)) <| zC (oCc (ds := [(.val (.int .i64 ((((x : Nat) : Int) - 1)))), (.val (.int .i64 ((((y : Nat) : Int) - 1))))]) [0] [(Dat.cells y4)] (p_pix (((x : Nat) : Int) - 1) (((y : Nat) : Int) - 1) w h mx px hv0 (by omega) (by omega) (by omega) (by omega)) (.val _)) <| zE (zMl (((1 : Nat) : Int) * (pixA w h px (((x : Nat) : Int) - 1) (((y : Nat) : Int) - 1)))) <| zE (zAd (((8 : Nat) : Int) + (((1 : Nat) : Int) * (pixA w h px (((x : Nat) : Int) - 1) (((y : Nat) : Int) - 1))))) <| zM <| zZ) ?_
      refine kx [(46, (vin 1))] [] (zE (oAd 1 (hr := by decide)) <| zM <| zZ) ?_
      refine pwp_again (SimImp.refl _) ?_
      refine pwp_seq <| kx [(47, (vb true))] [] (zE (oBk true oLt) <| zZ) ?_
      refine pwp_seq <| pwp_cond (b := true) (by kernel_rfl) (fun _ => ?_) (fun h => by cases h)
      refine pwp_skip <| pwp_seq <| pwp_block <| pwp_seq <| kx [(13, (vin 1)), (14, (vin 2))] [] (zM <| zE (oXa ar55 sh3 (fun _ => rfl) 1) <| zM <| zM <| zZ) ?_
      refine kx [(10, (vi ((((8 : Nat) : Int) + (((1 : Nat) : Int) * (pixA w h px (((x : Nat) : Int) - 1) (((y : Nat) : Int) - 1)))) + (((2 : Nat) : Int) * (pixA w h px ((x : Nat) : Int) (((y : Nat) : Int) - 1))))))] [] (zM <| zM <| zM <| zE (oMl 2 (hr := by decide)) <| zM <| zM <| zM <| zE (oAd (x + 1)) <| zE (zSb ((x : Nat) : Int)) <| zM <| zM <| zE (oAd (y + 0)) <| zE (zSb (((y : Nat) : Int) - 1)) <| zC (oCc (ds := [(.val (.int .i64 (((x : Nat) : Int)))), (.val (.int .i64 ((((y : Nat) : Int) - 1))))]) [0] [(Dat.cells y4)] (p_pix ((x : Nat) : Int) (((y : Nat) : Int) - 1) w h mx px hv0 (by omega) (by omega) (by omega) (by omega)) (.val _)) <| zE (zMl (((2 : Nat) : Int) * (pixA w h px ((x : Nat) : Int) (((y : Nat) : Int) - 1)))) <| zE (zAd ((((8 : Nat) : Int) + (((1 : Nat) : Int) * (pixA w h px (((x : Nat) : Int) - 1) (((y : Nat) : Int) - 1)))) + (((2 : Nat) : Int) * (pixA w h px ((x : Nat) : Int) (((y : Nat) : Int) - 1))))) <| zM <| zZ) ?_
      refine pwp_sim (wk (l := [(1, (.ref 0 0)), (2, (.ref 1 0)), (5, (.ref 2 0)), (6, (.clo 27 [0])), (7, (.ref 3 0)), (8, (vin y)), (9, (vin x)), (10, (vi ((((8 : Nat) : Int) + (((1 : Nat) : Int) * (pixA w h px (((x : Nat) : Int) - 1) (((y : Nat) : Int) - 1)))) + (((2 : Nat) : Int) * (pixA w h px ((x : Nat) : Int) (((y : Nat) : Int) - 1)))))), (11, (vin 0)), (12, (vin 1)), (31, (vin h)), (32, (vin y)), (36, (vin w)), (37, (vin x)), (40, (.d y2)), (41, (vin 0)), (45, (.d y2)), (46, (vin 1))]) (b := [(0, some y3), (1, some (bx (encRst (RRst.mk 0 0 0 [])))), (2, some [(vin w), (vin h), (vi mx), (.own 4 3 1 ou2.length)]), (3, some y1), (4, some (bm enc_i64 ou2))])) ?_
      refine kx [(46, (vin 2))] [] (zE (oAd 2 (hr := by decide)) <| zM <| zZ) ?_
      refine pwp_again (SimImp.refl _) ?_
      refine pwp_seq <| kx [(47, (vb true))] [] (zE (oBk true oLt) <| zZ) ?_
      refine pwp_seq <| pwp_cond (b := true) (by kernel_rfl) (fun _ => ?_) (fun h => by cases h)
      refine pwp_skip <| pwp_seq <| pwp_block <| pwp_seq <| kx [(13, (vin 2)), (14, (vin 1))] [] (zM <| zE (oXa ar55 sh3 (fun _ => rfl) 2) <| zM <| zM <| zZ) ?_
      refine kx [(10, (vi (((((8 : Nat) : Int) + (((1 : Nat) : Int) * (pixA w h px (((x : Nat) : Int) - 1) (((y : Nat) : Int) - 1)))) + (((2 : Nat) : Int) * (pixA w h px ((x : Nat) : Int) (((y : Nat) : Int) - 1)))) + (((1 : Nat) : Int) * (pixA w h px (((x : Nat) : Int) + 1) (((y : Nat) : Int) - 1))))))] [] (zM <| zM <| zM <| zE (oMl 1 (hr := by decide)) <| zM <| zM <| zM <| zE (oAd (x + 2)) <| zE (zSb (((x : Nat) : Int) + 1)) <| zM <| zM <| zE (oAd (y + 0)) <| zE (zSb (((y : Nat) : Int) - 1)) <| zC (oCc (ds := [(.val (.int .i64 ((((x : Nat) : Int) + 1)))), (.val (.int .i64 ((((y : Nat) : Int) - 1))))]) [0] [(Dat.cells y4)] (p_pix (((x : Nat) : Int) + 1) (((y : Nat) : Int) - 1) w h mx px hv0 (by omega) (by omega) (by omega) (by omega)) (.val _)) <| zE (zMl (((1 : Nat) : Int) * (pixA w h px (((x : Nat) : Int) + 1) (((y : Nat) : Int) - 1)))) <| zE (zAd (((((8 : Nat) : Int) + (((1 : Nat) : Int) * (pixA w h px (((x : Nat) : Int) - 1) (((y : Nat) : Int) - 1)))) + (((2 : Nat) : Int) * (pixA w h px ((x : Nat) : Int) (((y : Nat) : Int) - 1)))) + (((1 : Nat) : Int) * (pixA w h px (((x : Nat) : Int) + 1) (((y : Nat) : Int) - 1))))) <| zM <| zZ) ?_
      refine kx [(46, (vin 3))] [] (zE (oAd 3 (hr := by decide)) <| zM <| zZ) ?_
      refine pwp_again (SimImp.refl _) ?_
      refine pwp_seq <| kx [(47, (vb false))] [] (zE (oBk false oLt) <| zZ) ?_
      refine pwp_seq <| pwp_cond (b := false) (by kernel_rfl) (fun h => by cases h) (fun _ => ?_)
      refine pwp_exit <| kx [(41, (vin 1))] [] (zE (oAd 1 (hr := by decide)) <| zM <| zZ) ?_
      refine pwp_again (SimImp.refl _) ?_
      refine pwp_seq <| kx [(42, (vb true))] [] (zE (oBk true oLt) <| zZ) ?_
      refine pwp_seq <| pwp_cond (b := true) (by kernel_rfl) (fun _ => ?_) (fun h => by cases h)
      refine pwp_skip <| pwp_seq <| pwp_block <| pwp_seq <| kx [(11, (vin 1)), (12, (vin 2))] [] (zM <| zE (oXa ar55 sh3 (fun _ => rfl) 1) <| zM <| zM <| zZ) ?_
      refine pwp_seq <| kx [(45, (.d y2)), (46, (vin 0))] [] (zR (oLa sh55) <| zM <| zZ) ?_
      refine pwp_block <| pwp_rounds 4 ?_
      refine pwp_round <| pwp_seq <| kx [(47, (vb true))] [] (zE (oBk true oLt) <| zZ) ?_
      refine pwp_seq <| pwp_cond (b := true) (by kernel_rfl) (fun _ => ?_) (fun h => by cases h)
      refine pwp_skip <| pwp_seq <| pwp_block <| pwp_seq <| kx [(13, (vin 0)), (14, (vin 1))] [] (zM <| zE (oXa ar55 sh3 (fun _ => rfl) 0) <| zM <| zM <| zZ) ?_
      refine kx [(10, (vi ((((((8 : Nat) : Int) + (((1 : Nat) : Int) * (pixA w h px (((x : Nat) : Int) - 1) (((y : Nat) : Int) - 1)))) + (((2 : Nat) : Int) * (pixA w h px ((x : Nat) : Int) (((y : Nat) : Int) - 1)))) + (((1 : Nat) : Int) * (pixA w h px (((x : Nat) : Int) + 1) (((y : Nat) : Int) - 1)))) + (((2 : Nat) : Int) * (pixA w h px (((x : Nat) : Int) - 1) ((y : Nat) : Int))))))] [] (zM <| zM <| zM <| zE (oMl 2 (hr := by decide)) <| zM <| zM <| zM <| zE (oAd (x + 0)) <| zE (zSb (((x : Nat) : Int) - 1)) <| zM <| zM <| zE (oAd (y + 1)) <| zE (zSb ((y : Nat) : Int)) <| zC (oCc (ds := [(.val (.int .i64 ((((x : Nat) : Int) - 1)))), (.val (.int .i64 (((y : Nat) : Int))))]) [0] [(Dat.cells y4)] (p_pix (((x : Nat) : Int) - 1) ((y : Nat) : Int) w h mx px hv0 (by omega) (by omega) (by omega) (by omega)) (.val _)) <| zE (zMl (((2 : Nat) : Int) * (pixA w h px (((x : Nat) : Int) - 1) ((y : Nat) : Int)))) <| zE (zAd ((((((8 : Nat) : Int) + (((1 : Nat) : Int) * (pixA w h px (((x : Nat) : Int) - 1) (((y : Nat) : Int) - 1)))) + (((2 : Nat) : Int) * (pixA w h px ((x : Nat) : Int) (((y : Nat) : Int) - 1)))) + (((1 : Nat) : Int) * (pixA w h px (((x : Nat) : Int) + 1) (((y : Nat) : Int) - 1)))) + (((2 : Nat) : Int) * (pixA w h px (((x : Nat) : Int) - 1) ((y : Nat) : Int))))) <| zM <| zZ) ?_
      refine kx [(46, (vin 1))] [] (zE (oAd 1 (hr := by decide)) <| zM <| zZ) ?_
      refine pwp_again (SimImp.refl _) ?_
      refine pwp_seq <| pwp_sim (wk (l := [(1, (.ref 0 0)), (2, (.ref 1 0)), (5, (.ref 2 0)), (6, (.clo 27 [0])), (7, (.ref 3 0)), (8, (vin y)), (9, (vin x)), (10, (vi ((((((8 : Nat) : Int) + (((1 : Nat) : Int) * (pixA w h px (((x : Nat) : Int) - 1) (((y : Nat) : Int) - 1)))) + (((2 : Nat) : Int) * (pixA w h px ((x : Nat) : Int) (((y : Nat) : Int) - 1)))) + (((1 : Nat) : Int) * (pixA w h px (((x : Nat) : Int) + 1) (((y : Nat) : Int) - 1)))) + (((2 : Nat) : Int) * (pixA w h px (((x : Nat) : Int) - 1) ((y : Nat) : Int)))))), (11, (vin 1)), (12, (vin 2)), (31, (vin h)), (32, (vin y)), (36, (vin w)), (37, (vin x)), (40, (.d y2)), (41, (vin 1)), (45, (.d y2)), (46, (vin 1))]) (b := [(0, some y3), (1, some (bx (encRst (RRst.mk 0 0 0 [])))), (2, some [(vin w), (vin h), (vi mx), (.own 4 3 1 ou2.length)]), (3, some y1), (4, some (bm enc_i64 ou2))])) ?_
      refine kx [(47, (vb true))] [] (zE (oBk true oLt) <| zZ) ?_
      refine pwp_seq <| pwp_cond (b := true) (by kernel_rfl) (fun _ => ?_) (fun h => by cases h)
      refine pwp_skip <| pwp_seq <| pwp_block <| pwp_seq <| kx [(13, (vin 1)), (14, (vin 2))] [] (zM <| zE (oXa ar55 sh3 (fun _ => rfl) 1) <| zM <| zM <| zZ) ?_
      refine kx [(10, (vi (((((((8 : Nat) : Int) + (((1 : Nat) : Int) * (pixA w h px (((x : Nat) : Int) - 1) (((y : Nat) : Int) - 1)))) + (((2 : Nat) : Int) * (pixA w h px ((x : Nat) : Int) (((y : Nat) : Int) - 1)))) + (((1 : Nat) : Int) * (pixA w h px (((x : Nat) : Int) + 1) (((y : Nat) : Int) - 1)))) + (((2 : Nat) : Int) * (pixA w h px (((x : Nat) : Int) - 1) ((y : Nat) : Int)))) + (((4 : Nat) : Int) * (pixA w h px ((x : Nat) : Int) ((y : Nat) : Int))))))] [] (zM <| zM <| zM <| zE (oMl 4 (hr := by decide)) <| zM <| zM <| zM <| zE (oAd (x + 1)) <| zE (zSb ((x : Nat) : Int)) <| zM <| zM <| zE (oAd (y + 1)) <| zE (zSb ((y : Nat) : Int)) <| zC (oCc (ds := [(.val (.int .i64 (((x : Nat) : Int)))), (.val (.int .i64 (((y : Nat) : Int))))]) [0] [(Dat.cells y4)] (p_pix ((x : Nat) : Int) ((y : Nat) : Int) w h mx px hv0 (by omega) (by omega) (by omega) (by omega)) (.val _)) <| zE (zMl (((4 : Nat) : Int) * (pixA w h px ((x : Nat) : Int) ((y : Nat) : Int)))) <| zE (zAd (((((((8 : Nat) : Int) + (((1 : Nat) : Int) * (pixA w h px (((x : Nat) : Int) - 1) (((y : Nat) : Int) - 1)))) + (((2 : Nat) : Int) * (pixA w h px ((x : Nat) : Int) (((y : Nat) : Int) - 1)))) + (((1 : Nat) : Int) * (pixA w h px (((x : Nat) : Int) + 1) (((y : Nat) : Int) - 1)))) + (((2 : Nat) : Int) * (pixA w h px (((x : Nat) : Int) - 1) ((y : Nat) : Int)))) + (((4 : Nat) : Int) * (pixA w h px ((x : Nat) : Int) ((y : Nat) : Int))))) <| zM <| zZ) ?_
      refine kx [(46, (vin 2))] [] (zE (oAd 2 (hr := by decide)) <| zM <| zZ) ?_
      refine pwp_again (SimImp.refl _) ?_
      refine pwp_seq <| kx [(47, (vb true))] [] (zE (oBk true oLt) <| zZ) ?_
      refine pwp_seq <| pwp_cond (b := true) (by kernel_rfl) (fun _ => ?_) (fun h => by cases h)
      refine pwp_skip <| pwp_seq <| pwp_block <| pwp_seq <| kx [(13, (vin 2)), (14, (vin 1))] [] (zM <| zE (oXa ar55 sh3 (fun _ => rfl) 2) <| zM <| zM <| zZ) ?_
      refine kx [(10, (vi ((((((((8 : Nat) : Int) + (((1 : Nat) : Int) * (pixA w h px (((x : Nat) : Int) - 1) (((y : Nat) : Int) - 1)))) + (((2 : Nat) : Int) * (pixA w h px ((x : Nat) : Int) (((y : Nat) : Int) - 1)))) + (((1 : Nat) : Int) * (pixA w h px (((x : Nat) : Int) + 1) (((y : Nat) : Int) - 1)))) + (((2 : Nat) : Int) * (pixA w h px (((x : Nat) : Int) - 1) ((y : Nat) : Int)))) + (((4 : Nat) : Int) * (pixA w h px ((x : Nat) : Int) ((y : Nat) : Int)))) + (((2 : Nat) : Int) * (pixA w h px (((x : Nat) : Int) + 1) ((y : Nat) : Int))))))] [] (zM <| zM <| zM <| zE (oMl 2 (hr := by decide)) <| zM <| zM <| zM <| zE (oAd (x + 2)) <| zE (zSb (((x : Nat) : Int) + 1)) <| zM <| zM <| zE (oAd (y + 1)) <| zE (zSb ((y : Nat) : Int)) <| zC (oCc (ds := [(.val (.int .i64 ((((x : Nat) : Int) + 1)))), (.val (.int .i64 (((y : Nat) : Int))))]) [0] [(Dat.cells y4)] (p_pix (((x : Nat) : Int) + 1) ((y : Nat) : Int) w h mx px hv0 (by omega) (by omega) (by omega) (by omega)) (.val _)) <| zE (zMl (((2 : Nat) : Int) * (pixA w h px (((x : Nat) : Int) + 1) ((y : Nat) : Int)))) <| zE (zAd ((((((((8 : Nat) : Int) + (((1 : Nat) : Int) * (pixA w h px (((x : Nat) : Int) - 1) (((y : Nat) : Int) - 1)))) + (((2 : Nat) : Int) * (pixA w h px ((x : Nat) : Int) (((y : Nat) : Int) - 1)))) + (((1 : Nat) : Int) * (pixA w h px (((x : Nat) : Int) + 1) (((y : Nat) : Int) - 1)))) + (((2 : Nat) : Int) * (pixA w h px (((x : Nat) : Int) - 1) ((y : Nat) : Int)))) + (((4 : Nat) : Int) * (pixA w h px ((x : Nat) : Int) ((y : Nat) : Int)))) + (((2 : Nat) : Int) * (pixA w h px (((x : Nat) : Int) + 1) ((y : Nat) : Int))))) <| zM <| zZ) ?_
      refine kx [(46, (vin 3))] [] (zE (oAd 3 (hr := by decide)) <| zM <| zZ) ?_
      refine pwp_again (SimImp.refl _) ?_
      refine pwp_seq <| kx [(47, (vb false))] [] (zE (oBk false oLt) <| zZ) ?_
      refine pwp_seq <| pwp_cond (b := false) (by kernel_rfl) (fun h => by cases h) (fun _ => ?_)
      refine pwp_exit <| kx [(41, (vin 2))] [] (zE (oAd 2 (hr := by decide)) <| zM <| zZ) ?_
      refine pwp_again (SimImp.refl _) ?_
      refine pwp_seq <| kx [(42, (vb true))] [] (zE (oBk true oLt) <| zZ) ?_
      refine pwp_seq <| pwp_cond (b := true) (by kernel_rfl) (fun _ => ?_) (fun h => by cases h)
      refine pwp_skip <| pwp_seq <| pwp_block <| pwp_seq <| kx [(11, (vin 2)), (12, (vin 1))] [] (zM <| zE (oXa ar55 sh3 (fun _ => rfl) 2) <| zM <| zM <| zZ) ?_
      refine pwp_seq <| kx [(45, (.d y2)), (46, (vin 0))] [] (zR (oLa sh55) <| zM <| zZ) ?_
      refine pwp_block <| pwp_rounds 4 ?_
      refine pwp_round <| pwp_seq <| kx [(47, (vb true))] [] (zE (oBk true oLt) <| zZ) ?_
      refine pwp_seq <| pwp_cond (b := true) (by kernel_rfl) (fun _ => ?_) (fun h => by cases h)
      refine pwp_skip <| pwp_seq <| pwp_block <| pwp_seq <| pwp_sim (wk (l := [(1, (.ref 0 0)), (2, (.ref 1 0)), (5, (.ref 2 0)), (6, (.clo 27 [0])), (7, (.ref 3 0)), (8, (vin y)), (9, (vin x)), (10, (vi ((((((((8 : Nat) : Int) + (((1 : Nat) : Int) * (pixA w h px (((x : Nat) : Int) - 1) (((y : Nat) : Int) - 1)))) + (((2 : Nat) : Int) * (pixA w h px ((x : Nat) : Int) (((y : Nat) : Int) - 1)))) + (((1 : Nat) : Int) * (pixA w h px (((x : Nat) : Int) + 1) (((y : Nat) : Int) - 1)))) + (((2 : Nat) : Int) * (pixA w h px (((x : Nat) : Int) - 1) ((y : Nat) : Int)))) + (((4 : Nat) : Int) * (pixA w h px ((x : Nat) : Int) ((y : Nat) : Int)))) + (((2 : Nat) : Int) * (pixA w h px (((x : Nat) : Int) + 1) ((y : Nat) : Int)))))), (11, (vin 2)), (12, (vin 1)), (31, (vin h)), (32, (vin y)), (36, (vin w)), (37, (vin x)), (40, (.d y2)), (41, (vin 2)), (45, (.d y2)), (46, (vin 0)), (47, (vb true))]) (b := [(0, some y3), (1, some (bx (encRst (RRst.mk 0 0 0 [])))), (2, some [(vin w), (vin h), (vi mx), (.own 4 3 1 ou2.length)]), (3, some y1), (4, some (bm enc_i64 ou2))])) ?_
      refine kx [(13, (vin 0)), (14, (vin 1))] [] (zM <| zE (oXa ar55 sh3 (fun _ => rfl) 0) <| zM <| zM <| zZ) ?_
      refine kx [(10, (vi (((((((((8 : Nat) : Int) + (((1 : Nat) : Int) * (pixA w h px (((x : Nat) : Int) - 1) (((y : Nat) : Int) - 1)))) + (((2 : Nat) : Int) * (pixA w h px ((x : Nat) : Int) (((y : Nat) : Int) - 1)))) + (((1 : Nat) : Int) * (pixA w h px (((x : Nat) : Int) + 1) (((y : Nat) : Int) - 1)))) + (((2 : Nat) : Int) * (pixA w h px (((x : Nat) : Int) - 1) ((y : Nat) : Int)))) + (((4 : Nat) : Int) * (pixA w h px ((x : Nat) : Int) ((y : Nat) : Int)))) + (((2 : Nat) : Int) * (pixA w h px (((x : Nat) : Int) + 1) ((y : Nat) : Int)))) + (((1 : Nat) : Int) * (pixA w h px (((x : Nat) : Int) - 1) (((y : Nat) : Int) + 1))))))] [] (zM <| zM <| zM <| zE (oMl 1 (hr := by decide)) <| zM <| zM <| zM <| zE (oAd (x + 0)) <| zE (zSb (((x : Nat) : Int) - 1)) <| zM <| zM <| zE (oAd (y + 2)) <| zE (zSb (((y : Nat) : Int) + 1)) <| zC (oCc (ds := [(.val (.int .i64 ((((x : Nat) : Int) - 1)))), (.val (.int .i64 ((((y : Nat) : Int) + 1))))]) [0] [(Dat.cells y4)] (p_pix (((x : Nat) : Int) - 1) (((y : Nat) : Int) + 1) w h mx px hv0 (by omega) (by omega) (by omega) (by omega)) (.val _)) <| zE (zMl (((1 : Nat) : Int) * (pixA w h px (((x : Nat) : Int) - 1) (((y : Nat) : Int) + 1)))) <| zE (zAd (((((((((8 : Nat) : Int) + (((1 : Nat) : Int) * (pixA w h px (((x : Nat) : Int) - 1) (((y : Nat) : Int) - 1)))) + (((2 : Nat) : Int) * (pixA w h px ((x : Nat) : Int) (((y : Nat) : Int) - 1)))) + (((1 : Nat) : Int) * (pixA w h px (((x : Nat) : Int) + 1) (((y : Nat) : Int) - 1)))) + (((2 : Nat) : Int) * (pixA w h px (((x : Nat) : Int) - 1) ((y : Nat) : Int)))) + (((4 : Nat) : Int) * (pixA w h px ((x : Nat) : Int) ((y : Nat) : Int)))) + (((2 : Nat) : Int) * (pixA w h px (((x : Nat) : Int) + 1) ((y : Nat) : Int)))) + (((1 : Nat) : Int) * (pixA w h px (((x : Nat) : Int) - 1) (((y : Nat) : Int) + 1))))) <| zM <| zZ) ?_
      refine kx [(46, (vin 1))] [] (zE (oAd 1 (hr := by decide)) <| zM <| zZ) ?_
      refine pwp_again (SimImp.refl _) ?_
      refine pwp_seq <| kx [(47, (vb true))] [] (zE (oBk true oLt) <| zZ) ?_
      refine pwp_seq <| pwp_cond (b := true) (by kernel_rfl) (fun _ => ?_) (fun h => by cases h)
      refine pwp_skip <| pwp_seq <| pwp_block <| pwp_seq <| kx [(13, (vin 1)), (14, (vin 2))] [] (zM <| zE (oXa ar55 sh3 (fun _ => rfl) 1) <| zM <| zM <| zZ) ?_
      refine kx [(10, (vi ((((((((((8 : Nat) : Int) + (((1 : Nat) : Int) * (pixA w h px (((x : Nat) : Int) - 1) (((y : Nat) : Int) - 1)))) + (((2 : Nat) : Int) * (pixA w h px ((x : Nat) : Int) (((y : Nat) : Int) - 1)))) + (((1 : Nat) : Int) * (pixA w h px (((x : Nat) : Int) + 1) (((y : Nat) : Int) - 1)))) + (((2 : Nat) : Int) * (pixA w h px (((x : Nat) : Int) - 1) ((y : Nat) : Int)))) + (((4 : Nat) : Int) * (pixA w h px ((x : Nat) : Int) ((y : Nat) : Int)))) + (((2 : Nat) : Int) * (pixA w h px (((x : Nat) : Int) + 1) ((y : Nat) : Int)))) + (((1 : Nat) : Int) * (pixA w h px (((x : Nat) : Int) - 1) (((y : Nat) : Int) + 1)))) + (((2 : Nat) : Int) * (pixA w h px ((x : Nat) : Int) (((y : Nat) : Int) + 1))))))] [] (zM <| zM <| zM <| zE (oMl 2 (hr := by decide)) <| zM <| zM <| zM <| zE (oAd (x + 1)) <| zE (zSb ((x : Nat) : Int)) <| zM <| zM <| zE (oAd (y + 2)) <| zE (zSb (((y : Nat) : Int) + 1)) <| zC (oCc (ds := [(.val (.int .i64 (((x : Nat) : Int)))), (.val (.int .i64 ((((y : Nat) : Int) + 1))))]) [0] [(Dat.cells y4)] (p_pix ((x : Nat) : Int) (((y : Nat) : Int) + 1) w h mx px hv0 (by omega) (by omega) (by omega) (by omega)) (.val _)) <| zE (zMl (((2 : Nat) : Int) * (pixA w h px ((x : Nat) : Int) (((y : Nat) : Int) + 1)))) <| zE (zAd ((((((((((8 : Nat) : Int) + (((1 : Nat) : Int) * (pixA w h px (((x : Nat) : Int) - 1) (((y : Nat) : Int) - 1)))) + (((2 : Nat) : Int) * (pixA w h px ((x : Nat) : Int) (((y : Nat) : Int) - 1)))) + (((1 : Nat) : Int) * (pixA w h px (((x : Nat) : Int) + 1) (((y : Nat) : Int) - 1)))) + (((2 : Nat) : Int) * (pixA w h px (((x : Nat) : Int) - 1) ((y : Nat) : Int)))) + (((4 : Nat) : Int) * (pixA w h px ((x : Nat) : Int) ((y : Nat) : Int)))) + (((2 : Nat) : Int) * (pixA w h px (((x : Nat) : Int) + 1) ((y : Nat) : Int)))) + (((1 : Nat) : Int) * (pixA w h px (((x : Nat) : Int) - 1) (((y : Nat) : Int) + 1)))) + (((2 : Nat) : Int) * (pixA w h px ((x : Nat) : Int) (((y : Nat) : Int) + 1))))) <| zM <| zZ) ?_
      refine kx [(46, (vin 2))] [] (zE (oAd 2 (hr := by decide)) <| zM <| zZ) ?_
      refine pwp_again (SimImp.refl _) ?_
      refine pwp_seq <| kx [(47, (vb true))] [] (zE (oBk true oLt) <| zZ) ?_
      refine pwp_seq <| pwp_cond (b := true) (by kernel_rfl) (fun _ => ?_) (fun h => by cases h)
      refine pwp_skip <| pwp_seq <| pwp_block <| pwp_seq <| kx [(13, (vin 2)), (14, (vin 1))] [] (zM <| zE (oXa ar55 sh3 (fun _ => rfl) 2) <| zM <| zM <| zZ) ?_
      refine kx [(10, (vi (((((((((((8 : Nat) : Int) + (((1 : Nat) : Int) * (pixA w h px (((x : Nat) : Int) - 1) (((y : Nat) : Int) - 1)))) + (((2 : Nat) : Int) * (pixA w h px ((x : Nat) : Int) (((y : Nat) : Int) - 1)))) + (((1 : Nat) : Int) * (pixA w h px (((x : Nat) : Int) + 1) (((y : Nat) : Int) - 1)))) + (((2 : Nat) : Int) * (pixA w h px (((x : Nat) : Int) - 1) ((y : Nat) : Int)))) + (((4 : Nat) : Int) * (pixA w h px ((x : Nat) : Int) ((y : Nat) : Int)))) + (((2 : Nat) : Int) * (pixA w h px (((x : Nat) : Int) + 1) ((y : Nat) : Int)))) + (((1 : Nat) : Int) * (pixA w h px (((x : Nat) : Int) - 1) (((y : Nat) : Int) + 1)))) + (((2 : Nat) : Int) * (pixA w h px ((x : Nat) : Int) (((y : Nat) : Int) + 1)))) + (((1 : Nat) : Int) * (pixA w h px (((x : Nat) : Int) + 1) (((y : Nat) : Int) + 1))))))] [] (zM <| zM <| zM <| zE (oMl 1 (hr := by decide)) <| zM <| zM <| zM <| zE (oAd (x + 2)) <| zE (zSb (((x : Nat) : Int) + 1)) <| zM <| zM <| zE (oAd (y + 2)) <| zE (zSb (((y : Nat) : Int) + 1)) <| zC (oCc (ds := [(.val (.int .i64 ((((x : Nat) : Int) + 1)))), (.val (.int .i64 ((((y : Nat) : Int) + 1))))]) [0] [(Dat.cells y4)] (p_pix (((x : Nat) : Int) + 1) (((y : Nat) : Int) + 1) w h mx px hv0 (by omega) (by omega) (by omega) (by omega)) (.val _)) <| zE (zMl (((1 : Nat) : Int) * (pixA w h px (((x : Nat) : Int) + 1) (((y : Nat) : Int) + 1)))) <| zE (zAd (((((((((((8 : Nat) : Int) + (((1 : Nat) : Int) * (pixA w h px (((x : Nat) : Int) - 1) (((y : Nat) : Int) - 1)))) + (((2 : Nat) : Int) * (pixA w h px ((x : Nat) : Int) (((y : Nat) : Int) - 1)))) + (((1 : Nat) : Int) * (pixA w h px (((x : Nat) : Int) + 1) (((y : Nat) : Int) - 1)))) + (((2 : Nat) : Int) * (pixA w h px (((x : Nat) : Int) - 1) ((y : Nat) : Int)))) + (((4 : Nat) : Int) * (pixA w h px ((x : Nat) : Int) ((y : Nat) : Int)))) + (((2 : Nat) : Int) * (pixA w h px (((x : Nat) : Int) + 1) ((y : Nat) : Int)))) + (((1 : Nat) : Int) * (pixA w h px (((x : Nat) : Int) - 1) (((y : Nat) : Int) + 1)))) + (((2 : Nat) : Int) * (pixA w h px ((x : Nat) : Int) (((y : Nat) : Int) + 1)))) + (((1 : Nat) : Int) * (pixA w h px (((x : Nat) : Int) + 1) (((y : Nat) : Int) + 1))))) <| zM <| zZ) ?_
      refine kx [(46, (vin 3))] [] (zE (oAd 3 (hr := by decide)) <| zM <| zZ) ?_
      refine pwp_again (SimImp.refl _) ?_
      refine pwp_seq <| kx [(47, (vb false))] [] (zE (oBk false oLt) <| zZ) ?_
      refine pwp_seq <| pwp_cond (b := false) (by kernel_rfl) (fun h => by cases h) (fun _ => ?_)
      refine pwp_exit <| kx [(41, (vin 3))] [] (zE (oAd 3 (hr := by decide)) <| zM <| zZ) ?_
      refine pwp_again (SimImp.refl _) ?_
      refine pwp_seq <| kx [(42, (vb false))] [] (zE (oBk false oLt) <| zZ) ?_
      refine pwp_seq <| pwp_cond (b := false) (by kernel_rfl) (fun h => by cases h) (fun _ => ?_)
      refine pwp_exit <| pwp_sim (wk (l := [(1, (.ref 0 0)), (2, (.ref 1 0)), (5, (.ref 2 0)), (6, (.clo 27 [0])), (7, (.ref 3 0)), (8, (vin y)), (9, (vin x)), (10, (vi (((((((((((8 : Nat) : Int) + (((1 : Nat) : Int) * (pixA w h px (((x : Nat) : Int) - 1) (((y : Nat) : Int) - 1)))) + (((2 : Nat) : Int) * (pixA w h px ((x : Nat) : Int) (((y : Nat) : Int) - 1)))) + (((1 : Nat) : Int) * (pixA w h px (((x : Nat) : Int) + 1) (((y : Nat) : Int) - 1)))) + (((2 : Nat) : Int) * (pixA w h px (((x : Nat) : Int) - 1) ((y : Nat) : Int)))) + (((4 : Nat) : Int) * (pixA w h px ((x : Nat) : Int) ((y : Nat) : Int)))) + (((2 : Nat) : Int) * (pixA w h px (((x : Nat) : Int) + 1) ((y : Nat) : Int)))) + (((1 : Nat) : Int) * (pixA w h px (((x : Nat) : Int) - 1) (((y : Nat) : Int) + 1)))) + (((2 : Nat) : Int) * (pixA w h px ((x : Nat) : Int) (((y : Nat) : Int) + 1)))) + (((1 : Nat) : Int) * (pixA w h px (((x : Nat) : Int) + 1) (((y : Nat) : Int) + 1)))))), (31, (vin h)), (32, (vin y)), (36, (vin w)), (37, (vin x)), (40, (.d y2)), (41, (vin 3)), (42, (vb false))]) (b := [(0, some y3), (1, some (bx (encRst (RRst.mk 0 0 0 [])))), (2, some [(vin w), (vin h), (vi mx), (.own 4 3 1 ou2.length)]), (3, some y1), (4, some (bm enc_i64 ou2))])) ?_
      refine kf [] [(2, some [(vin w), (vin h), (vi mx), (.own 4 3 1 ((ou2 ++ [((smS w h px ((x : Nat) : Int) ((y : Nat) : Int)).tdiv 16)]).length))]), (4, some (bm enc_i64 (ou2 ++ [((smS w h px ((x : Nat) : Int) ((y : Nat) : Int)).tdiv 16)])))] (zE (oFr fo24_3) <| zR (oL1 sh22) <| zM <| zE (zQu ((smS w h px ((x : Nat) : Int) ((y : Nat) : Int)).tdiv 16) (hr := by exact (wAny rfl (by have hq := td16_bd (smS w h px ((x : Nat) : Int) ((y : Nat) : Int)); simp only [kLo]; omega) (by have hq := td16_bd (smS w h px ((x : Nat) : Int) ((y : Nat) : Int)); simp only [kHi]; omega)))) <| zE (oBs el22 ze3 zo3) <| zAm 2 3 enc_i64 ou2 [((smS w h px ((x : Nat) : Int) ((y : Nat) : Int)).tdiv 16)] rfl el22 ze3 by3 (hB := by repeat first | exact clrn_nil _ _ | refine clrn_hide ?_ | refine clrn_self ?_ | refine clrn_map ?_ | refine clrn_none ?_ | refine clrn_bx ?_ | refine clrn_d ?_ | refine clrn_cons rfl ?_) (k := 4) <| zE (oFr fo24_3) <| zT (oSx sh22) <| zF) ?_
      refine kx [(37, (vin (x + 1)))] [] (zE (oAd (x + 1)) <| zM <| zZ) ?_
      exact ⟨(x + 1, ou2 ++ [((smS w h px ((x : Nat) : Int) ((y : Nat) : Int)).tdiv 16)]), wk, ⟨by omega, sm_step ho2 (by omega)⟩, (by first | omega | (dsimp only; omega))⟩
    · replace h2 := of_decide_eq_false h2
      refine pwp_exit <| kx [(32, (vin (y + 1)))] [] (zE (oAd (y + 1)) <| zM <| zZ) ?_
      exact ⟨(y + 1, ou2), wk, ⟨by omega, sm_row ho2 (by omega)⟩, (by first | omega | (dsimp only; omega))⟩
  · replace h1 := of_decide_eq_false h1
    refine pwp_exit <| pwp_seq <| pwp_sim (publishAt (j := 2) (k := 4) (pre := [(vin w), (vin h), (vi mx)]) (post := []) (es := List.map enc_i64 out) rfl (by decide) rfl (pub_cells _ _ (fun _ => rfl)) (map_len _ _ rfl) (pub_take _ _ (fun _ => rfl) rfl)) ?_
    refine pwp_sim (wk (l := [(1, (.ref 0 0)), (2, (.ref 1 0)), (5, (.ref 2 0)), (6, (.clo 27 [0])), (7, (.ref 3 0)), (31, (vin h)), (32, (vin y)), (33, (vb (decide (((y : Nat) : Int) < ((h : Nat) : Int)))))]) (b := [(0, some y3), (1, some (bx (encRst (RRst.mk 0 0 0 [])))), (2, some (bx (encRst (RRst.mk ((w : Nat) : Int) ((h : Nat) : Int) mx out)))), (3, some y1)])) ?_
    refine kx [(3, (vin 0))] [(1, some (bx (encRst (RRst.mk ((w : Nat) : Int) ((h : Nat) : Int) mx out))))] (zR (oLa sh24) <| zT (oSt sh24) <| zM <| zZ) ?_
    refine pwp_ret ⟨_, (res_a (cs := (bx (encRst (RRst.mk ((w : Nat) : Int) ((h : Nat) : Int) mx out)))) (d := (encRst (RRst.mk ((w : Nat) : Int) ((h : Nat) : Int) mx out))) rfl rfl sh24 rfl rfl (.tmp (d := (.val (.int .i64 (((0 : Nat) : Int))))) rfl .nil)), ?_⟩
    rw [ho, sm_end (by omega)]; rfl
theorem p_rint (n : Int) (hnl : -9223372036854775808 ≤ n) (hnh : n ≤ 9223372036854775807) : Takes Try.prog 25 [(.val (.int .i64 (n)))] (encR (ofQ ((n : Int) : Rat))) := by
  refine fn_intro Try.func25 rfl cb25 rfl ?_
  show PWp _ _ _ _ ⟨[(0, (vi n))], []⟩
  refine pwp_seq <| kx [(2, (.ref 0 0))] [(0, some (bx (encR (RRat.mk (RInt.mk false []) (RInt.mk false [])))))] (zN (oAl 0 ze34 zo34) <| zZ) ?_
  refine pwp_seq <| kx [] [(0, some (bx (encR (ofQ ((n : Int) : Rat)))))] (zM <| zE (oCl (g_whole n (by omega) (by omega))) <| zT (oSt sh34) <| zZ) ?_
  refine pwp_ret ⟨_, (res_a (cs := (bx (encR (ofQ ((n : Int) : Rat))))) (d := (encR (ofQ ((n : Int) : Rat)))) rfl rfl sh34 rfl rfl .nil), ?_⟩
  rfl
theorem p_samR (p : Rat) (hp : QL p 60) (q : Rat) (hq : QL q 60) : Takes Try.prog 16 [(encR (ofQ p)), (encR (ofQ q))] (.val (.bool ((decide (p = q))))) := by
  refine fn_intro Try.func16 rfl cb16 rfl ?_
  show PWp _ _ _ _ ⟨[(0, (.d (encR (ofQ p)))), (1, (.d (encR (ofQ q))))], []⟩
  refine pwp_seq <| kx [(2, (.ref 0 0)), (3, (.ref 1 0))] [(0, some (bx (encR (ofQ p)))), (1, some (bx (encR (ofQ q))))] (zN (oBx 0) <| zN (oBx 1) <| zM <| zZ) ?_
  refine pwp_seq <| kx [(4, (vb (decide (p = q))))] [] (zR (oLa sh34) <| zR (oLa sh34) <| zE (oCl (by have h := g_same (ofQ p) (ofQ q) p q (qok_up (qok_of hp) (by decide)) (qok_up (qok_of hq) (by decide)); rw [sameR_of] at h; exact h)) <| zM <| zZ) ?_
  refine pwp_ret ⟨_, (.tmp (d := (.val (.bool ((decide (p = q)))))) rfl .nil), ?_⟩
  rfl
theorem p_mean (w h : Nat) (mx : Int) (px : List Int) (hv : RstOk w h px) (hb : px.length ≤ 1000000) (hc : chkC ((w : Nat) : Int) ((h : Nat) : Int) mx px = 0) : Takes Try.prog 10 [(encRst (RRst.mk ((w : Nat) : Int) ((h : Nat) : Int) mx px))] (.tup [(encR (ofQ (Rat.divInt (pySum px) ((px.length : Nat) : Int)))), (.val (.int .i64 (0)))]) := by
  have hv0 := hv
  have hpl := rst_len hv
  obtain ⟨w1, w2, w3, w4, w5, w6⟩ := hv
  have hp0 := rst_pos hv0
  refine fn_intro Try.func10 rfl cb10 rfl ?_
  show PWp _ _ _ _ ⟨[(0, (.d (encRst (RRst.mk ((w : Nat) : Int) ((h : Nat) : Int) mx px))))], []⟩
  refine pwp_seq <| kx [(1, (.ref 0 0)), (2, (.ref 1 0))] [(0, some (bx (encRst (RRst.mk ((w : Nat) : Int) ((h : Nat) : Int) mx px)))), (1, some (bx (encR (RRat.mk (RInt.mk false []) (RInt.mk false [])))))] (zN (oBx 0) <| zN (oAl 1 ze34 zo34) <| zM <| zZ) ?_
  refine pwp_seq <| pwp_seq <| kx [(4, (vi (chkC ((w : Nat) : Int) ((h : Nat) : Int) mx px)))] [] (zR (oLa sh24) <| zE (oCl (p_chk ((w : Nat) : Int) ((h : Nat) : Int) mx px hb)) <| zM <| zZ) ?_
  refine pwp_seq <| kx [(11, (vb false))] [] (zM <| zE (oBk false oNe (by exact bne_eq_false_iff_eq.2 hc)) <| zZ) ?_
  refine pwp_cond (b := false) (by kernel_rfl) (fun h => by cases h) (fun _ => ?_)
  refine pwp_skip <| pwp_seq <| kx [(5, (vin 0))] [] (zM <| zZ) ?_
  refine pwp_seq <| pwp_seq <| kx [(15, (vl 3 1 enc_i64 px)), (16, (vin px.length)), (17, (vin 0))] [] (zE (oFr fo24_3) <| zR (oL1 sh22) <| zE (oLm el22) <| zM <| zZ) ?_
  refine pwp_block <| pwp_loop (α := Nat × Int) (fun (k, m) => ⟨[(1, (.ref 0 0)), (2, (.ref 1 0)), (5, (vi m)), (15, (vl 3 1 enc_i64 px)), (16, (vin px.length)), (17, (vin k))], [(0, some (bx (encRst (RRst.mk ((w : Nat) : Int) ((h : Nat) : Int) mx px)))), (1, some (bx (encR (RRat.mk (RInt.mk false []) (RInt.mk false [])))))]⟩) (fun (k, m) => k ≤ px.length ∧ m = pySum (px.take k)) (fun (k, m) => px.length - k) (0, 0) wk ⟨Nat.zero_le _, rfl⟩ ?_
  rintro ⟨k, m⟩ ⟨hk, hm⟩
  have hmb := hm ▸ pySum_bd (Bd_take w6 k)
  rw [List.length_take] at hmb
  have hgk := w6.get (by decide) k
  refine pwp_seq <| kx [(18, (vb (decide (((k : Nat) : Int) < ((px.length : Nat) : Int)))))] [] (zE oLt <| zZ) ?_
  refine pwp_seq <| pwp_cond rfl (fun h1 => ?_) (fun h1 => ?_)
  · replace h1 := of_decide_eq_true h1
    refine pwp_skip <| pwp_seq <| pwp_block <| pwp_seq <| kx [(7, (vi (px.getD k 0)))] [] (zE (oXl el22 k (0 : Int)) <| zE (oC1 sh3) <| zM <| zZ) ?_
    refine kx [(5, (vi (m + (px.getD k 0))))] [] (zM <| zM <| zE (zAd (m + (px.getD k 0))) <| zM <| zZ) ?_
    refine kx [(17, (vin (k + 1)))] [] (zE (oAd (k + 1)) <| zM <| zZ) ?_
    exact ⟨(k + 1, m + px.getD k 0), wk, ⟨by omega, by rw [hm]; exact pySum_step (by omega)⟩, (by first | omega | (dsimp only; omega))⟩
  · replace h1 := of_decide_eq_false h1
    have hke : m = pySum px := by rw [hm, List.take_of_length_le (by omega)]
    refine pwp_exit <| pwp_seq <| kx [(3, (vi 0))] [(1, some (bx (encR (ofQ (Rat.divInt m ((px.length : Nat) : Int))))))] (zM <| zE (oFr fo24_3) <| zR (oL1 sh22) <| zE (oLm el22) <| zE (oCl (q_of m (by omega) (by omega) ((px.length : Nat) : Int) (by omega) (by omega) (by omega))) <| zE oEx <| zE oEx <| zT (oSt sh34) <| zM <| zZ) ?_
    refine pwp_ret ⟨_, (res_a (cs := (bx (encR (ofQ (Rat.divInt m ((px.length : Nat) : Int)))))) (d := (encR (ofQ (Rat.divInt m ((px.length : Nat) : Int))))) rfl rfl sh34 rfl rfl (.tmp (d := (.val (.int .i64 (0)))) rfl .nil)), ?_⟩
    rw [hke]; rfl
end Go.Proofs.Ytleidgohjckmlaa
