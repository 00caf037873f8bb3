/- Part 37 of a proof: rules, plain facts, and functions walked. -/
import Derived.Test.YtbecgnplakngdaaGreatM36
import Derived.Test.YtbecgnplakngdaaGreatM11
set_option maxRecDepth 4000
namespace Go.Proofs.YtbecgnplakngdaaGreat
open Go.Fid
def cU (z : Int) : Prop := -9223372036854775808 ≤ z ∧ z ≤ 9223372036854775807
theorem bD {ds : List qF} (h : Sh (.int .i64) ds) : ∃ z : Int, ds = [.val (.int .i64 z)] ∧ cU z := by
 obtain ⟨z, rfl, hw⟩ := h
 simp only [Lit.wf, Bool.and_eq_true, decide_eq_true_eq] at hw
 exact ⟨z, rfl, (show (-9223372036854775808 : Int) ≤ z from hw.1), (show z ≤ (9223372036854775807 : Int) from hw.2)⟩
def ty22 : Ty := .st (.cons 3 (.int .i64) (.cons 3 (.int .i64) (.cons 3 (.int .i64) .nil)))
def Len22 (x : jT) : Prop := cU x.x ∧ cU x.y ∧ cU x.z
theorem sc22 {ds : List qF} (h : Sh ty22 ds) : ∃ x : jT, ds = [.val (.int .i64 x.x), .val (.int .i64 x.y), .val (.int .i64 x.z)] ∧ Len22 x := by
 obtain ⟨p0, q0, rfl, h0, p1, q1, rfl, h1, p2, q2, rfl, h2, hq⟩ := h
 have hq : q2 = [] := hq
 subst hq
 obtain ⟨x0, e0, l0⟩ := bD h0
 obtain ⟨x1, e1, l1⟩ := bD h1
 obtain ⟨x2, e2, l2⟩ := bD h2
 exact ⟨⟨x0, x1, x2⟩, by rw [e0, e1, e2]; rfl, l0, l1, l2⟩
def ty24 : Ty := .st (.cons 3 (.int .i64) (.cons 3 (.int .i64) (.cons 3 (.int .i64) (.cons 3 (.int .i64) .nil))))
def Len24 (x : jN) : Prop := cU x.a ∧ cU x.b ∧ cU x.c ∧ cU x.d
theorem sc24 {ds : List qF} (h : Sh ty24 ds) : ∃ x : jN, ds = [.val (.int .i64 x.a), .val (.int .i64 x.b), .val (.int .i64 x.c), .val (.int .i64 x.d)] ∧ Len24 x := by
 obtain ⟨p0, q0, rfl, h0, p1, q1, rfl, h1, p2, q2, rfl, h2, p3, q3, rfl, h3, hq⟩ := h
 have hq : q3 = [] := hq
 subst hq
 obtain ⟨x0, e0, l0⟩ := bD h0
 obtain ⟨x1, e1, l1⟩ := bD h1
 obtain ⟨x2, e2, l2⟩ := bD h2
 obtain ⟨x3, e3, l3⟩ := bD h3
 exact ⟨⟨x0, x1, x2, x3⟩, by rw [e0, e1, e2, e3]; rfl, l0, l1, l2, l3⟩
def ty26 : Ty := .st (.cons 3 (.int .i64) (.cons 3 (.int .i64) .nil))
def Len26 (x : kM) : Prop := cU x.x ∧ cU x.y
theorem sc26 {ds : List qF} (h : Sh ty26 ds) : ∃ x : kM, ds = [.val (.int .i64 x.x), .val (.int .i64 x.y)] ∧ Len26 x := by
 obtain ⟨p0, q0, rfl, h0, p1, q1, rfl, h1, hq⟩ := h
 have hq : q1 = [] := hq
 subst hq
 obtain ⟨x0, e0, l0⟩ := bD h0
 obtain ⟨x1, e1, l1⟩ := bD h1
 exact ⟨⟨x0, x1⟩, by rw [e0, e1]; rfl, l0, l1⟩
def ty28 : Ty := .st (.cons 23 ty22 (.cons 25 ty24 (.cons 3 (.int .i64) (.cons 27 ty26 .nil))))
def Len28 (x : kJ) : Prop := Len22 x.at_ ∧ Len24 x.turn ∧ cU x.focal ∧ Len26 x.centre
theorem sc28 {ds : List qF} (h : Sh ty28 ds) : ∃ x : kJ, ds = [.val (.int .i64 x.at_.x), .val (.int .i64 x.at_.y), .val (.int .i64 x.at_.z), .val (.int .i64 x.turn.a), .val (.int .i64 x.turn.b), .val (.int .i64 x.turn.c), .val (.int .i64 x.turn.d), .val (.int .i64 x.focal), .val (.int .i64 x.centre.x), .val (.int .i64 x.centre.y)] ∧ Len28 x := by
 obtain ⟨p0, q0, rfl, h0, p1, q1, rfl, h1, p2, q2, rfl, h2, p3, q3, rfl, h3, hq⟩ := h
 have hq : q3 = [] := hq
 subst hq
 obtain ⟨x0, e0, l0⟩ := sc22 h0
 obtain ⟨x1, e1, l1⟩ := sc24 h1
 obtain ⟨x2, e2, l2⟩ := bD h2
 obtain ⟨x3, e3, l3⟩ := sc26 h3
 exact ⟨⟨x0, x1, x2, x3⟩, by rw [e0, e1, e2, e3]; rfl, l0, l1, l2, l3⟩
def ty30 : Ty := .st (.cons 29 ty28 (.cons 29 ty28 .nil))
def Len30 (x : kY) : Prop := Len28 x.left ∧ Len28 x.right
theorem sc30 {ds : List qF} (h : Sh ty30 ds) : ∃ x : kY, ds = [.val (.int .i64 x.left.at_.x), .val (.int .i64 x.left.at_.y), .val (.int .i64 x.left.at_.z), .val (.int .i64 x.left.turn.a), .val (.int .i64 x.left.turn.b), .val (.int .i64 x.left.turn.c), .val (.int .i64 x.left.turn.d), .val (.int .i64 x.left.focal), .val (.int .i64 x.left.centre.x), .val (.int .i64 x.left.centre.y), .val (.int .i64 x.right.at_.x), .val (.int .i64 x.right.at_.y), .val (.int .i64 x.right.at_.z), .val (.int .i64 x.right.turn.a), .val (.int .i64 x.right.turn.b), .val (.int .i64 x.right.turn.c), .val (.int .i64 x.right.turn.d), .val (.int .i64 x.right.focal), .val (.int .i64 x.right.centre.x), .val (.int .i64 x.right.centre.y)] ∧ Len30 x := by
 obtain ⟨p0, q0, rfl, h0, p1, q1, rfl, h1, hq⟩ := h
 have hq : q1 = [] := hq
 subst hq
 obtain ⟨x0, e0, l0⟩ := sc28 h0
 obtain ⟨x1, e1, l1⟩ := sc28 h1
 exact ⟨⟨x0, x1⟩, by rw [e0, e1]; rfl, l0, l1⟩
theorem sh30_ {ds : List qF} (h : Sh ty30 ds) : ∃ x : kY, mkD ty30 ds = qP x ∧ Len30 x := by
 obtain ⟨x, e, l⟩ := sc30 h
 exact ⟨x, by rw [e]; rfl, l⟩
def Len_bool (_ : Bool) : Prop := True
theorem sc_bool {ds : List qF} (h : Sh .bool ds) : ∃ b : Bool, ds = [.val (.bool b)] ∧ Len_bool b := by
 obtain ⟨b, rfl⟩ := h
 exact ⟨b, rfl, trivial⟩
def Len_u32 (n : Nat) : Prop := n ≤ 4294967295
theorem sc_u32 {ds : List qF} (h : Sh (.int .u32) ds) : ∃ n : Nat, ds = [.val (.int .u32 ((n : Nat) : Int))] ∧ Len_u32 n := by
 obtain ⟨z, rfl, hw⟩ := h
 simp only [Lit.wf, Bool.and_eq_true, decide_eq_true_eq] at hw
 have h0 : 0 ≤ z := hw.1
 exact ⟨z.toNat, by rw [Int.toNat_of_nonneg h0], by have h1 : z ≤ (4294967295 : Int) := hw.2; unfold Len_u32; omega⟩
def ty38 : Ty := .sl 152 1 (.int .u32)
def Len38 (l : List (Nat)) : Prop := (∀ a ∈ l, Len_u32 a) ∧ l.length ≤ 140737488355328
theorem sc38 {ds : List qF} (h : Sh ty38 ds) : ∃ l : List (Nat), ds = [.sl 152 1 (l.map jB)] ∧ Len38 l := by
 obtain ⟨l, e, h1, h2⟩ := sh_slice (F := jB) (L := Len_u32) (fun x hx => by obtain ⟨a, e, l⟩ := sc_u32 hx; exact ⟨a, by rw [e]; rfl, l⟩) h
 have hl := Sh.len h
 obtain ⟨d, rfl⟩ := List.length_eq_one_iff.1 hl
 exact ⟨l, by rw [show d = _ from e], h1, h2⟩
def ty39 : Ty := .st (.cons 4 .bool (.cons 38 ty38 .nil))
def Len39 (x : jF) : Prop := Len_bool x.neg ∧ Len38 x.gs
theorem sc39 {ds : List qF} (h : Sh ty39 ds) : ∃ x : jF, ds = [.val (.bool x.neg), .sl 152 1 (x.gs.map jB)] ∧ Len39 x := by
 obtain ⟨p0, q0, rfl, h0, p1, q1, rfl, h1, hq⟩ := h
 have hq : q1 = [] := hq
 subst hq
 obtain ⟨x0, e0, l0⟩ := sc_bool h0
 obtain ⟨x1, e1, l1⟩ := sc38 h1
 exact ⟨⟨x0, x1⟩, by rw [e0, e1]; rfl, l0, l1⟩
def ty41 : Ty := .st (.cons 40 ty39 (.cons 40 ty39 .nil))
def Len41 (x : kG) : Prop := Len39 x.num ∧ Len39 x.den
theorem sc41 {ds : List qF} (h : Sh ty41 ds) : ∃ x : kG, ds = [.val (.bool x.num.neg), .sl 152 1 (x.num.gs.map jB), .val (.bool x.den.neg), .sl 152 1 (x.den.gs.map jB)] ∧ Len41 x := by
 obtain ⟨p0, q0, rfl, h0, p1, q1, rfl, h1, hq⟩ := h
 have hq : q1 = [] := hq
 subst hq
 obtain ⟨x0, e0, l0⟩ := sc39 h0
 obtain ⟨x1, e1, l1⟩ := sc39 h1
 exact ⟨⟨x0, x1⟩, by rw [e0, e1]; rfl, l0, l1⟩
def ty55 : Ty := .st (.cons 42 ty41 (.cons 42 ty41 .nil))
def Len55 (x : qI) : Prop := Len41 x.x ∧ Len41 x.y
theorem sc55 {ds : List qF} (h : Sh ty55 ds) : ∃ x : qI, ds = [.val (.bool x.x.num.neg), .sl 152 1 (x.x.num.gs.map jB), .val (.bool x.x.den.neg), .sl 152 1 (x.x.den.gs.map jB), .val (.bool x.y.num.neg), .sl 152 1 (x.y.num.gs.map jB), .val (.bool x.y.den.neg), .sl 152 1 (x.y.den.gs.map jB)] ∧ Len55 x := by
 obtain ⟨p0, q0, rfl, h0, p1, q1, rfl, h1, hq⟩ := h
 have hq : q1 = [] := hq
 subst hq
 obtain ⟨x0, e0, l0⟩ := sc41 h0
 obtain ⟨x1, e1, l1⟩ := sc41 h1
 exact ⟨⟨x0, x1⟩, by rw [e0, e1]; rfl, l0, l1⟩
theorem sh55_ {ds : List qF} (h : Sh ty55 ds) : ∃ x : qI, mkD ty55 ds = kI x ∧ Len55 x := by
 obtain ⟨x, e, l⟩ := sc55 h
 exact ⟨x, by rw [e]; rfl, l⟩
theorem sh_bool {ds : List qF} (h : Sh .bool ds) : ∃ x : Bool, mkD .bool ds = .val (.bool x) ∧ Len_bool x := by
 obtain ⟨x, e, l⟩ := sc_bool h
 exact ⟨x, by rw [e]; rfl, l⟩
end Go.Proofs.YtbecgnplakngdaaGreat
