/- Part 14 of a proof: rules, plain facts, and functions walked. -/
import Derived.Test.YtadkkhdnccljcaaGreatM13
import Derived.Test.YtadkkhdnccljcaaGreatM4
set_option maxRecDepth 4000
namespace Go.Proofs.YtadkkhdnccljcaaGreat
open Go.Fid
def Len_bool (_ : Bool) : Prop := True
theorem sc_bool {ds : List Dat} (h : Sh .bool ds) : ∃ b : Bool, ds = [.val (.bool b)] ∧ Len_bool b := by
  obtain ⟨b, rfl⟩ := h
  exact ⟨b, rfl, trivial⟩
def Len_u32 (n : Nat) : Prop := n ≤ 4294967295
theorem sc_u32 {ds : List Dat} (h : Sh (.int .u32) ds) : ∃ n : Nat, ds = [.val (.int .u32 ((n : Nat) : Int))] ∧ Len_u32 n := by
  obtain ⟨z, rfl, hw⟩ := h
  simp only [Lit.wf, Bool.and_eq_true, decide_eq_true_eq] at hw
  have h0 : 0 ≤ z := hw.1
  exact ⟨z.toNat, by rw [Int.toNat_of_nonneg h0], by have h1 : z ≤ (4294967295 : Int) := hw.2; unfold Len_u32; omega⟩
def ty28 : Ty := .sl 138 1 (.int .u32)
def Len28 (l : List (Nat)) : Prop := (∀ a ∈ l, Len_u32 a) ∧ l.length ≤ 140737488355328
theorem sc28 {ds : List Dat} (h : Sh ty28 ds) : ∃ l : List (Nat), ds = [.sl 138 1 (l.map enc_u32)] ∧ Len28 l := by
  obtain ⟨l, e, h1, h2⟩ := sh_slice (F := enc_u32) (L := Len_u32) (fun x hx => by obtain ⟨a, e, l⟩ := sc_u32 hx; exact ⟨a, by rw [e]; rfl, l⟩) h
  have hl := Sh.len h
  obtain ⟨d, rfl⟩ := List.length_eq_one_iff.1 hl
  exact ⟨l, by rw [show d = _ from e], h1, h2⟩
def ty29 : Ty := .st (.cons 4 .bool (.cons 28 ty28 .nil))
def Len29 (x : RInt) : Prop := Len_bool x.neg ∧ Len28 x.gs
theorem sc29 {ds : List Dat} (h : Sh ty29 ds) : ∃ x : RInt, ds = [.val (.bool x.neg), .sl 138 1 (x.gs.map enc_u32)] ∧ Len29 x := by
  obtain ⟨p0, q0, rfl, h0, p1, q1, rfl, h1, hq⟩ := h
  have hq : q1 = [] := hq
  subst hq
  obtain ⟨x0, e0, l0⟩ := sc_bool h0
  obtain ⟨x1, e1, l1⟩ := sc28 h1
  exact ⟨⟨x0, x1⟩, by rw [e0, e1]; rfl, l0, l1⟩
def ty31 : Ty := .ar 9 30 (.cons 30 ty29 (.cons 30 ty29 (.cons 30 ty29 (.cons 30 ty29 (.cons 30 ty29 (.cons 30 ty29 (.cons 30 ty29 (.cons 30 ty29 (.cons 30 ty29 .nil)))))))))
def Len31 (x : A9 (RInt)) : Prop := Len29 x.a0 ∧ Len29 x.a1 ∧ Len29 x.a2 ∧ Len29 x.a3 ∧ Len29 x.a4 ∧ Len29 x.a5 ∧ Len29 x.a6 ∧ Len29 x.a7 ∧ Len29 x.a8
theorem sc31 {ds : List Dat} (h : Sh ty31 ds) : ∃ x : A9 (RInt), ds = [.val (.bool x.a0.neg), .sl 138 1 (x.a0.gs.map enc_u32), .val (.bool x.a1.neg), .sl 138 1 (x.a1.gs.map enc_u32), .val (.bool x.a2.neg), .sl 138 1 (x.a2.gs.map enc_u32), .val (.bool x.a3.neg), .sl 138 1 (x.a3.gs.map enc_u32), .val (.bool x.a4.neg), .sl 138 1 (x.a4.gs.map enc_u32), .val (.bool x.a5.neg), .sl 138 1 (x.a5.gs.map enc_u32), .val (.bool x.a6.neg), .sl 138 1 (x.a6.gs.map enc_u32), .val (.bool x.a7.neg), .sl 138 1 (x.a7.gs.map enc_u32), .val (.bool x.a8.neg), .sl 138 1 (x.a8.gs.map enc_u32)] ∧ Len31 x := by
  obtain ⟨p0, q0, rfl, h0, p1, q1, rfl, h1, p2, q2, rfl, h2, p3, q3, rfl, h3, p4, q4, rfl, h4, p5, q5, rfl, h5, p6, q6, rfl, h6, p7, q7, rfl, h7, p8, q8, rfl, h8, hq⟩ := h
  have hq : q8 = [] := hq
  subst hq
  obtain ⟨x0, e0, l0⟩ := sc29 h0
  obtain ⟨x1, e1, l1⟩ := sc29 h1
  obtain ⟨x2, e2, l2⟩ := sc29 h2
  obtain ⟨x3, e3, l3⟩ := sc29 h3
  obtain ⟨x4, e4, l4⟩ := sc29 h4
  obtain ⟨x5, e5, l5⟩ := sc29 h5
  obtain ⟨x6, e6, l6⟩ := sc29 h6
  obtain ⟨x7, e7, l7⟩ := sc29 h7
  obtain ⟨x8, e8, l8⟩ := sc29 h8
  exact ⟨⟨x0, x1, x2, x3, x4, x5, x6, x7, x8⟩, by rw [e0, e1, e2, e3, e4, e5, e6, e7, e8]; rfl, l0, l1, l2, l3, l4, l5, l6, l7, l8⟩
theorem sh31_ {ds : List Dat} (h : Sh ty31 ds) : ∃ x : A9 (RInt), mkD ty31 ds = encA31 x ∧ Len31 x := by
  obtain ⟨x, e, l⟩ := sc31 h
  exact ⟨x, by rw [e]; rfl, l⟩
end Go.Proofs.YtadkkhdnccljcaaGreat
