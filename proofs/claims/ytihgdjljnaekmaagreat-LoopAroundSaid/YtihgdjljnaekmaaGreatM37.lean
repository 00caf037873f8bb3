/- Part 37 of a proof: rules, plain facts, and functions walked. -/
import Derived.Test.YtihgdjljnaekmaaGreatM36
import Derived.Test.YtihgdjljnaekmaaGreatM13
set_option maxRecDepth 4000
namespace Go.Proofs.YtihgdjljnaekmaaGreat
open Go.Fid
def Len_i64 (z : Int) : Prop := -9223372036854775808 ≤ z ∧ z ≤ 9223372036854775807
theorem sc_i64 {ds : List Dat} (h : Sh (.int .i64) ds) : ∃ z : Int, ds = [.val (.int .i64 z)] ∧ Len_i64 z := by
  obtain ⟨z, rfl, hw⟩ := h
  simp only [Lit.wf, Bool.and_eq_true, decide_eq_true_eq] at hw
  exact ⟨z, rfl, (show (-9223372036854775808 : Int) ≤ z from hw.1), (show z ≤ (9223372036854775807 : Int) from hw.2)⟩
def ty27 : Ty := .st (.cons 3 (.int .i64) (.cons 3 (.int .i64) (.cons 3 (.int .i64) (.cons 3 (.int .i64) .nil))))
def Len27 (x : RQuat) : Prop := Len_i64 x.a ∧ Len_i64 x.b ∧ Len_i64 x.c ∧ Len_i64 x.d
theorem sc27 {ds : List Dat} (h : Sh ty27 ds) : ∃ x : RQuat, ds = [.val (.int .i64 x.a), .val (.int .i64 x.b), .val (.int .i64 x.c), .val (.int .i64 x.d)] ∧ Len27 x := by
  obtain ⟨p0, q0, rfl, h0, p1, q1, rfl, h1, p2, q2, rfl, h2, p3, q3, rfl, h3, hq⟩ := h
  have hq : q3 = [] := hq
  subst hq
  obtain ⟨x0, e0, l0⟩ := sc_i64 h0
  obtain ⟨x1, e1, l1⟩ := sc_i64 h1
  obtain ⟨x2, e2, l2⟩ := sc_i64 h2
  obtain ⟨x3, e3, l3⟩ := sc_i64 h3
  exact ⟨⟨x0, x1, x2, x3⟩, by rw [e0, e1, e2, e3]; rfl, l0, l1, l2, l3⟩
theorem sh_i64 {ds : List Dat} (h : Sh (.int .i64) ds) : ∃ x : Int, mkD (.int .i64) ds = .val (.int .i64 x) ∧ Len_i64 x := by
  obtain ⟨x, e, l⟩ := sc_i64 h
  exact ⟨x, by rw [e]; rfl, l⟩
def ty55 : Ty := .st (.cons 3 (.int .i64) (.cons 3 (.int .i64) (.cons 28 ty27 .nil)))
def Len55 (x : REdge) : Prop := Len_i64 x.fr ∧ Len_i64 x.to_ ∧ Len27 x.turn
theorem sc55 {ds : List Dat} (h : Sh ty55 ds) : ∃ x : REdge, ds = [.val (.int .i64 x.fr), .val (.int .i64 x.to_), .val (.int .i64 x.turn.a), .val (.int .i64 x.turn.b), .val (.int .i64 x.turn.c), .val (.int .i64 x.turn.d)] ∧ Len55 x := by
  obtain ⟨p0, q0, rfl, h0, p1, q1, rfl, h1, p2, q2, rfl, h2, hq⟩ := h
  have hq : q2 = [] := hq
  subst hq
  obtain ⟨x0, e0, l0⟩ := sc_i64 h0
  obtain ⟨x1, e1, l1⟩ := sc_i64 h1
  obtain ⟨x2, e2, l2⟩ := sc27 h2
  exact ⟨⟨x0, x1, x2⟩, by rw [e0, e1, e2]; rfl, l0, l1, l2⟩
def ty39 : Ty := .sl 56 6 ty55
def Len39 (l : List (REdge)) : Prop := (∀ a ∈ l, Len55 a) ∧ l.length ≤ 140737488355328
theorem sc39 {ds : List Dat} (h : Sh ty39 ds) : ∃ l : List (REdge), ds = [.sl 56 6 (l.map encEdge)] ∧ Len39 l := by
  obtain ⟨l, e, h1, h2⟩ := sh_slice (F := encEdge) (L := Len55) (fun x hx => by obtain ⟨a, e, l⟩ := sc55 hx; exact ⟨a, by rw [e]; rfl, l⟩) h
  have hl := Sh.len h
  obtain ⟨d, rfl⟩ := List.length_eq_one_iff.1 hl
  exact ⟨l, by rw [show d = _ from e], h1, h2⟩
theorem sh39_ {ds : List Dat} (h : Sh ty39 ds) : ∃ x : List (REdge), mkD ty39 ds = .sl 56 6 (x.map encEdge) ∧ Len39 x := by
  obtain ⟨x, e, l⟩ := sc39 h
  exact ⟨x, by rw [e]; rfl, l⟩
def ty60 : Ty := .sl 3 1 (.int .i64)
def Len60 (l : List (Int)) : Prop := (∀ a ∈ l, Len_i64 a) ∧ l.length ≤ 140737488355328
theorem sc60 {ds : List Dat} (h : Sh ty60 ds) : ∃ l : List (Int), ds = [.sl 3 1 (l.map enc_i64)] ∧ Len60 l := by
  obtain ⟨l, e, h1, h2⟩ := sh_slice (F := enc_i64) (L := Len_i64) (fun x hx => by obtain ⟨a, e, l⟩ := sc_i64 hx; exact ⟨a, by rw [e]; rfl, l⟩) h
  have hl := Sh.len h
  obtain ⟨d, rfl⟩ := List.length_eq_one_iff.1 hl
  exact ⟨l, by rw [show d = _ from e], h1, h2⟩
theorem sh60_ {ds : List Dat} (h : Sh ty60 ds) : ∃ x : List (Int), mkD ty60 ds = .sl 3 1 (x.map enc_i64) ∧ Len60 x := by
  obtain ⟨x, e, l⟩ := sc60 h
  exact ⟨x, by rw [e]; rfl, l⟩
end Go.Proofs.YtihgdjljnaekmaaGreat
