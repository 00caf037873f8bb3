/- Part 38 of a proof: rules, plain facts, and functions walked. -/
import Derived.Test.YtihgdjljnaekmaaGreatM37
import Derived.Test.YtihgdjljnaekmaaGreatM13
set_option maxRecDepth 4000
namespace Go.Proofs.YtihgdjljnaekmaaGreat
open Go.Fid
def Len_i64 (z : Int) : Prop := -9223372036854775808 ≤ z ∧ z ≤ 9223372036854775807
theorem sc_i64 {ds : List Dat} (h : Sh (.int .i64) ds) : ∃ z : Int, ds = [.val (.int .i64 z)] ∧ Len_i64 z := by
  obtain ⟨z, rfl, hw⟩ := h
  simp only [Lit.wf, Bool.and_eq_true, decide_eq_true_eq] at hw
  exact ⟨z, rfl, (show (-9223372036854775808 : Int) ≤ z from hw.1), (show z ≤ (9223372036854775807 : Int) from hw.2)⟩
def ty27 : Ty := .st (.cons 3 (.int .i64) (.cons 3 (.int .i64) (.cons 3 (.int .i64) (.cons 3 (.int .i64) .nil))))
def Len27 (x : RQuat) : Prop := Len_i64 x.a ∧ Len_i64 x.b ∧ Len_i64 x.c ∧ Len_i64 x.d
theorem sc27 {ds : List Dat} (h : Sh ty27 ds) : ∃ x : RQuat, ds = [.val (.int .i64 x.a), .val (.int .i64 x.b), .val (.int .i64 x.c), .val (.int .i64 x.d)] ∧ Len27 x := by
  obtain ⟨p0, q0, rfl, h0, p1, q1, rfl, h1, p2, q2, rfl, h2, p3, q3, rfl, h3, hq⟩ := h
  have hq : q3 = [] := hq
  subst hq
  obtain ⟨x0, e0, l0⟩ := sc_i64 h0
  obtain ⟨x1, e1, l1⟩ := sc_i64 h1
  obtain ⟨x2, e2, l2⟩ := sc_i64 h2
  obtain ⟨x3, e3, l3⟩ := sc_i64 h3
  exact ⟨⟨x0, x1, x2, x3⟩, by rw [e0, e1, e2, e3]; rfl, l0, l1, l2, l3⟩
def ty55 : Ty := .st (.cons 3 (.int .i64) (.cons 3 (.int .i64) (.cons 28 ty27 .nil)))
def Len55 (x : REdge) : Prop := Len_i64 x.fr ∧ Len_i64 x.to_ ∧ Len27 x.turn
theorem sc55 {ds : List Dat} (h : Sh ty55 ds) : ∃ x : REdge, ds = [.val (.int .i64 x.fr), .val (.int .i64 x.to_), .val (.int .i64 x.turn.a), .val (.int .i64 x.turn.b), .val (.int .i64 x.turn.c), .val (.int .i64 x.turn.d)] ∧ Len55 x := by
  obtain ⟨p0, q0, rfl, h0, p1, q1, rfl, h1, p2, q2, rfl, h2, hq⟩ := h
  have hq : q2 = [] := hq
  subst hq
  obtain ⟨x0, e0, l0⟩ := sc_i64 h0
  obtain ⟨x1, e1, l1⟩ := sc_i64 h1
  obtain ⟨x2, e2, l2⟩ := sc27 h2
  exact ⟨⟨x0, x1, x2⟩, by rw [e0, e1, e2]; rfl, l0, l1, l2⟩
def ty34 : Ty := .sl 28 4 ty27
def Len34 (l : List (RQuat)) : Prop := (∀ a ∈ l, Len27 a) ∧ l.length ≤ 140737488355328
theorem sc34 {ds : List Dat} (h : Sh ty34 ds) : ∃ l : List (RQuat), ds = [.sl 28 4 (l.map encQuat)] ∧ Len34 l := by
  obtain ⟨l, e, h1, h2⟩ := sh_slice (F := encQuat) (L := Len27) (fun x hx => by obtain ⟨a, e, l⟩ := sc27 hx; exact ⟨a, by rw [e]; rfl, l⟩) h
  have hl := Sh.len h
  obtain ⟨d, rfl⟩ := List.length_eq_one_iff.1 hl
  exact ⟨l, by rw [show d = _ from e], h1, h2⟩
theorem sh34_ {ds : List Dat} (h : Sh ty34 ds) : ∃ x : List (RQuat), mkD ty34 ds = .sl 28 4 (x.map encQuat) ∧ Len34 x := by
  obtain ⟨x, e, l⟩ := sc34 h
  exact ⟨x, by rw [e]; rfl, l⟩
def Len_u8 (n : Nat) : Prop := n ≤ 255
theorem sc_u8 {ds : List Dat} (h : Sh (.int .u8) ds) : ∃ n : Nat, ds = [.val (.int .u8 ((n : Nat) : Int))] ∧ Len_u8 n := by
  obtain ⟨z, rfl, hw⟩ := h
  simp only [Lit.wf, Bool.and_eq_true, decide_eq_true_eq] at hw
  have h0 : 0 ≤ z := hw.1
  exact ⟨z.toNat, by rw [Int.toNat_of_nonneg h0], by have h1 : z ≤ (255 : Int) := hw.2; unfold Len_u8; omega⟩
def ty87 : Ty := .ar 2 5 (.cons 5 (.int .u8) (.cons 5 (.int .u8) .nil))
def Len87 (x : A2 (Nat)) : Prop := Len_u8 x.a0 ∧ Len_u8 x.a1
theorem sc87 {ds : List Dat} (h : Sh ty87 ds) : ∃ x : A2 (Nat), ds = [.val (.int .u8 ((x.a0 : Nat) : Int)), .val (.int .u8 ((x.a1 : Nat) : Int))] ∧ Len87 x := by
  obtain ⟨p0, q0, rfl, h0, p1, q1, rfl, h1, hq⟩ := h
  have hq : q1 = [] := hq
  subst hq
  obtain ⟨x0, e0, l0⟩ := sc_u8 h0
  obtain ⟨x1, e1, l1⟩ := sc_u8 h1
  exact ⟨⟨x0, x1⟩, by rw [e0, e1]; rfl, l0, l1⟩
def ty85 : Ty := .sl 87 2 ty87
def Len85 (l : List (A2 (Nat))) : Prop := (∀ a ∈ l, Len87 a) ∧ l.length ≤ 140737488355328
theorem sc85 {ds : List Dat} (h : Sh ty85 ds) : ∃ l : List (A2 (Nat)), ds = [.sl 87 2 (l.map encA87)] ∧ Len85 l := by
  obtain ⟨l, e, h1, h2⟩ := sh_slice (F := encA87) (L := Len87) (fun x hx => by obtain ⟨a, e, l⟩ := sc87 hx; exact ⟨a, by rw [e]; rfl, l⟩) h
  have hl := Sh.len h
  obtain ⟨d, rfl⟩ := List.length_eq_one_iff.1 hl
  exact ⟨l, by rw [show d = _ from e], h1, h2⟩
theorem sh85_ {ds : List Dat} (h : Sh ty85 ds) : ∃ x : List (A2 (Nat)), mkD ty85 ds = .sl 87 2 (x.map encA87) ∧ Len85 x := by
  obtain ⟨x, e, l⟩ := sc85 h
  exact ⟨x, by rw [e]; rfl, l⟩
theorem sh55_ {ds : List Dat} (h : Sh ty55 ds) : ∃ x : REdge, mkD ty55 ds = encEdge x ∧ Len55 x := by
  obtain ⟨x, e, l⟩ := sc55 h
  exact ⟨x, by rw [e]; rfl, l⟩
end Go.Proofs.YtihgdjljnaekmaaGreat
