import Derived.Test.YtcdgmcfkhkikbaaGreatFrame
import Derived.Test.YtcdgmcfkhkikbaaGreatEnc
import Derived.Test.YtcdgmcfkhkikbaaGreatIv
/-
  Arguments of the suite's types: what stands for data of the form of such a type stands for an interval, a fraction, an integer.
-/
namespace Go.Proofs.YtcdgmcfkhkikbaaGreat
open Go.Fid
def tyI : Ty := .st (.cons 4 .bool (.cons 22 (.sl 83 1 (.int .u32)) .nil))
def tyR : Ty := .st (.cons 24 tyI (.cons 24 tyI .nil))
def tyG : Ty := .st (.cons 26 tyR (.cons 26 tyR .nil))
def LenI (x : RInt) : Prop := x.gs.length ≤ 140737488355328
def LenR (x : RRat) : Prop := LenI x.num ∧ LenI x.den
def LenG (x : RRng) : Prop := LenR x.lo ∧ LenR x.hi
theorem sh_u32s {ds : List Dat} (h : Sh (.sl 83 1 (.int .u32)) ds) : ∃ l : List Nat, ds = [.sl 83 1 (l.map enc_u32)] ∧ l.length ≤ 140737488355328 := by
  obtain ⟨es, rfl, h1, h2⟩ := h
  have h3 : ∀ es : List (List Dat), (∀ x ∈ es, Sh (.int .u32) x) → ∃ l : List Nat, es.map (mkD (.int .u32)) = l.map enc_u32 := by
    intro es
    induction es with
    | nil => intro _; exact ⟨[], rfl⟩
    | cons x es ih =>
      intro hx
      obtain ⟨l, hl⟩ := ih (fun y hy => hx y (by simp [hy]))
      obtain ⟨z, rfl, hw⟩ := hx x (by simp)
      refine ⟨z.toNat :: l, ?_⟩
      rw [List.map_cons, List.map_cons, hl]
      congr 1
      simp only [Lit.wf, Bool.and_eq_true, decide_eq_true_eq] at hw
      have h0 : 0 ≤ z := hw.1
      show Dat.val (.int .u32 z) = Dat.val (.int .u32 ((z.toNat : Nat) : Int))
      rw [Int.toNat_of_nonneg h0]
  obtain ⟨l, hl⟩ := h3 es h2
  refine ⟨l, by rw [hl], ?_⟩
  have h4 := congrArg List.length hl
  rw [List.length_map, List.length_map] at h4
  omega
theorem sh_I {ds : List Dat} (h : Sh tyI ds) : ∃ x : RInt, .agg ds = encI x ∧ LenI x := by
  obtain ⟨a, b, rfl, ⟨n, rfl⟩, c, d, rfl, h2, h3⟩ := h
  have h3 : d = [] := h3
  subst h3
  obtain ⟨l, rfl, hl⟩ := sh_u32s h2
  exact ⟨⟨n, l⟩, rfl, hl⟩
theorem sh_R {ds : List Dat} (h : Sh tyR ds) : ∃ x : RRat, .agg ds = encR x ∧ LenR x := by
  obtain ⟨a, b, rfl, h1, c, d, rfl, h2, h3⟩ := h
  have h3 : d = [] := h3
  subst h3
  obtain ⟨x, e1, l1⟩ := sh_I h1
  obtain ⟨y, e2, l2⟩ := sh_I h2
  injection e1 with e1
  injection e2 with e2
  exact ⟨⟨x, y⟩, by rw [e1, e2]; rfl, l1, l2⟩
theorem sh_G {ds : List Dat} (h : Sh tyG ds) : ∃ x : RRng, mkD tyG ds = encG x ∧ LenG x := by
  obtain ⟨a, b, rfl, h1, c, d, rfl, h2, h3⟩ := h
  have h3 : d = [] := h3
  subst h3
  obtain ⟨x, e1, l1⟩ := sh_R h1
  obtain ⟨y, e2, l2⟩ := sh_R h2
  injection e1 with e1
  injection e2 with e2
  exact ⟨⟨x, y⟩, by rw [e1, e2]; rfl, l1, l2⟩
theorem sh_Q {ds : List Dat} (h : Sh tyR ds) : ∃ x : RRat, mkD tyR ds = encR x ∧ LenR x := sh_R h
theorem gok_len {a : RRng} (h : LenG a) : GOk 140737488355328 a := ⟨qok_raw (by decide) h.1.1 h.1.2, qok_raw (by decide) h.2.1 h.2.2⟩
end Go.Proofs.YtcdgmcfkhkikbaaGreat
