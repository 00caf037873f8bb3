/- Part 23 of a proof: rules, plain facts, and functions walked. -/
import Derived.Test.YtnajallgoaiahaaGreatDoorM22
set_option linter.unusedVariables false
set_option linter.unusedSimpArgs false
namespace Go.Fid
def swN (k k' j : Nat) : Nat := bif Nat.beq j k then k' else j
def SV.sw (k k' : Nat) : SV → SV
  | .ref j o => .ref (swN k k' j) o
  | .own j t s n => .own (swN k k' j) t s n
  | .view j o n => .view (swN k k' j) o n
  | .clo f ks => .clo f (ks.map (swN k k'))
  | .pr j t s n x => .pr (swN k k' j) t s n x
  | .refx j o b => .refx (swN k k' j) o b
  | x => x
theorem swN_eq (k k' : Nat) : swN k k' k = k' := by simp [swN]
theorem swN_ne {k k' j : Nat} (h : j ≠ k) : swN k k' j = j := by
  have : Nat.beq j k = false := by rw [← Bool.not_eq_true]; exact fun e => h (Nat.eq_of_beq_eq_true e)
  simp [swN, this]
theorem qN.sw {w : World} {D : qM} {β : qK} {k k' : Nat} {v : Value} {x : SV} (h : qN w D β v (x.sw k k')) : qN w D (fun j => β (swN k k' j)) v x := by
  cases x with
  | d x => exact h
  | ref j o => exact h
  | own j t s n => exact h
  | clo f ks =>
    obtain ⟨vs, h1, h2, h3⟩ := h
    exact ⟨vs, h1, by simpa using h2, fun i j hj => h3 i (swN k k' j) (by rw [List.getElem?_map, hj]; rfl)⟩
  | emp => exact h
  | view j o n => exact h
  | hob u b ob => exact h
  | pr j t s n x => exact h
  | refx j o b => exact h
  | junk => trivial
theorem sw_of {k k' : Nat} {x : SV} (h : x.names k = false) : x.sw k k' = x := by
  have key : ∀ j, Nat.beq k j = false → swN k k' j = j := fun j hj => swN_ne (fun e => by subst e; simp at hj)
  cases x with
  | ref j o => simp only [SV.sw]; rw [key j h]
  | own j t s n => simp only [SV.sw]; rw [key j h]
  | view j o n => simp only [SV.sw]; rw [key j h]
  | clo f ks =>
    simp only [SV.sw]
    simp only [SV.names, List.any_eq_false] at h
    have : ks.map (swN k k') = ks := by
      conv => rhs; rw [← List.map_id ks]
      exact List.map_congr_left fun j hj => key j (by rw [← Bool.not_eq_true]; exact h j hj)
    rw [this]
  | d x => rfl
  | emp => rfl
  | hob u b ob => rfl
  | pr j t s n x => simp only [SV.sw]; rw [key j h]
  | refx j o b => simp only [SV.sw]; rw [key j h]
  | junk => rfl
end Go.Fid
set_option linter.unusedVariables false
set_option linter.unusedSimpArgs false
namespace Go.Fid
open Go.RowKit (Below)
section
variable {P : Program}
end
section
variable {P : Program} {o : Oper} {S : Nat → SV}
end
section
variable {P : Program}
end
end Go.Fid
set_option linter.unusedVariables false
set_option linter.unusedSimpArgs false
namespace Go.Fid
open Go.RowKit (Below)
section
variable {P : Program} {o : Oper} {S : Nat → SV}
end
end Go.Fid
set_option linter.unusedVariables false
set_option linter.unusedSimpArgs false
namespace Go.Fid
open Go.RowKit (Below)
section
variable {P : Program} {n : Fr} {ops : Array Oper} {K : SL → BS → Prop} {S S0 S1 : SL} {B B0 B1 : BS} {l : List Oper} {o : Oper} {D : SL}
theorem zOh (k E s : Nat) (r : SK P n ops K ((dO o, .own k E s 0) :: S) ((k, some []) :: B) l) (h : nilK o = true := by kernel_rfl) (g : goK n ops S o = true := by kernel_rfl) (h1 : (S.all fun p => !p.2.names k) = true := by kernel_rfl)
    (h2 : FrB k B := by repeat first | exact frb_nil _ | refine frb_map rfl ?_ | refine frb_d rfl ?_ | refine frb_cs rfl rfl ?_ | refine frb_none rfl ?_) : SK P n ops K S B (o :: l) := zO k E s r h g (freshB_of h1 h2)
end
def swJ (k k' J j : Nat) (c : List SV) : List SV := bif Nat.beq j J then c.map (SV.sw k k') else c
theorem cA {S S' : SL} {B B' : BS} (k k' J : Nat) (h1 : S'.map (fun p => kR S p.1) = S'.map (fun p => p.2.sw k k') := by kernel_rfl) (h2 : B'.map (fun p => kV B (swN k k' p.1)) = B'.map (fun p => p.2.map (swJ k k' J p.1)) := by kernel_rfl) (h3 : (B'.all fun p => !(Nat.beq p.1 k')) = true := by kernel_rfl)
    (h4 : Clr k ((k, none) :: B) := by repeat first | exact clr_nil _ | refine clr_self ?_ | refine clr_map ?_ | refine clr_none ?_ | refine clr_bx ?_ | refine clr_d ?_ | refine clr_cons rfl ?_) (h5 : kV B k = none := by kernel_rfl) : qW ⟨S, B⟩ ⟨S', B'⟩ := fun C a w ⟨D, β, hs⟩ => by
  have hget : ∀ {l : BS}, (l.map (fun p => kV B (swN k k' p.1)) = l.map (fun p => p.2.map (swJ k k' J p.1))) → ∀ {j c}, kV l j = some c → kV B (swN k k' j) = some (swJ k k' J j c) := by
    intro l
    induction l with
    | nil => intro _ j c h; simp [kV] at h
    | cons p l ih =>
      intro hl j c hj
      obtain ⟨q, y⟩ := p
      simp only [List.map_cons, List.cons.injEq] at hl
      rw [jZ] at hj
      split at hj
      · rename_i e; subst e; subst hj; rw [hl.1]; rfl
      · exact ih hl.2 hj
  have hkey : ∀ {l : BS}, ((l.all fun p => !(Nat.beq p.1 k')) = true) → ∀ {j c}, kV l j = some c → j ≠ k' := by
    intro l
    induction l with
    | nil => intro _ j c h; simp [kV] at h
    | cons p l ih =>
      intro hl j c hj e
      obtain ⟨q, y⟩ := p
      simp only [List.all_cons, Bool.and_eq_true, Bool.not_eq_true'] at hl
      rw [jZ] at hj
      split at hj
      · rename_i e2; subst e2; subst e; simp at hl
      · exact ih hl.2 hj e
  have hnk : ∀ {j c}, kV B j = some c → j ≠ k ∧ vM k c = false := fun {j c} hj => by
    have hne : j ≠ k := fun e => by subst e; rw [h5] at hj; cases hj
    exact ⟨hne, h4 j c hne (by rw [jZ, if_neg (fun e => hne e.symm)]; exact hj)⟩
  have hsl : ∀ {l : SL}, (l.map (fun p => kR S p.1) = l.map (fun p => p.2.sw k k')) → ∀ t, kR l t = .junk ∨ kR S t = (kR l t).sw k k' := by
    intro l
    induction l with
    | nil => intro _ t; exact .inl rfl
    | cons p l ih =>
      intro hl t
      obtain ⟨q, y⟩ := p
      simp only [List.map_cons, List.cons.injEq] at hl
      rw [uS]
      split
      · rename_i e; subst e; exact .inr hl.1
      · exact ih hl.2 t
  refine ⟨D, fun j => β (swN k k' j), hs.base, ⟨fun j c hj => ?_, fun j1 j2 c1 c2 q1 q2 b e1 e2 => ?_⟩, fun j c hj b hb => hs.high _ _ (hget h2 hj) b hb, fun t => ?_⟩
  · have hc := hget h2 hj
    obtain ⟨_, hn⟩ := hnk hc
    rcases hs.mem.ok _ _ hc with ⟨h, h'⟩ | ⟨b, vs, T, g1, g2, g3, g4, g5⟩
    · refine .inl ⟨h, ?_⟩
      unfold swJ at h'
      cases hJ : Nat.beq j J with
      | true => rw [hJ, cond_true, List.map_eq_nil_iff] at h'; exact h'
      | false => rw [hJ, cond_false] at h'; exact h'
    · unfold swJ at hn g3 g4
      cases hJ : Nat.beq j J with
      | true =>
        rw [hJ, cond_true] at g3 g4
        refine .inr ⟨b, vs, T, g1, g2, by simpa using g3, fun i x hi => ?_, g5⟩
        obtain ⟨u, e1, e2, e3⟩ := g4 i (x.sw k k') (by rw [List.getElem?_map, hi]; rfl)
        exact ⟨u, e1, e2, qN.sw e3⟩
      | false =>
        rw [hJ, cond_false] at hn g3 g4
        refine .inr ⟨b, vs, T, g1, g2, g3, fun i x hi => ?_, g5⟩
        obtain ⟨u, e1, e2, e3⟩ := g4 i x hi
        exact ⟨u, e1, e2, qN.sw (by rw [sw_of (names_get hn hi)]; exact e3)⟩
  · have := hs.mem.inj _ _ _ _ (hget h2 q1) (hget h2 q2) b e1 e2
    have n1 := hkey h3 q1
    have n2 := hkey h3 q2
    by_cases g1 : j1 = k <;> by_cases g2 : j2 = k
    · omega
    · subst g1; rw [swN_eq, swN_ne g2] at this; omega
    · subst g2; rw [swN_eq, swN_ne g1] at this; omega
    · rw [swN_ne g1, swN_ne g2] at this; exact this
  · show qN w D _ _ (kR S' t)
    rcases hsl h1 t with h | h
    · rw [h]; trivial
    · have := hs.slots t
      dsimp only at this
      rw [h] at this
      exact this.sw
end Go.Fid
set_option linter.unusedVariables false
set_option linter.unusedSimpArgs false
namespace Go.Fid
section
variable {P : Program} {S : SL} {B : BS} {o : Oper} {x y : Operand} {k : Nat} {T : TypeId}
end
section
variable {P : Program} {o : Oper}
theorem oQd {S : Nat → SV} {z : SV} (d d2 : jV) (h : uW P o S [] z) (e : d = d2) (e0 : z = .d d := by kernel_rfl) : uW P o S [] (.d d2) := e ▸ e0 ▸ h
theorem oQr {S : SL} {B : BS} {k : Nat} {z : SV} (d d2 : jV) (h : ROk P o S B k z) (e : d = d2) (e0 : z = .d d := by kernel_rfl) : ROk P o S B k (.d d2) := e ▸ e0 ▸ h
end
end Go.Fid
