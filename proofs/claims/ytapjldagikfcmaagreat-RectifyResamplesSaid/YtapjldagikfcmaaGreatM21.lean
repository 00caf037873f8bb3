/- Part 21 of a proof: rules, plain facts, and functions walked. -/
import Derived.Test.YtapjldagikfcmaaGreatM20
import Derived.Test.YtapjldagikfcmaaGreatM12
set_option linter.unusedVariables false
set_option linter.unusedSimpArgs false
namespace Go.Fid
open Go.RowKit (Below)
inductive CArgs (bl : List (Nat × List kX)) : List Nat → List (List kX) → Prop
  | nil : CArgs bl [] []
  | cons {k : Nat} {cs : List kX} {ks : List Nat} {css : List (List kX)} (hk : (k, cs) ∈ bl) (h : CArgs bl ks css) : CArgs bl (k :: ks) (cs :: css)
theorem CArgs.len {bl : List (Nat × List kX)} {ks : List Nat} {css : List (List kX)} (h : CArgs bl ks css) : ks.length = css.length := by
  induction h with
  | nil => rfl
  | cons hk h ih => simp [ih]
theorem CArgs.get {bl : List (Nat × List kX)} {ks : List Nat} {css : List (List kX)} (h : CArgs bl ks css) : ∀ (i : Nat) k cs, ks[i]? = some k → css[i]? = some cs → (k, cs) ∈ bl := by
  induction h with
  | nil => intro i k cs h; simp at h
  | cons hk h ih =>
    intro i k cs h1 h2
    rcases i with _ | i
    · simp at h1 h2; subst h1; subst h2; exact hk
    · exact ih i k cs (by simpa using h1) (by simpa using h2)
inductive fU (bl : List (Nat × List kX)) (E : TypeId) : List SV → List kX → Prop
  | nil : fU bl E [] []
  | d {x : kX} {zs : List SV} {ds : List kX} (h : fU bl E zs ds) : fU bl E (.d x :: zs) (x :: ds)
  | v {k q n s : Nat} {cs es : List kX} {zs : List SV} {ds : List kX} (hk : (k, cs) ∈ bl) (hes : ∀ e ∈ es, e.cells.length = s) (hl : es.length = n) (hc : (cs.drop q).take (n * s) = uU es) (h : fU bl E zs ds) : fU bl E (.view k q n :: zs) (.sl E s es :: ds)
  | p {k o : Nat} {cs : List kX} {zs : List SV} {ds : List kX} (hk : (k, cs) ∈ bl) (h : fU bl E zs ds) : fU bl E (.ref k o :: zs) (.cptr E cs o :: ds)
  | c {f : FuncId} {ks : List Nat} {css : List (List kX)} {zs : List SV} {ds : List kX} (hk : CArgs bl ks css) (h : fU bl E zs ds) : fU bl E (.clo f ks :: zs) (.clo f (css.map fun cs => .cptr E cs 0) :: ds)
theorem fU.len {bl : List (Nat × List kX)} {E : TypeId} {zs : List SV} {ds : List kX} (h : fU bl E zs ds) : zs.length = ds.length := by
  induction h with
  | nil => rfl
  | d h ih => simp [ih]
  | v hk hes hl hc h ih => simp [ih]
  | p hk h ih => simp [ih]
  | c hk h ih => simp [ih]
theorem fU.rep {bl : List (Nat × List kX)} {E : TypeId} {zs : List SV} {ds : List kX} (h : fU bl E zs ds) {w : World} {D D' : uZ} {β : vG} (h1 : ∀ v x, xU w D v x → xU w D' v x)
    (h2 : ∀ (k q n s : Nat) (cs es : List kX) (v : Value), (k, cs) ∈ bl → (∀ e ∈ es, e.cells.length = s) → es.length = n → (cs.drop q).take (n * s) = uU es → vB w D β v (.view k q n) → xU w D' v (.sl E s es))
    (h3 : ∀ (k o : Nat) (cs : List kX) (v : Value), (k, cs) ∈ bl → vB w D β v (.ref k o) → xU w D' v (.cptr E cs o)) :
    ∀ (vs : List Value), vs.length = zs.length → (∀ (i : Nat) v x, vs[i]? = some v → zs[i]? = some x → vB w D β v x) → ∀ (i : Nat) v d, vs[i]? = some v → ds[i]? = some d → xU w D' v d := by
  induction h with
  | nil => intro vs _ _ i v d _ hd; simp at hd
  | d h ih =>
    intro vs hl hr i v d' hv hd
    rcases vs with _ | ⟨v0, vs⟩
    · simp at hl
    · rcases i with _ | i
      · simp at hv hd; subst hv; subst hd; exact h1 _ _ (hr 0 _ _ rfl rfl)
      · exact ih vs (by simpa using hl) (fun i v x h3 h4 => hr (i + 1) v x (by simpa using h3) (by simpa using h4)) i v d' (by simpa using hv) (by simpa using hd)
  | v hk hes hl' hc h ih =>
    intro vs hl hr i v d' hv hd
    rcases vs with _ | ⟨v0, vs⟩
    · simp at hl
    · rcases i with _ | i
      · simp at hv hd; subst hv; subst hd; exact h2 _ _ _ _ _ _ _ hk hes hl' hc (hr 0 _ _ rfl rfl)
      · exact ih vs (by simpa using hl) (fun i v x h3 h4 => hr (i + 1) v x (by simpa using h3) (by simpa using h4)) i v d' (by simpa using hv) (by simpa using hd)
  | p hk h ih =>
    intro vs hl hr i v d' hv hd
    rcases vs with _ | ⟨v0, vs⟩
    · simp at hl
    · rcases i with _ | i
      · simp at hv hd; subst hv; subst hd; exact h3 _ _ _ _ hk (hr 0 _ _ rfl rfl)
      · exact ih vs (by simpa using hl) (fun i v x h3 h4 => hr (i + 1) v x (by simpa using h3) (by simpa using h4)) i v d' (by simpa using hv) (by simpa using hd)
  | c hk h ih =>
    intro vs hl hr i v d' hv hd
    rcases vs with _ | ⟨v0, vs⟩
    · simp at hl
    · rcases i with _ | i
      · simp at hv hd; subst hv; subst hd
        obtain ⟨us, e1, e2, e3⟩ := hr 0 _ _ rfl rfl
        rw [e1]
        refine .clo us (by rw [e2, hk.len, List.length_map]) fun j u d hu hd => ?_
        rw [List.getElem?_map, Option.map_eq_some_iff] at hd
        obtain ⟨cs, hcs, rfl⟩ := hd
        have hlt : j < _ := (List.getElem?_eq_some_iff.1 hcs).1
        rw [← hk.len] at hlt
        obtain ⟨b, g1, g2⟩ := e3 j _ (List.getElem?_eq_getElem hlt)
        rw [hu] at g2
        injection g2 with g2
        exact h3 _ 0 cs u (hk.get j _ cs (List.getElem?_eq_getElem hlt) hcs) ⟨b, g1, g2⟩
      · exact ih vs (by simpa using hl) (fun i v x h3 h4 => hr (i + 1) v x (by simpa using h3) (by simpa using h4)) i v d' (by simpa using hv) (by simpa using hd)
theorem blk_pub {w : World} {D : uZ} {β : vG} {bl : List (Nat × List kX)} {E : TypeId} (hD : DOk D w) (hbl : ∀ p ∈ bl, zV w D β p.1 (p.2.map SV.d)) :
    ∃ X : TypeId → Nat → Nat → Prop, DOk (fun t g i => D t g i ∨ X t g i) w ∧ (∀ t g i, X t g i → t = E ∧ ∀ t' i', ¬ D t' g i') ∧
      (∀ (k q n s : Nat) (cs es : List kX) (v : Value), (k, cs) ∈ bl → (∀ e ∈ es, e.cells.length = s) → es.length = n → (cs.drop q).take (n * s) = uU es → vB w D β v (.view k q n) → xU w (fun t g i => D t g i ∨ X t g i) v (.sl E s es)) ∧
      (∀ (k o : Nat) (cs : List kX) (v : Value), (k, cs) ∈ bl → vB w D β v (.ref k o) → xU w (fun t g i => D t g i ∨ X t g i) v (.cptr E cs o)) := by
  let X : TypeId → Nat → Nat → Prop := fun t g _ => t = E ∧ ∃ p ∈ bl, β p.1 = some g
  have hcap : ∀ p ∈ bl, ∀ b, β p.1 = some b → ∃ us T', w.heap[b]? = some (.cells us T' (0, 0)) ∧ (∀ (j : Nat) x, (p.2.map SV.d)[j]? = some x → ∃ u, us[j]? = some u ∧ u.oneCell' = true ∧ vB w D β u x) ∧ ∀ t o, ¬ D t b o := fun p hp b hb => by
    rcases hbl p hp with ⟨g1, _⟩ | ⟨b', us, T', g1, g2, g3, g4, g5⟩
    · rw [hb] at g1; cases g1
    · obtain rfl : b = b' := by rw [hb] at g1; injection g1
      exact ⟨us, T', g2, g4, g5⟩
  have hmono : ∀ t' g i, D t' g i → (D t' g i ∨ X t' g i) ∧ w.cell? ⟨g, i, none⟩ = w.cell? ⟨g, i, none⟩ := fun t' g i hd => ⟨.inl hd, rfl⟩
  refine ⟨X, fun t g i hd => ?_, fun t g i ⟨h1, p, hp, hb⟩ => ?_, ?_, ?_⟩
  · rcases hd with hd | ⟨_, p, hp, hb⟩
    · exact hD _ _ _ hd
    · obtain ⟨us, T', g2, _, _⟩ := hcap p hp g hb; exact zY g2
  · obtain ⟨us, T', _, _, g5⟩ := hcap p hp g hb
    exact ⟨h1, fun t' i' => g5 t' i'⟩
  · intro k q n s cs es v hk hes hl hc hv
    obtain ⟨b, cap, h1, h2, h5, h6⟩ := hv
    obtain ⟨us, T', g2, g4, g5⟩ := hcap (k, cs) hk b h1
    rw [h2]
    have hfl := zI hes
    have hcell : ∀ i, w.cell? ⟨b, i, none⟩ = us[i]? := fun i => cell_of_row w b i us T' (0, 0) g2
    have key : ∀ (i : Nat) d, (uU es)[i]? = some d → ∃ u, us[q + i]? = some u ∧ u.oneCell' = true ∧ xU w D u d := fun i d hd => by
      have hi : i < n * s := by
        have := (List.getElem?_eq_some_iff.1 hd).1
        rw [hfl, hl] at this; exact this
      have e1 : cs[q + i]? = some d := by
        rw [← hc, List.getElem?_take_of_lt hi, List.getElem?_drop] at hd
        exact hd
      exact g4 _ (.d d) (by rw [List.getElem?_map, e1]; rfl)
    refine xU.sl b q (fun i => us.getD (q + i) undef) hl.symm h5 h6 hes (fun _ => rfl) (fun i hi => .inr ⟨rfl, _, hk, h1⟩) (fun i hi => ?_) (fun i hi => ?_) (fun i d hd => ?_)
    · obtain ⟨x, q1, q2, q3⟩ := key i _ (List.getElem?_eq_getElem hi)
      rw [hcell, Array.getD_eq_getD_getElem?, q1]; rfl
    · obtain ⟨x, q1, q2, q3⟩ := key i _ (List.getElem?_eq_getElem hi)
      rw [Array.getD_eq_getD_getElem?, q1]; exact q2
    · obtain ⟨x, q1, q2, q3⟩ := key i d hd
      rw [Array.getD_eq_getD_getElem?, q1]
      exact xU.mono hmono q3
  · intro k o cs v hk hv
    obtain ⟨b, h1, h2⟩ := hv
    obtain ⟨us, T', g2, g4, g5⟩ := hcap (k, cs) hk b h1
    rw [h2]
    have hcell : ∀ i, w.cell? ⟨b, i, none⟩ = us[i]? := fun i => cell_of_row w b i us T' (0, 0) g2
    have key : ∀ (i : Nat) d, cs[i]? = some d → ∃ u, us[i]? = some u ∧ u.oneCell' = true ∧ xU w D u d := fun i d hd => g4 _ (.d d) (by rw [List.getElem?_map, hd]; rfl)
    have hp := xU.cptr (w := w) (D := fun t g i => D t g i ∨ X t g i) (t := E) (cs := cs) (off := o) b 0 (fun i => us.getD i undef) (fun i hi => .inr ⟨rfl, _, hk, h1⟩) (fun i hi => by
      obtain ⟨x, q1, q2, q3⟩ := key i _ (List.getElem?_eq_getElem hi)
      rw [Nat.zero_add, hcell, Array.getD_eq_getD_getElem?, q1]; rfl) (fun i hi => by
      obtain ⟨x, q1, q2, q3⟩ := key i _ (List.getElem?_eq_getElem hi)
      rw [Array.getD_eq_getD_getElem?, q1]; exact q2) (fun i d hd => by
      obtain ⟨x, q1, q2, q3⟩ := key i d hd
      rw [Array.getD_eq_getD_getElem?, q1]
      exact xU.mono hmono q3)
    rw [Nat.zero_add] at hp
    exact hp
theorem e_clg {P : Program} {o : Oper} {S : Nat → SV} {y : Operand} {xs : List Operand} {ats : Array TypeId} {f : FuncId} {ds : List kX} {r : kX} {zs : List SV} {E : TypeId} {bl : List (Nat × List kX)} (hf : kH P f ds r) (ho : o.op = .call { callee := .value y, args := xs.toArray, argTypes := ats }) (hy : ev S y = .d (.val (.func (.func f) #[] #[])))
    (hx : xs.map (ev S) = zs) (hz : fU bl E zs ds) (ha : gO E r) : vT P o S (bl.map fun p => (p.1, p.2.map SV.d)) (.d r) :=
  fun a w D β Q hop hrd hD => by
    have hyv := hop y (by simp [ho, Op.operands, Call.operands])
    rw [hy] at hyv
    have hyv' := xX hyv
    have hrep : ∀ (i : Nat) v x, (xs.map a.eval)[i]? = some v → zs[i]? = some x → vB w D β v x := fun i v x hv hz' => by
      rw [List.getElem?_map, Option.map_eq_some_iff] at hv
      obtain ⟨p, hqi, rfl⟩ := hv
      have hm := hop p (by simp [ho, Op.operands, Call.operands, List.mem_of_getElem? hqi])
      have hi := congrArg (fun l : List SV => l[i]?) hx
      simp only [List.getElem?_map, hqi, hz', Option.map_some, Option.some.injEq] at hi
      rw [hi] at hm
      exact hm
    have vJ : (xs.map a.eval).length = zs.length := by rw [← hx]; simp
    have hrun : (execOp a.eval o).run P w = .ok (.enter f (xs.map a.eval).toArray) w := by
      simp only [execOp, ho, resolve, Deferred.ofValue, hyv', Sem.run_bind, Sem.run_pure, Result.andThen_ok, invoke, Array.empty_append, Array.append_empty]
      rw [gZ hf.may]
      simp
    obtain ⟨X, hD', hXp, hv, hp⟩ := blk_pub (E := E) (bl := bl) hD (fun p hp => hrd (p.1, p.2.map SV.d) (List.mem_map_of_mem (f := fun p : Nat × List kX => (p.1, p.2.map SV.d)) hp))
    have hmono : ∀ t' g i, D t' g i → (D t' g i ∨ X t' g i) ∧ w.cell? ⟨g, i, none⟩ = w.cell? ⟨g, i, none⟩ := fun t' g i hd => ⟨.inl hd, rfl⟩
    have hargs : Args w (fun t g i => D t g i ∨ X t g i) (xs.map a.eval) ds := ⟨vJ.trans hz.len, hz.rep (fun v x h => xU.mono hmono h) hv hp _ vJ hrep⟩
    refine eG hrun ((hf.run w _ _ hD' hargs).mono fun e w' h => ?_)
    obtain ⟨v, D2, he, h1, h2, h3⟩ := h
    refine ⟨v, he, v, fun t g i => D2 t g i ∧ ¬ X t g i, rfl, h1, ⟨fun t g i hd => ⟨h2.up _ _ _ (.inl hd), fun hx' => (hXp t g i hx').2 t i hd⟩, fun t g i hd => ?_⟩, ?_⟩
    · rcases h2.new t g i hd.1 with h | h
      · rcases h with h | h
        · exact .inl h
        · exact absurd h hd.2
      · exact .inr h
    · exact ha.rep (fun t g i hne hd => ⟨hd, fun hx' => hne (hXp t g i hx').1⟩) h3
theorem oCg {P : Program} {o : Oper} {S : SL} {B : BS} {y : Operand} {xs : List Operand} {ats : Array TypeId} {f : FuncId} {ds : List kX} {r : kX} (bl : List (Nat × List kX)) (zs : List SV) (hf : kH P f ds r) (hz : fU bl 1000000 zs ds) (ha : gO 1000000 r)
    (ho : o.op = .call { callee := .value y, args := xs.toArray, argTypes := ats } := by exact rfl) (hy : ev (qN S) y = .d (.val (.func (.func f) #[] #[])) := by kernel_rfl) (hx : xs.map (ev (qN S)) = zs := by kernel_rfl)
    (hb : bl.map (fun p => uL B p.1) = bl.map (fun p => some (p.2.map SV.d)) := by kernel_rfl) {ks : List Nat} (hks : bl.map (·.1) = ks := by exact rfl) : RKs P o S B ks (.d r) := by
  refine ⟨bl.map fun p => (p.1, p.2.map SV.d), by rw [List.map_map]; exact hks, e_clg hf ho hy hx hz ha, fun p hp => ?_⟩
  obtain ⟨q, hq, rfl⟩ := List.mem_map.1 hp
  exact List.map_inj_left.1 hb q hq
theorem pub_ptr_core {C : Ctx} {a : Act} {w : World} {st : PS} {D : uZ} {β : vG} {k : Nat} {T : TypeId} {cs : List kX} (h : SimAt C a w st D β) (hb : uL st.bs k = some (cs.map SV.d)) :
    ∃ D', SimAt C a w ⟨st.sl, (k, none) :: st.bs⟩ D' β ∧ ∀ v o, vB w D β v (.ref k o) → xU w D' v (.cptr T cs o) := by
  have hbs : ∀ {j : Nat} {c : List SV}, uL ((k, none) :: st.bs) j = some c → j ≠ k ∧ uL st.bs j = some c := fun {j c} hj => by
    rw [kV] at hj
    split at hj
    · cases hj
    · rename_i e; exact ⟨fun e' => e e'.symm, hj⟩
  rcases h.mem.ok k _ hb with ⟨g1, hcs⟩ | ⟨b, vs, T', g1, g2, g3, g4, g5⟩
  · refine ⟨D, ⟨h.base, ⟨fun j c hj => h.mem.ok j c (hbs hj).2, fun j1 j2 c1 c2 q1 q2 => h.mem.inj j1 j2 c1 c2 (hbs q1).2 (hbs q2).2⟩, fun j c hj => h.high j c (hbs hj).2, h.slots⟩, fun v o hv => ?_⟩
    obtain ⟨b, h1, _⟩ := hv
    rw [h1] at g1; cases g1
  · have hlt := zY g2
    have hmono : ∀ t' g o, D t' g o → (D t' g o ∨ (t' = T ∧ g = b ∧ o < cs.length)) ∧ w.cell? ⟨g, o, none⟩ = w.cell? ⟨g, o, none⟩ := fun t' g o hd => ⟨.inl hd, rfl⟩
    have hS : ∀ {v x}, vB w D β v x → vB w (fun t' g o => D t' g o ∨ (t' = T ∧ g = b ∧ o < cs.length)) β v x := fun {v x} hr => by
      cases x with
      | d x => exact xU.mono hmono hr
      | ref k o => exact hr
      | own k t s n => exact hr
      | clo f ks => exact hr
      | emp => exact hr
      | view k o n => exact hr
      | junk => trivial
    refine ⟨fun t' g o => D t' g o ∨ (t' = T ∧ g = b ∧ o < cs.length), ⟨⟨h.base.defers, h.base.size, h.base.keep, h.base.oth, h.base.pin, h.base.below, fun t' g o hd => .inl (h.base.dmono _ _ _ hd), fun t' g o hd => ?_, fun t' g o hd => ?_⟩, ⟨fun j c hj => ?_, fun j1 j2 c1 c2 q1 q2 => h.mem.inj j1 j2 c1 c2 (hbs q1).2 (hbs q2).2⟩, fun j c hj => h.high j c (hbs hj).2, fun u => hS (h.slots u)⟩, fun v o hv => ?_⟩
    · rcases hd with hd | ⟨_, e, _⟩
      · exact h.base.dnew _ _ _ hd
      · subst e; exact .inr (h.high k _ hb g g1)
    · rcases hd with hd | ⟨_, e, _⟩
      · exact h.base.dok _ _ _ hd
      · subst e; exact hlt
    · obtain ⟨hne, hj'⟩ := hbs hj
      rcases h.mem.ok j c hj' with q | ⟨b2, vs2, T2, q1, q2, q3, q4, q5⟩
      · exact .inl q
      · refine .inr ⟨b2, vs2, T2, q1, q2, q3, fun i x hx => ?_, fun t' o hd => ?_⟩
        · obtain ⟨u, e1, e2, e3⟩ := q4 i x hx
          exact ⟨u, e1, e2, hS e3⟩
        · rcases hd with hd | ⟨_, e, _⟩
          · exact q5 _ _ hd
          · subst e; exact hne (h.mem.inj j k _ _ hj' hb b2 q1 g1)
    · obtain ⟨b2, h1, h2⟩ := hv
      obtain rfl : b = b2 := by rw [h1] at g1; injection g1 with g1; exact g1.symm
      rw [h2]
      have hcell : ∀ i, w.cell? ⟨b, i, none⟩ = vs[i]? := fun i => cell_of_row w b i vs T' (0, 0) g2
      have key : ∀ (i : Nat) d, cs[i]? = some d → ∃ u, vs[i]? = some u ∧ u.oneCell' = true ∧ xU w D u d := fun i d hd => g4 _ (.d d) (by rw [List.getElem?_map, hd]; rfl)
      have hp := xU.cptr (w := w) (D := fun t' g o => D t' g o ∨ (t' = T ∧ g = b ∧ o < cs.length)) (t := T) (cs := cs) (off := o) b 0 (fun i => vs.getD i undef) (fun i hi => .inr ⟨rfl, rfl, by rw [Nat.zero_add]; exact hi⟩) (fun i hi => by
        obtain ⟨x, q1, q2, q3⟩ := key i _ (List.getElem?_eq_getElem hi)
        rw [Nat.zero_add, hcell, Array.getD_eq_getD_getElem?, q1]; rfl) (fun i hi => by
        obtain ⟨x, q1, q2, q3⟩ := key i _ (List.getElem?_eq_getElem hi)
        rw [Array.getD_eq_getD_getElem?, q1]; exact q2) (fun i d hd => by
        obtain ⟨x, q1, q2, q3⟩ := key i d hd
        rw [Array.getD_eq_getD_getElem?, q1]
        exact xU.mono hmono q3)
      rw [Nat.zero_add] at hp
      exact hp
theorem publishP {st : PS} {t k o : Nat} {T : TypeId} {cs : List kX} (hs : qN st.sl t = .ref k o) (hb : uL st.bs k = some (cs.map SV.d)) : jW st ⟨(t, .d (.cptr T cs o)) :: st.sl, (k, none) :: st.bs⟩ := fun C a w ⟨D, β, h⟩ => by
  obtain ⟨D', h', hp⟩ := pub_ptr_core (T := T) h hb
  have ht := h.slots t
  rw [hs] at ht
  refine ⟨D', β, h'.base, h'.mem, h'.high, fun u => ?_⟩
  show vB w D' β _ (qN ((t, .d (.cptr T cs o)) :: st.sl) u)
  rw [vV]
  split
  · rename_i e; subst e; exact hp _ _ ht
  · exact h'.slots u
end Go.Fid
set_option linter.unusedVariables false
set_option linter.unusedSimpArgs false
namespace Go.Fid
variable {P : Program}
def intFs (P : Program) : List Field → Nat → Bool
  | [], _ => true
  | f :: l, i => (f.name != "_") && (Nat.beq f.offset i && ((match P.underlying f.type with | some (.int _) => true | _ => false) && intFs P l (i + 1)))
def eqsB (P : Program) (T : TypeId) : Option Nat :=
  match P.underlying T with
  | some (.struct fs) => if intFs P fs.toList 0 && (!P.stoodInHeld T && !P.eqGuardType P.depth T) then some fs.size else none
  | _ => none
theorem run_part_int {t : TypeId} {ms : List Int} {i : Nat} {m : Int} {k j : IntKind} (ht : P.underlying t = some (.int j)) (hi : ms[i]? = some m) (w : World) : (part t (ms.map (Value.int k)).toArray i).run P w = .ok (.int k m) w := by
  have h2 : (ms.map (Value.int k))[i]? = some (.int k m) := by rw [List.getElem?_map, hi]; rfl
  simp [part, bC ht, isAggD, h2]
theorem run_eqInt {t : TypeId} {k j : IntKind} {m n : Int} (ht : P.underlying t = some (.int j)) (d : Nat) (w : World) : (Op.equalIn (d + 1) t (.int k m) (.int k n)).run P w = .ok (m == n) w := by
  simp [Op.equalIn, run_underlying ht]
theorem run_fs (k : IntKind) (d : Nat) (w : World) (ms ns : List Int) : ∀ (l : List Field) (i : Nat), intFs P l i = true → ms.length = i + l.length → ns.length = i + l.length →
    Sem.run P (forIn l ((none, ()) : Option Bool × Unit) fun f _ =>
            if f.name = "_" then pure (ForInStep.yield (none, ()))
            else do
              let a ← part f.type (List.map (Value.int k) ms).toArray f.offset
              let b ← part f.type (List.map (Value.int k) ns).toArray f.offset
              let c ← Op.equalIn (d + 1) f.type a b
              if c = false then pure (ForInStep.done (some false, ())) else pure (ForInStep.yield (none, ()))) w = .ok (if ms.drop i = ns.drop i then (none, ()) else (some false, ())) w
  | [], i, _, h1, h2 => by
    have e1 : ms.drop i = [] := List.drop_eq_nil_of_le (by simp at h1; omega)
    have e2 : ns.drop i = [] := List.drop_eq_nil_of_le (by simp at h2; omega)
    rw [e1, e2]; simp
  | f :: l, i, h, h1, h2 => by
    unfold intFs at h
    simp only [Bool.and_eq_true, bne_iff_ne, ne_eq] at h
    obtain ⟨g1, g2, g3, g4⟩ := h
    have g2 : f.offset = i := Nat.eq_of_beq_eq_true g2
    have hd : ∃ j, P.underlying f.type = some (.int j) := by
      split at g3
      · rename_i j e; exact ⟨j, e⟩
      · cases g3
    obtain ⟨j, hj⟩ := hd
    simp only [List.length_cons] at h1 h2
    have b1 : i < ms.length := by omega
    have b2 : i < ns.length := by omega
    have ih := run_fs k d w ms ns l (i + 1) g4 (by omega) (by omega)
    have e1 := List.drop_eq_getElem_cons b1
    have e2 := List.drop_eq_getElem_cons b2
    simp only [List.forIn_cons, g1, if_false, g2, Sem.run_bind, run_part_int hj (List.getElem?_eq_getElem b1), run_part_int hj (List.getElem?_eq_getElem b2), Result.andThen_ok, run_eqInt hj]
    by_cases he : ms[i] = ns[i]
    · have hx : (ms.drop i = ns.drop i) = (ms.drop (i + 1) = ns.drop (i + 1)) := by
        rw [e1, e2, he]
        exact propext ⟨fun h => (List.cons.inj h).2, fun h => by rw [h]⟩
      simp only [he, beq_self_eq_true, Bool.true_eq_false, if_false, Sem.run_pure, Result.andThen_ok]
      rw [ih]
      simp only [hx]
    · have hx : ¬ ms.drop i = ns.drop i := by
        rw [e1, e2]
        exact fun h => he (List.cons.inj h).1
      have hb : (ms[i] == ns[i]) = false := by simp [he]
      simp only [hb, if_true, Sem.run_pure, Result.andThen_ok, if_neg hx]
theorem run_eqS {T : TypeId} {c : Nat} (h : eqsB P T = some c) (k : IntKind) (ms ns : List Int) (h1 : ms.length = c) (h2 : ns.length = c) (w : World) :
    (Op.equal T (.agg (ms.map (Value.int k)).toArray) (.agg (ns.map (Value.int k)).toArray)).run P w = .ok (decide (ms = ns)) w ∧ P.eqGuardType P.depth T = false := by
  unfold eqsB at h
  split at h
  · rename_i fs hT
    split at h
    · rename_i hq
      simp only [Bool.and_eq_true, Bool.not_eq_true'] at hq
      injection h with h
      refine ⟨?_, hq.2.2⟩
      show (Op.equalIn (9998 + 2) T _ _).run P w = _
      rw [Op.equalIn]
      have hl := run_fs k 9998 w ms ns fs.toList 0 hq.1 (by simp; omega) (by simp; omega)
      rw [Array.forIn_toList] at hl
      simp [run_underlying hT, hq.2.1]
      have hl2 := hl
      simp only [List.drop_zero] at hl2
      rw [hl2]
      by_cases e : ms = ns
      · simp [e]
      · simp [e]
    · cases h
  · cases h
theorem rep_ints {w : World} {D : uZ} {v : Value} {k : IntKind} {ms : List Int} (h : xU w D v (.agg (ms.map fun m => .val (.int k m)))) : v = .agg (ms.map (Value.int k)).toArray := by
  obtain ⟨vs, rfl, hl, _, hr⟩ := rep_agg h
  have e : vs = ms.map (Value.int k) := by
    refine List.ext_getElem (by simpa using hl) fun i h1 h2 => ?_
    have hi : i < ms.length := by simpa using h2
    have := xX (hr i vs[i] (.val (.int k ms[i])) (List.getElem?_eq_getElem h1) (by rw [List.getElem?_map, List.getElem?_eq_getElem hi]; rfl))
    rw [this]; simp
  rw [e]
theorem e_eqs {o : Oper} {S : Nat → SV} {T T' : TypeId} {x y : Operand} {k : IntKind} {ms ns : List Int} {c : Nat} (ho : o.op = .binOp .eql T x y T') (hT : eqsB P T = some c) (hx : ev S x = .d (.agg (ms.map fun m => .val (.int k m)))) (hy : ev S y = .d (.agg (ns.map fun m => .val (.int k m)))) (h1 : ms.length = c) (h2 : ns.length = c) : vT P o S [] (.d (.val (.bool (decide (ms = ns))))) :=
  vT.same fun a w D β hop _ => by
    have hx' := hop x (by simp [ho, Op.operands])
    have hy' := hop y (by simp [ho, Op.operands])
    rw [hx] at hx'
    rw [hy] at hy'
    have ex := rep_ints hx'
    have ey := rep_ints hy'
    obtain ⟨g1, g2⟩ := run_eqS hT k ms ns h1 h2 w
    refine ⟨.bool (decide (ms = ns)), ?_, .val _⟩
    simp [execOp, ho, ex, ey, eqGuard, g2, binOp, g1]
theorem oEs {P : Program} {o : Oper} {S : Nat → SV} {T T' : TypeId} {x y : Operand} {c : Nat} (hT : eqsB P T = some c) (k : IntKind) (ms ns : List Int) (ho : o.op = .binOp .eql T x y T' := by exact rfl) (hx : ev S x = .d (.agg (ms.map fun m => .val (.int k m))) := by kernel_rfl) (hy : ev S y = .d (.agg (ns.map fun m => .val (.int k m))) := by kernel_rfl) (h1 : ms.length = c := by exact rfl) (h2 : ns.length = c := by exact rfl) : vT P o S [] (.d (.val (.bool (decide (ms = ns))))) := e_eqs ho hT hx hy h1 h2
end Go.Fid
set_option linter.unusedVariables false
set_option linter.unusedSimpArgs false
namespace Go.Fid
variable {P : Program} {o : Oper} {S : Nat → SV}
theorem e_nckd {x : Operand} {t : TypeId} {q : Nat} {cs : List kX} (ho : o.op = .nilCheck x) (hx : ev S x = .d (.cptr t cs q)) : vT P o S [] (.d (.cptr t cs q)) :=
  vT.same fun a' w D β hop _ => by
    have hp := hop x (by simp [ho, Op.operands])
    rw [hx] at hp
    generalize hvv : a'.eval x = v at hp
    cases hp with
    | cptr g p u hD hu h1 hr =>
      exact ⟨.pointer (some ⟨g, p + q, none⟩), by simp [execOp, ho, hvv], xU.cptr g p u hD hu h1 hr⟩
theorem oNd {x : Operand} {t : TypeId} {q : Nat} {cs : List kX} (ho : o.op = .nilCheck x := by exact rfl) (hx : ev S x = .d (.cptr t cs q) := by exact rfl) : vT P o S [] (.d (.cptr t cs q)) := e_nckd ho hx
theorem oXc {T E t : TypeId} {x y : Operand} {k : IntKind} {N s p : Nat} {cs : List kX} (hT : eP P T = some (N, E, s)) (j : Nat) (ho : o.op = .indexAddr T x y := by exact rfl) (hx : ev S x = .d (.cptr t cs p) := by exact rfl) (hi : ev S y = .d (.val (.int k ((j : Nat) : Int))) := by exact rfl) (h1 : Nat.blt j N = true := by kernel_rfl) : vT P o S [] (.d (.cptr t cs (p + j * s))) :=
  e_index_acptr ho hT hx hi (Int.natCast_nonneg j) (Int.ofNat_lt.2 (Nat.le_of_ble_eq_true h1))
end Go.Fid
namespace Go.Proofs.YtapjldagikfcmaaGreat
open Go.Fid
theorem avo_encR (h181 : 181 ≠ 1000000) (x : jZ) : gO 1000000 (jP x) := .agg (eH (.val _) (eH (avo_vals h181 _) (eH (.val _) (eH (avo_vals h181 _) avo_nil))))
end Go.Proofs.YtapjldagikfcmaaGreat
