/- Part 8 of a proof: rules, plain facts, and functions walked. -/
import Derived.Test.YtbecgnplakngdaaGreatM7
import Derived.Test.YtbecgnplakngdaaGreatM4
set_option linter.unusedVariables false
set_option linter.unusedSimpArgs false
namespace Go.Fid
open Go.RowKit (Below)
inductive fS (bl : List (Nat × List kY)) (E : TypeId) : List SV → List kY → Prop
  | nil : fS bl E [] []
  | d {x : kY} {zs : List SV} {ds : List kY} (h : fS bl E zs ds) : fS bl E (.d x :: zs) (x :: ds)
  | v {k q n s : Nat} {cs es : List kY} {zs : List SV} {ds : List kY} (hk : (k, cs) ∈ bl) (hes : ∀ e ∈ es, e.cells.length = s) (hl : es.length = n) (hc : (cs.drop q).take (n * s) = uR es) (h : fS bl E zs ds) : fS bl E (.view k q n :: zs) (.sl E s es :: ds)
  | p {k o : Nat} {cs : List kY} {zs : List SV} {ds : List kY} (hk : (k, cs) ∈ bl) (h : fS bl E zs ds) : fS bl E (.ref k o :: zs) (.cptr E cs o :: ds)
theorem fS.len {bl : List (Nat × List kY)} {E : TypeId} {zs : List SV} {ds : List kY} (h : fS bl E zs ds) : zs.length = ds.length := by
  induction h with
  | nil => rfl
  | d h ih => simp [ih]
  | v hk hes hl hc h ih => simp [ih]
  | p hk h ih => simp [ih]
theorem fS.rep {bl : List (Nat × List kY)} {E : TypeId} {zs : List SV} {ds : List kY} (h : fS bl E zs ds) {w : World} {D D' : uT} {β : vP} (h1 : ∀ v x, xF w D v x → xF w D' v x)
    (h2 : ∀ (k q n s : Nat) (cs es : List kY) (v : Value), (k, cs) ∈ bl → (∀ e ∈ es, e.cells.length = s) → es.length = n → (cs.drop q).take (n * s) = uR es → vG w D β v (.view k q n) → xF w D' v (.sl E s es))
    (h3 : ∀ (k o : Nat) (cs : List kY) (v : Value), (k, cs) ∈ bl → vG w D β v (.ref k o) → xF w D' v (.cptr E cs o)) :
    ∀ (vs : List Value), vs.length = zs.length → (∀ (i : Nat) v x, vs[i]? = some v → zs[i]? = some x → vG w D β v x) → ∀ (i : Nat) v d, vs[i]? = some v → ds[i]? = some d → xF w D' v d := by
  induction h with
  | nil => intro vs _ _ i v d _ hd; simp at hd
  | d h ih =>
    intro vs hl hr i v d' hv hd
    rcases vs with _ | ⟨v0, vs⟩
    · simp at hl
    · rcases i with _ | i
      · simp at hv hd; subst hv; subst hd; exact h1 _ _ (hr 0 _ _ rfl rfl)
      · exact ih vs (by simpa using hl) (fun i v x h3 h4 => hr (i + 1) v x (by simpa using h3) (by simpa using h4)) i v d' (by simpa using hv) (by simpa using hd)
  | v hk hes hl' hc h ih =>
    intro vs hl hr i v d' hv hd
    rcases vs with _ | ⟨v0, vs⟩
    · simp at hl
    · rcases i with _ | i
      · simp at hv hd; subst hv; subst hd; exact h2 _ _ _ _ _ _ _ hk hes hl' hc (hr 0 _ _ rfl rfl)
      · exact ih vs (by simpa using hl) (fun i v x h3 h4 => hr (i + 1) v x (by simpa using h3) (by simpa using h4)) i v d' (by simpa using hv) (by simpa using hd)
  | p hk h ih =>
    intro vs hl hr i v d' hv hd
    rcases vs with _ | ⟨v0, vs⟩
    · simp at hl
    · rcases i with _ | i
      · simp at hv hd; subst hv; subst hd; exact h3 _ _ _ _ hk (hr 0 _ _ rfl rfl)
      · exact ih vs (by simpa using hl) (fun i v x h3 h4 => hr (i + 1) v x (by simpa using h3) (by simpa using h4)) i v d' (by simpa using hv) (by simpa using hd)
theorem blk_pub {w : World} {D : uT} {β : vP} {bl : List (Nat × List kY)} {E : TypeId} (hD : DOk D w) (hbl : ∀ p ∈ bl, yI w D β p.1 (p.2.map SV.d)) :
    ∃ X : TypeId → Nat → Nat → Prop, DOk (fun t g i => D t g i ∨ X t g i) w ∧ (∀ t g i, X t g i → t = E ∧ ∀ t' i', ¬ D t' g i') ∧
      (∀ (k q n s : Nat) (cs es : List kY) (v : Value), (k, cs) ∈ bl → (∀ e ∈ es, e.cells.length = s) → es.length = n → (cs.drop q).take (n * s) = uR es → vG w D β v (.view k q n) → xF w (fun t g i => D t g i ∨ X t g i) v (.sl E s es)) ∧
      (∀ (k o : Nat) (cs : List kY) (v : Value), (k, cs) ∈ bl → vG w D β v (.ref k o) → xF w (fun t g i => D t g i ∨ X t g i) v (.cptr E cs o)) := by
  let X : TypeId → Nat → Nat → Prop := fun t g _ => t = E ∧ ∃ p ∈ bl, β p.1 = some g
  have hcap : ∀ p ∈ bl, ∀ b, β p.1 = some b → ∃ us T', w.heap[b]? = some (.cells us T' (0, 0)) ∧ (∀ (j : Nat) x, (p.2.map SV.d)[j]? = some x → ∃ u, us[j]? = some u ∧ u.oneCell' = true ∧ vG w D β u x) ∧ ∀ t o, ¬ D t b o := fun p hp b hb => by
    rcases hbl p hp with ⟨g1, _⟩ | ⟨b', us, T', g1, g2, g3, g4, g5⟩
    · rw [hb] at g1; cases g1
    · obtain rfl : b = b' := by rw [hb] at g1; injection g1
      exact ⟨us, T', g2, g4, g5⟩
  have hmono : ∀ t' g i, D t' g i → (D t' g i ∨ X t' g i) ∧ w.cell? ⟨g, i, none⟩ = w.cell? ⟨g, i, none⟩ := fun t' g i hd => ⟨.inl hd, rfl⟩
  refine ⟨X, fun t g i hd => ?_, fun t g i ⟨h1, p, hp, hb⟩ => ?_, ?_, ?_⟩
  · rcases hd with hd | ⟨_, p, hp, hb⟩
    · exact hD _ _ _ hd
    · obtain ⟨us, T', g2, _, _⟩ := hcap p hp g hb; exact zL g2
  · obtain ⟨us, T', _, _, g5⟩ := hcap p hp g hb
    exact ⟨h1, fun t' i' => g5 t' i'⟩
  · intro k q n s cs es v hk hes hl hc hv
    obtain ⟨b, cap, h1, h2, h5, h6⟩ := hv
    obtain ⟨us, T', g2, g4, g5⟩ := hcap (k, cs) hk b h1
    rw [h2]
    have hfl := xK hes
    have hcell : ∀ i, w.cell? ⟨b, i, none⟩ = us[i]? := fun i => cell_of_row w b i us T' (0, 0) g2
    have key : ∀ (i : Nat) d, (uR es)[i]? = some d → ∃ u, us[q + i]? = some u ∧ u.oneCell' = true ∧ xF w D u d := fun i d hd => by
      have hi : i < n * s := by
        have := (List.getElem?_eq_some_iff.1 hd).1
        rw [hfl, hl] at this; exact this
      have e1 : cs[q + i]? = some d := by
        rw [← hc, List.getElem?_take_of_lt hi, List.getElem?_drop] at hd
        exact hd
      exact g4 _ (.d d) (by rw [List.getElem?_map, e1]; rfl)
    refine xF.sl b q (fun i => us.getD (q + i) undef) hl.symm h5 h6 hes (fun _ => rfl) (fun i hi => .inr ⟨rfl, _, hk, h1⟩) (fun i hi => ?_) (fun i hi => ?_) (fun i d hd => ?_)
    · obtain ⟨x, q1, q2, q3⟩ := key i _ (List.getElem?_eq_getElem hi)
      rw [hcell, Array.getD_eq_getD_getElem?, q1]; rfl
    · obtain ⟨x, q1, q2, q3⟩ := key i _ (List.getElem?_eq_getElem hi)
      rw [Array.getD_eq_getD_getElem?, q1]; exact q2
    · obtain ⟨x, q1, q2, q3⟩ := key i d hd
      rw [Array.getD_eq_getD_getElem?, q1]
      exact xF.mono hmono q3
  · intro k o cs v hk hv
    obtain ⟨b, h1, h2⟩ := hv
    obtain ⟨us, T', g2, g4, g5⟩ := hcap (k, cs) hk b h1
    rw [h2]
    have hcell : ∀ i, w.cell? ⟨b, i, none⟩ = us[i]? := fun i => cell_of_row w b i us T' (0, 0) g2
    have key : ∀ (i : Nat) d, cs[i]? = some d → ∃ u, us[i]? = some u ∧ u.oneCell' = true ∧ xF w D u d := fun i d hd => g4 _ (.d d) (by rw [List.getElem?_map, hd]; rfl)
    have hp := xF.cptr (w := w) (D := fun t g i => D t g i ∨ X t g i) (t := E) (cs := cs) (off := o) b 0 (fun i => us.getD i undef) (fun i hi => .inr ⟨rfl, _, hk, h1⟩) (fun i hi => by
      obtain ⟨x, q1, q2, q3⟩ := key i _ (List.getElem?_eq_getElem hi)
      rw [Nat.zero_add, hcell, Array.getD_eq_getD_getElem?, q1]; rfl) (fun i hi => by
      obtain ⟨x, q1, q2, q3⟩ := key i _ (List.getElem?_eq_getElem hi)
      rw [Array.getD_eq_getD_getElem?, q1]; exact q2) (fun i d hd => by
      obtain ⟨x, q1, q2, q3⟩ := key i d hd
      rw [Array.getD_eq_getD_getElem?, q1]
      exact xF.mono hmono q3)
    rw [Nat.zero_add] at hp
    exact hp
theorem e_clg {P : Program} {o : Oper} {S : Nat → SV} {y : Operand} {xs : List Operand} {ats : Array TypeId} {f : FuncId} {ds : List kY} {r : kY} {zs : List SV} {E : TypeId} {bl : List (Nat × List kY)} (hf : kD P f ds r) (ho : o.op = .call { callee := .value y, args := xs.toArray, argTypes := ats }) (hy : ev S y = .d (.val (.func (.func f) #[] #[])))
    (hx : xs.map (ev S) = zs) (hz : fS bl E zs ds) (ha : gV E r) : vO P o S (bl.map fun p => (p.1, p.2.map SV.d)) (.d r) :=
  fun a w D β Q hop hrd hD => by
    have hyv := hop y (by simp [ho, Op.operands, Call.operands])
    rw [hy] at hyv
    have hyv' := xP hyv
    have hrep : ∀ (i : Nat) v x, (xs.map a.eval)[i]? = some v → zs[i]? = some x → vG w D β v x := fun i v x hv hz' => by
      rw [List.getElem?_map, Option.map_eq_some_iff] at hv
      obtain ⟨p, hqi, rfl⟩ := hv
      have hm := hop p (by simp [ho, Op.operands, Call.operands, List.mem_of_getElem? hqi])
      have hi := congrArg (fun l : List SV => l[i]?) hx
      simp only [List.getElem?_map, hqi, hz', Option.map_some, Option.some.injEq] at hi
      rw [hi] at hm
      exact hm
    have vR : (xs.map a.eval).length = zs.length := by rw [← hx]; simp
    have hrun : (execOp a.eval o).run P w = .ok (.enter f (xs.map a.eval).toArray) w := by
      simp only [execOp, ho, resolve, Deferred.ofValue, hyv', Sem.run_bind, Sem.run_pure, Result.andThen_ok, invoke, Array.empty_append, Array.append_empty]
      rw [nE hf.may]
      simp
    obtain ⟨X, hD', hXp, hv, hp⟩ := blk_pub (E := E) (bl := bl) hD (fun p hp => hrd (p.1, p.2.map SV.d) (List.mem_map_of_mem (f := fun p : Nat × List kY => (p.1, p.2.map SV.d)) hp))
    have hmono : ∀ t' g i, D t' g i → (D t' g i ∨ X t' g i) ∧ w.cell? ⟨g, i, none⟩ = w.cell? ⟨g, i, none⟩ := fun t' g i hd => ⟨.inl hd, rfl⟩
    have hargs : Args w (fun t g i => D t g i ∨ X t g i) (xs.map a.eval) ds := ⟨vR.trans hz.len, hz.rep (fun v x h => xF.mono hmono h) hv hp _ vR hrep⟩
    refine fK hrun ((hf.run w _ _ hD' hargs).mono fun e w' h => ?_)
    obtain ⟨v, D2, he, h1, h2, h3⟩ := h
    refine ⟨v, he, v, fun t g i => D2 t g i ∧ ¬ X t g i, rfl, h1, ⟨fun t g i hd => ⟨h2.up _ _ _ (.inl hd), fun hx' => (hXp t g i hx').2 t i hd⟩, fun t g i hd => ?_⟩, ?_⟩
    · rcases h2.new t g i hd.1 with h | h
      · rcases h with h | h
        · exact .inl h
        · exact absurd h hd.2
      · exact .inr h
    · exact ha.rep (fun t g i hne hd => ⟨hd, fun hx' => hne (hXp t g i hx').1⟩) h3
theorem oCg {P : Program} {o : Oper} {S : SL} {B : BS} {y : Operand} {xs : List Operand} {ats : Array TypeId} {f : FuncId} {ds : List kY} {r : kY} (bl : List (Nat × List kY)) (zs : List SV) (hf : kD P f ds r) (hz : fS bl 1000000 zs ds) (ha : gV 1000000 r)
    (ho : o.op = .call { callee := .value y, args := xs.toArray, argTypes := ats } := by exact rfl) (hy : ev (qB S) y = .d (.val (.func (.func f) #[] #[])) := by kernel_rfl) (hx : xs.map (ev (qB S)) = zs := by kernel_rfl)
    (hb : bl.map (fun p => uJ B p.1) = bl.map (fun p => some (p.2.map SV.d)) := by kernel_rfl) {ks : List Nat} (hks : bl.map (·.1) = ks := by exact rfl) : RKs P o S B ks (.d r) := by
  refine ⟨bl.map fun p => (p.1, p.2.map SV.d), by rw [List.map_map]; exact hks, e_clg hf ho hy hx hz ha, fun p hp => ?_⟩
  obtain ⟨q, hq, rfl⟩ := List.mem_map.1 hp
  exact List.map_inj_left.1 hb q hq
theorem pub_ptr_core {C : Ctx} {a : Act} {w : World} {st : PS} {D : uT} {β : vP} {k : Nat} {T : TypeId} {cs : List kY} (h : SimAt C a w st D β) (hb : uJ st.bs k = some (cs.map SV.d)) :
    ∃ D', SimAt C a w ⟨st.sl, (k, none) :: st.bs⟩ D' β ∧ ∀ v o, vG w D β v (.ref k o) → xF w D' v (.cptr T cs o) := by
  have hbs : ∀ {j : Nat} {c : List SV}, uJ ((k, none) :: st.bs) j = some c → j ≠ k ∧ uJ st.bs j = some c := fun {j c} hj => by
    rw [kX] at hj
    split at hj
    · cases hj
    · rename_i e; exact ⟨fun e' => e e'.symm, hj⟩
  rcases h.mem.ok k _ hb with ⟨g1, hcs⟩ | ⟨b, vs, T', g1, g2, g3, g4, g5⟩
  · refine ⟨D, ⟨h.base, ⟨fun j c hj => h.mem.ok j c (hbs hj).2, fun j1 j2 c1 c2 q1 q2 => h.mem.inj j1 j2 c1 c2 (hbs q1).2 (hbs q2).2⟩, fun j c hj => h.high j c (hbs hj).2, h.slots⟩, fun v o hv => ?_⟩
    obtain ⟨b, h1, _⟩ := hv
    rw [h1] at g1; cases g1
  · have hlt := zL g2
    have hmono : ∀ t' g o, D t' g o → (D t' g o ∨ (t' = T ∧ g = b ∧ o < cs.length)) ∧ w.cell? ⟨g, o, none⟩ = w.cell? ⟨g, o, none⟩ := fun t' g o hd => ⟨.inl hd, rfl⟩
    have hS : ∀ {v x}, vG w D β v x → vG w (fun t' g o => D t' g o ∨ (t' = T ∧ g = b ∧ o < cs.length)) β v x := fun {v x} hr => by
      cases x with
      | d x => exact xF.mono hmono hr
      | ref k o => exact hr
      | own k t s n => exact hr
      | clo f ks => exact hr
      | emp => exact hr
      | view k o n => exact hr
      | junk => trivial
    refine ⟨fun t' g o => D t' g o ∨ (t' = T ∧ g = b ∧ o < cs.length), ⟨⟨h.base.defers, h.base.size, h.base.keep, h.base.oth, h.base.pin, h.base.below, fun t' g o hd => .inl (h.base.dmono _ _ _ hd), fun t' g o hd => ?_, fun t' g o hd => ?_⟩, ⟨fun j c hj => ?_, fun j1 j2 c1 c2 q1 q2 => h.mem.inj j1 j2 c1 c2 (hbs q1).2 (hbs q2).2⟩, fun j c hj => h.high j c (hbs hj).2, fun u => hS (h.slots u)⟩, fun v o hv => ?_⟩
    · rcases hd with hd | ⟨_, e, _⟩
      · exact h.base.dnew _ _ _ hd
      · subst e; exact .inr (h.high k _ hb g g1)
    · rcases hd with hd | ⟨_, e, _⟩
      · exact h.base.dok _ _ _ hd
      · subst e; exact hlt
    · obtain ⟨hne, hj'⟩ := hbs hj
      rcases h.mem.ok j c hj' with q | ⟨b2, vs2, T2, q1, q2, q3, q4, q5⟩
      · exact .inl q
      · refine .inr ⟨b2, vs2, T2, q1, q2, q3, fun i x hx => ?_, fun t' o hd => ?_⟩
        · obtain ⟨u, e1, e2, e3⟩ := q4 i x hx
          exact ⟨u, e1, e2, hS e3⟩
        · rcases hd with hd | ⟨_, e, _⟩
          · exact q5 _ _ hd
          · subst e; exact hne (h.mem.inj j k _ _ hj' hb b2 q1 g1)
    · obtain ⟨b2, h1, h2⟩ := hv
      obtain rfl : b = b2 := by rw [h1] at g1; injection g1 with g1; exact g1.symm
      rw [h2]
      have hcell : ∀ i, w.cell? ⟨b, i, none⟩ = vs[i]? := fun i => cell_of_row w b i vs T' (0, 0) g2
      have key : ∀ (i : Nat) d, cs[i]? = some d → ∃ u, vs[i]? = some u ∧ u.oneCell' = true ∧ xF w D u d := fun i d hd => g4 _ (.d d) (by rw [List.getElem?_map, hd]; rfl)
      have hp := xF.cptr (w := w) (D := fun t' g o => D t' g o ∨ (t' = T ∧ g = b ∧ o < cs.length)) (t := T) (cs := cs) (off := o) b 0 (fun i => vs.getD i undef) (fun i hi => .inr ⟨rfl, rfl, by rw [Nat.zero_add]; exact hi⟩) (fun i hi => by
        obtain ⟨x, q1, q2, q3⟩ := key i _ (List.getElem?_eq_getElem hi)
        rw [Nat.zero_add, hcell, Array.getD_eq_getD_getElem?, q1]; rfl) (fun i hi => by
        obtain ⟨x, q1, q2, q3⟩ := key i _ (List.getElem?_eq_getElem hi)
        rw [Array.getD_eq_getD_getElem?, q1]; exact q2) (fun i d hd => by
        obtain ⟨x, q1, q2, q3⟩ := key i d hd
        rw [Array.getD_eq_getD_getElem?, q1]
        exact xF.mono hmono q3)
      rw [Nat.zero_add] at hp
      exact hp
theorem publishP {st : PS} {t k o : Nat} {T : TypeId} {cs : List kY} (hs : qB st.sl t = .ref k o) (hb : uJ st.bs k = some (cs.map SV.d)) : jW st ⟨(t, .d (.cptr T cs o)) :: st.sl, (k, none) :: st.bs⟩ := fun C a w ⟨D, β, h⟩ => by
  obtain ⟨D', h', hp⟩ := pub_ptr_core (T := T) h hb
  have ht := h.slots t
  rw [hs] at ht
  refine ⟨D', β, h'.base, h'.mem, h'.high, fun u => ?_⟩
  show vG w D' β _ (qB ((t, .d (.cptr T cs o)) :: st.sl) u)
  rw [vS]
  split
  · rename_i e; subst e; exact hp _ _ ht
  · exact h'.slots u
end Go.Fid
set_option linter.unusedVariables false
set_option linter.unusedSimpArgs false
namespace Go.Fid
variable {P : Program}
def intFs (P : Program) : List Field → Nat → Bool
  | [], _ => true
  | f :: l, i => (f.name != "_") && (Nat.beq f.offset i && ((match P.underlying f.type with | some (.int _) => true | _ => false) && intFs P l (i + 1)))
def eqsB (P : Program) (T : TypeId) : Option Nat :=
  match P.underlying T with
  | some (.struct fs) => if intFs P fs.toList 0 && (!P.stoodInHeld T && !P.eqGuardType P.depth T) then some fs.size else none
  | _ => none
theorem run_part_int {t : TypeId} {ms : List Int} {i : Nat} {m : Int} {k j : IntKind} (ht : P.underlying t = some (.int j)) (hi : ms[i]? = some m) (w : World) : (part t (ms.map (Value.int k)).toArray i).run P w = .ok (.int k m) w := by
  have h2 : (ms.map (Value.int k))[i]? = some (.int k m) := by rw [List.getElem?_map, hi]; rfl
  simp [part, fH ht, isAggD, h2]
theorem run_eqInt {t : TypeId} {k j : IntKind} {m n : Int} (ht : P.underlying t = some (.int j)) (d : Nat) (w : World) : (Op.equalIn (d + 1) t (.int k m) (.int k n)).run P w = .ok (m == n) w := by
  simp [Op.equalIn, run_underlying ht]
theorem run_fs (k : IntKind) (d : Nat) (w : World) (ms ns : List Int) : ∀ (l : List Field) (i : Nat), intFs P l i = true → ms.length = i + l.length → ns.length = i + l.length →
    Sem.run P (forIn l ((none, ()) : Option Bool × Unit) fun f _ =>
            if f.name = "_" then pure (ForInStep.yield (none, ()))
            else do
              let a ← part f.type (List.map (Value.int k) ms).toArray f.offset
              let b ← part f.type (List.map (Value.int k) ns).toArray f.offset
              let c ← Op.equalIn (d + 1) f.type a b
              if c = false then pure (ForInStep.done (some false, ())) else pure (ForInStep.yield (none, ()))) w = .ok (if ms.drop i = ns.drop i then (none, ()) else (some false, ())) w
  | [], i, _, h1, h2 => by
    have e1 : ms.drop i = [] := List.drop_eq_nil_of_le (by simp at h1; omega)
    have e2 : ns.drop i = [] := List.drop_eq_nil_of_le (by simp at h2; omega)
    rw [e1, e2]; simp
  | f :: l, i, h, h1, h2 => by
    unfold intFs at h
    simp only [Bool.and_eq_true, bne_iff_ne, ne_eq] at h
    obtain ⟨g1, g2, g3, g4⟩ := h
    have g2 : f.offset = i := Nat.eq_of_beq_eq_true g2
    have hd : ∃ j, P.underlying f.type = some (.int j) := by
      split at g3
      · rename_i j e; exact ⟨j, e⟩
      · cases g3
    obtain ⟨j, hj⟩ := hd
    simp only [List.length_cons] at h1 h2
    have b1 : i < ms.length := by omega
    have b2 : i < ns.length := by omega
    have ih := run_fs k d w ms ns l (i + 1) g4 (by omega) (by omega)
    have e1 := List.drop_eq_getElem_cons b1
    have e2 := List.drop_eq_getElem_cons b2
    simp only [List.forIn_cons, g1, if_false, g2, Sem.run_bind, run_part_int hj (List.getElem?_eq_getElem b1), run_part_int hj (List.getElem?_eq_getElem b2), Result.andThen_ok, run_eqInt hj]
    by_cases he : ms[i] = ns[i]
    · have hx : (ms.drop i = ns.drop i) = (ms.drop (i + 1) = ns.drop (i + 1)) := by
        rw [e1, e2, he]
        exact propext ⟨fun h => (List.cons.inj h).2, fun h => by rw [h]⟩
      simp only [he, beq_self_eq_true, Bool.true_eq_false, if_false, Sem.run_pure, Result.andThen_ok]
      rw [ih]
      simp only [hx]
    · have hx : ¬ ms.drop i = ns.drop i := by
        rw [e1, e2]
        exact fun h => he (List.cons.inj h).1
      have hb : (ms[i] == ns[i]) = false := by simp [he]
      simp only [hb, if_true, Sem.run_pure, Result.andThen_ok, if_neg hx]
theorem run_eqS {T : TypeId} {c : Nat} (h : eqsB P T = some c) (k : IntKind) (ms ns : List Int) (h1 : ms.length = c) (h2 : ns.length = c) (w : World) :
    (Op.equal T (.agg (ms.map (Value.int k)).toArray) (.agg (ns.map (Value.int k)).toArray)).run P w = .ok (decide (ms = ns)) w ∧ P.eqGuardType P.depth T = false := by
  unfold eqsB at h
  split at h
  · rename_i fs hT
    split at h
    · rename_i hq
      simp only [Bool.and_eq_true, Bool.not_eq_true'] at hq
      injection h with h
      refine ⟨?_, hq.2.2⟩
      show (Op.equalIn (9998 + 2) T _ _).run P w = _
      rw [Op.equalIn]
      have hl := run_fs k 9998 w ms ns fs.toList 0 hq.1 (by simp; omega) (by simp; omega)
      rw [Array.forIn_toList] at hl
      simp [run_underlying hT, hq.2.1]
      have hl2 := hl
      simp only [List.drop_zero] at hl2
      rw [hl2]
      by_cases e : ms = ns
      · simp [e]
      · simp [e]
    · cases h
  · cases h
theorem rep_ints {w : World} {D : uT} {v : Value} {k : IntKind} {ms : List Int} (h : xF w D v (.agg (ms.map fun m => .val (.int k m)))) : v = .agg (ms.map (Value.int k)).toArray := by
  obtain ⟨vs, rfl, hl, _, hr⟩ := rep_agg h
  have e : vs = ms.map (Value.int k) := by
    refine List.ext_getElem (by simpa using hl) fun i h1 h2 => ?_
    have hi : i < ms.length := by simpa using h2
    have := xP (hr i vs[i] (.val (.int k ms[i])) (List.getElem?_eq_getElem h1) (by rw [List.getElem?_map, List.getElem?_eq_getElem hi]; rfl))
    rw [this]; simp
  rw [e]
theorem e_eqs {o : Oper} {S : Nat → SV} {T T' : TypeId} {x y : Operand} {k : IntKind} {ms ns : List Int} {c : Nat} (ho : o.op = .binOp .eql T x y T') (hT : eqsB P T = some c) (hx : ev S x = .d (.agg (ms.map fun m => .val (.int k m)))) (hy : ev S y = .d (.agg (ns.map fun m => .val (.int k m)))) (h1 : ms.length = c) (h2 : ns.length = c) : vO P o S [] (.d (.val (.bool (decide (ms = ns))))) :=
  vO.same fun a w D β hop _ => by
    have hx' := hop x (by simp [ho, Op.operands])
    have hy' := hop y (by simp [ho, Op.operands])
    rw [hx] at hx'
    rw [hy] at hy'
    have ex := rep_ints hx'
    have ey := rep_ints hy'
    obtain ⟨g1, g2⟩ := run_eqS hT k ms ns h1 h2 w
    refine ⟨.bool (decide (ms = ns)), ?_, .val _⟩
    simp [execOp, ho, ex, ey, eqGuard, g2, binOp, g1]
theorem oEs {P : Program} {o : Oper} {S : Nat → SV} {T T' : TypeId} {x y : Operand} {c : Nat} (hT : eqsB P T = some c) (k : IntKind) (ms ns : List Int) (ho : o.op = .binOp .eql T x y T' := by exact rfl) (hx : ev S x = .d (.agg (ms.map fun m => .val (.int k m))) := by kernel_rfl) (hy : ev S y = .d (.agg (ns.map fun m => .val (.int k m))) := by kernel_rfl) (h1 : ms.length = c := by exact rfl) (h2 : ns.length = c := by exact rfl) : vO P o S [] (.d (.val (.bool (decide (ms = ns))))) := e_eqs ho hT hx hy h1 h2
end Go.Fid
set_option linter.unusedVariables false
set_option linter.unusedSimpArgs false
namespace Go.Fid
variable {P : Program} {o : Oper} {S : Nat → SV}
theorem e_nckd {x : Operand} {t : TypeId} {q : Nat} {cs : List kY} (ho : o.op = .nilCheck x) (hx : ev S x = .d (.cptr t cs q)) : vO P o S [] (.d (.cptr t cs q)) :=
  vO.same fun a' w D β hop _ => by
    have hp := hop x (by simp [ho, Op.operands])
    rw [hx] at hp
    generalize hvv : a'.eval x = v at hp
    cases hp with
    | cptr g p u hD hu h1 hr =>
      exact ⟨.pointer (some ⟨g, p + q, none⟩), by simp [execOp, ho, hvv], xF.cptr g p u hD hu h1 hr⟩
theorem oNd {x : Operand} {t : TypeId} {q : Nat} {cs : List kY} (ho : o.op = .nilCheck x := by exact rfl) (hx : ev S x = .d (.cptr t cs q) := by exact rfl) : vO P o S [] (.d (.cptr t cs q)) := e_nckd ho hx
theorem oXc {T E t : TypeId} {x y : Operand} {k : IntKind} {N s p : Nat} {cs : List kY} (hT : cX P T = some (N, E, s)) (j : Nat) (ho : o.op = .indexAddr T x y := by exact rfl) (hx : ev S x = .d (.cptr t cs p) := by exact rfl) (hi : ev S y = .d (.val (.int k ((j : Nat) : Int))) := by exact rfl) (h1 : Nat.blt j N = true := by kernel_rfl) : vO P o S [] (.d (.cptr t cs (p + j * s))) :=
  e_index_acptr ho hT hx hi (Int.natCast_nonneg j) (Int.ofNat_lt.2 (Nat.le_of_ble_eq_true h1))
end Go.Fid
namespace Go.Proofs.YtbecgnplakngdaaGreat
open Go.Fid
theorem avo_encR (h152 : 152 ≠ 1000000) (x : jV) : gV 1000000 (jM x) := .agg (cQ (.val _) (cQ (avo_vals h152 _) (cQ (.val _) (cQ (avo_vals h152 _) avo_nil))))
end Go.Proofs.YtbecgnplakngdaaGreat
namespace Go.Proofs.YtbecgnplakngdaaGreat
open Go.Fid
set_option maxRecDepth 4000
set_option linter.unusedVariables false
set_option linter.unusedSimpArgs false
theorem yE : cX Tryz.prog 44 = some (3, 42, 4) := by kernel_rfl
theorem ar45 : cX Tryz.prog 45 = some (3, 44, 12) := by kernel_rfl
theorem uB : cX Tryz.prog 129 = some (3, 42, 4) := by kernel_rfl
theorem xA : cX Tryz.prog 131 = some (3, 129, 12) := by kernel_rfl
theorem cb22 : callB Tryz.prog 22 = true := by kernel_rfl
theorem cb23 : callB Tryz.prog 23 = true := by kernel_rfl
theorem cb38 : callB Tryz.prog 38 = true := by kernel_rfl
theorem cb44 : callB Tryz.prog 44 = true := by kernel_rfl
theorem cb45 : callB Tryz.prog 45 = true := by kernel_rfl
theorem cb70 : callB Tryz.prog 70 = true := by kernel_rfl
theorem cb72 : callB Tryz.prog 72 = true := by kernel_rfl
theorem cb73 : callB Tryz.prog 73 = true := by kernel_rfl
theorem cb78 : callB Tryz.prog 78 = true := by kernel_rfl
theorem cb90 : callB Tryz.prog 90 = true := by kernel_rfl
theorem cb92 : callB Tryz.prog 92 = true := by kernel_rfl
theorem cb96 : callB Tryz.prog 96 = true := by kernel_rfl
theorem cb98 : callB Tryz.prog 98 = true := by kernel_rfl
theorem cb101 : callB Tryz.prog 101 = true := by kernel_rfl
theorem cb106 : callB Tryz.prog 106 = true := by kernel_rfl
theorem cb107 : callB Tryz.prog 107 = true := by kernel_rfl
theorem cb141 : callB Tryz.prog 141 = true := by kernel_rfl
theorem vV : xO Tryz.prog 52 = some (42, 4) := by kernel_rfl
theorem xJ : qY Tryz.prog 44 = some (true, 12) := by kernel_rfl
theorem sh45 : qY Tryz.prog 45 = some (true, 36) := by kernel_rfl
theorem uQ : qY Tryz.prog 129 = some (true, 12) := by kernel_rfl
theorem gS : qY Tryz.prog 131 = some (true, 36) := by kernel_rfl
theorem fN : xC Tryz.prog 44 = some [.bool false, .slice none 0 0, .bool false, .slice none 0 0, .bool false, .slice none 0 0, .bool false, .slice none 0 0, .bool false, .slice none 0 0, .bool false, .slice none 0 0] := by kernel_rfl
theorem ze45 : xC Tryz.prog 45 = some [.bool false, .slice none 0 0, .bool false, .slice none 0 0, .bool false, .slice none 0 0, .bool false, .slice none 0 0, .bool false, .slice none 0 0, .bool false, .slice none 0 0, .bool false, .slice none 0 0, .bool false, .slice none 0 0, .bool false, .slice none 0 0, .bool false, .slice none 0 0, .bool false, .slice none 0 0, .bool false, .slice none 0 0, .bool false, .slice none 0 0, .bool false, .slice none 0 0, .bool false, .slice none 0 0, .bool false, .slice none 0 0, .bool false, .slice none 0 0, .bool false, .slice none 0 0] := by kernel_rfl
theorem nO : xC Tryz.prog 129 = some [.bool false, .slice none 0 0, .bool false, .slice none 0 0, .bool false, .slice none 0 0, .bool false, .slice none 0 0, .bool false, .slice none 0 0, .bool false, .slice none 0 0] := by kernel_rfl
theorem dZ : xC Tryz.prog 131 = some [.bool false, .slice none 0 0, .bool false, .slice none 0 0, .bool false, .slice none 0 0, .bool false, .slice none 0 0, .bool false, .slice none 0 0, .bool false, .slice none 0 0, .bool false, .slice none 0 0, .bool false, .slice none 0 0, .bool false, .slice none 0 0, .bool false, .slice none 0 0, .bool false, .slice none 0 0, .bool false, .slice none 0 0, .bool false, .slice none 0 0, .bool false, .slice none 0 0, .bool false, .slice none 0 0, .bool false, .slice none 0 0, .bool false, .slice none 0 0, .bool false, .slice none 0 0] := by kernel_rfl
theorem fP : nV [.bool false, .slice none 0 0, .bool false, .slice none 0 0, .bool false, .slice none 0 0, .bool false, .slice none 0 0, .bool false, .slice none 0 0, .bool false, .slice none 0 0] [.val (.bool false), .sl 152 1 [], .val (.bool false), .sl 152 1 [], .val (.bool false), .sl 152 1 [], .val (.bool false), .sl 152 1 [], .val (.bool false), .sl 152 1 [], .val (.bool false), .sl 152 1 []] := by simp [nV, Value.oneCell']
theorem zo45 : nV [.bool false, .slice none 0 0, .bool false, .slice none 0 0, .bool false, .slice none 0 0, .bool false, .slice none 0 0, .bool false, .slice none 0 0, .bool false, .slice none 0 0, .bool false, .slice none 0 0, .bool false, .slice none 0 0, .bool false, .slice none 0 0, .bool false, .slice none 0 0, .bool false, .slice none 0 0, .bool false, .slice none 0 0, .bool false, .slice none 0 0, .bool false, .slice none 0 0, .bool false, .slice none 0 0, .bool false, .slice none 0 0, .bool false, .slice none 0 0, .bool false, .slice none 0 0] [.val (.bool false), .sl 152 1 [], .val (.bool false), .sl 152 1 [], .val (.bool false), .sl 152 1 [], .val (.bool false), .sl 152 1 [], .val (.bool false), .sl 152 1 [], .val (.bool false), .sl 152 1 [], .val (.bool false), .sl 152 1 [], .val (.bool false), .sl 152 1 [], .val (.bool false), .sl 152 1 [], .val (.bool false), .sl 152 1 [], .val (.bool false), .sl 152 1 [], .val (.bool false), .sl 152 1 [], .val (.bool false), .sl 152 1 [], .val (.bool false), .sl 152 1 [], .val (.bool false), .sl 152 1 [], .val (.bool false), .sl 152 1 [], .val (.bool false), .sl 152 1 [], .val (.bool false), .sl 152 1 []] := by simp [nV, Value.oneCell']
theorem nN : nV [.bool false, .slice none 0 0, .bool false, .slice none 0 0, .bool false, .slice none 0 0, .bool false, .slice none 0 0, .bool false, .slice none 0 0, .bool false, .slice none 0 0] [.val (.bool false), .sl 152 1 [], .val (.bool false), .sl 152 1 [], .val (.bool false), .sl 152 1 [], .val (.bool false), .sl 152 1 [], .val (.bool false), .sl 152 1 [], .val (.bool false), .sl 152 1 []] := by simp [nV, Value.oneCell']
theorem eC : nV [.bool false, .slice none 0 0, .bool false, .slice none 0 0, .bool false, .slice none 0 0, .bool false, .slice none 0 0, .bool false, .slice none 0 0, .bool false, .slice none 0 0, .bool false, .slice none 0 0, .bool false, .slice none 0 0, .bool false, .slice none 0 0, .bool false, .slice none 0 0, .bool false, .slice none 0 0, .bool false, .slice none 0 0, .bool false, .slice none 0 0, .bool false, .slice none 0 0, .bool false, .slice none 0 0, .bool false, .slice none 0 0, .bool false, .slice none 0 0, .bool false, .slice none 0 0] [.val (.bool false), .sl 152 1 [], .val (.bool false), .sl 152 1 [], .val (.bool false), .sl 152 1 [], .val (.bool false), .sl 152 1 [], .val (.bool false), .sl 152 1 [], .val (.bool false), .sl 152 1 [], .val (.bool false), .sl 152 1 [], .val (.bool false), .sl 152 1 [], .val (.bool false), .sl 152 1 [], .val (.bool false), .sl 152 1 [], .val (.bool false), .sl 152 1 [], .val (.bool false), .sl 152 1 [], .val (.bool false), .sl 152 1 [], .val (.bool false), .sl 152 1 [], .val (.bool false), .sl 152 1 [], .val (.bool false), .sl 152 1 [], .val (.bool false), .sl 152 1 [], .val (.bool false), .sl 152 1 []] := by simp [nV, Value.oneCell']
theorem q_dotF (ta : Nat) (a0 a1 a2 : Rat) (ha0 : QL a0 100000000) (ha1 : QL a1 100000000) (ha2 : QL a2 100000000) (tb : Nat) (b0 b1 b2 : Rat) (hb0 : QL b0 100000000) (hb1 : QL b1 100000000) (hb2 : QL b2 100000000) : kD Tryz.prog 141 [(.sl ta 4 (List.map jM [(jC a0), (jC a1), (jC a2)])), (.sl tb 4 (List.map jM [(jC b0), (jC b1), (jC b2)]))] (.tup [(jM (jC (jF a0 a1 a2 b0 b1 b2))), (.val (.int .i64 (0)))]) := by
 refine jK Tryz.func141 rfl cb141 rfl ?_
 show uY _ _ _ _ ⟨[(0, (vl ta 4 jM [(jC a0), (jC a1), (jC a2)])), (1, (vl tb 4 jM [(jC b0), (jC b1), (jC b2)]))], []⟩
 refine jA <| kx [(4, (.ref 0 0))] [(0, some (bx (jM (jV.mk (jG.mk false []) (jG.mk false [])))))] (zN (qP 0 qF qQ) <| zM <| zZ) ?_
 refine jA <| jA <| kx [(13, (vb false))] [] (zM <| zE (oLn vV 3) <| zM <| zE (oLn vV 3) <| zE dL <| zZ) ?_
 refine kG ?_
 refine jD <| jA ?_
 have bn1 : QL ((0 : Int) : Rat) 1 := (kQ (z := 0) (vQ (by decide)) (by decide))
 refine kx [(6, (.ref 1 0))] [(1, some (bx (jM (jC ((0 : Int) : Rat)))))] (zE (jX (dM 0 (by decide) (by decide))) <| zN (qP 1 qF qQ) <| zT (kU jR) <| zZ) ?_
 refine jA <| jA <| kx [(16, (vl ta 4 jM [(jC a0), (jC a1), (jC a2)])), (17, (kE 3)), (18, (kE 0))] [] (zM <| zE (oLn vV 3) <| zM <| zZ) ?_
 refine jE <| kW 20 ?_
 refine qC <| jA <| kx [(19, (vb true))] [] (zE (qN true qM) <| zZ) ?_
 refine jA <| jY ?_
 refine jD <| jA <| jE <| jA <| kx [(7, (kE 0)), (8, (.ref 2 0))] [(2, some (bx (jM (jC a0))))] (zM <| zE (zS vV 0) <| zE (eD jR) <| zN (qP 2 qF qQ) <| zM <| zT (kU jR) <| zZ) ?_
 have bn2 : QL (((0 : Int) : Rat) + (a0 * b0)) 200000002 := (uF (k := 200000002) bn1 (jI (k := 200000000) ha0 hb0 (by decide)) (by decide))
 refine kd [] [(1, some (bx (jM (jC (((0 : Int) : Rat) + (a0 * b0))))))] mo (wR (jZ jR) <| wR (jZ jR) <| wM <| wM <| wE (zS vV 0) <| wE (eD jR) <| wE (jX (f_mul (jC a0) (jC b0) a0 b0 (kB (kC ha0) (by decide)) (kB (kC hb0) (by decide)))) <| wE (jX (f_add (jC ((0 : Int) : Rat)) (jC (a0 * b0)) ((0 : Int) : Rat) (a0 * b0) (kB (kC bn1) (by decide)) (kB (kC (jI (k := 200000000) ha0 hb0 (by decide))) (by decide)))) <| wT (kU jR) <| wZ) ?_
 refine kx [(18, (kE 1))] [] (zE (uI 1 (hr := by decide)) <| zM <| zZ) ?_
 refine jJ (jW.refl _) ?_
 refine jA <| kx [(19, (vb true))] [] (zE (qN true qM) <| zZ) ?_
 refine jA <| jY ?_
 refine jD <| jA <| jE <| jA <| kx [(7, (kE 1)), (8, (.ref 3 0))] [(3, some (bx (jM (jC a1))))] (zM <| zE (zS vV 1) <| zE (eD jR) <| zN (qP 3 qF qQ) <| zM <| zT (kU jR) <| zZ) ?_
 have bn3 : QL ((((0 : Int) : Rat) + (a0 * b0)) + (a1 * b1)) 400000003 := (uF (k := 400000003) bn2 (jI (k := 200000000) ha1 hb1 (by decide)) (by decide))
 refine kd [] [(1, some (bx (jM (jC ((((0 : Int) : Rat) + (a0 * b0)) + (a1 * b1))))))] mo (wR (jZ jR) <| wR (jZ jR) <| wM <| wM <| wE (zS vV 1) <| wE (eD jR) <| wE (jX (f_mul (jC a1) (jC b1) a1 b1 (kB (kC ha1) (by decide)) (kB (kC hb1) (by decide)))) <| wE (jX (f_add (jC (((0 : Int) : Rat) + (a0 * b0))) (jC (a1 * b1)) (((0 : Int) : Rat) + (a0 * b0)) (a1 * b1) (kB (kC bn2) (by decide)) (kB (kC (jI (k := 200000000) ha1 hb1 (by decide))) (by decide)))) <| wT (kU jR) <| wZ) ?_
 refine kx [(18, (kE 2))] [] (zE (uI 2 (hr := by decide)) <| zM <| zZ) ?_
 refine jJ (jW.refl _) ?_
 refine jA <| kx [(19, (vb true))] [] (zE (qN true qM) <| zZ) ?_
 refine jA <| jY ?_
 refine jD <| jA <| jE <| jA <| kx [(7, (kE 2)), (8, (.ref 4 0))] [(4, some (bx (jM (jC a2))))] (zM <| zE (zS vV 2) <| zE (eD jR) <| zN (qP 4 qF qQ) <| zM <| zT (kU jR) <| zZ) ?_
 refine kV (wk (l := [(1, (vl tb 4 jM [(jC b0), (jC b1), (jC b2)])), (4, (.ref 0 0)), (6, (.ref 1 0)), (7, (kE 2)), (8, (.ref 4 0)), (16, (vl ta 4 jM [(jC a0), (jC a1), (jC a2)])), (17, (kE 3)), (18, (kE 2))]) (b := [(0, some (bx (jM (jV.mk (jG.mk false []) (jG.mk false []))))), (1, some (bx (jM (jC ((((0 : Int) : Rat) + (a0 * b0)) + (a1 * b1)))))), (4, some (bx (jM (jC a2))))])) ?_
 have bn4 : QL (((((0 : Int) : Rat) + (a0 * b0)) + (a1 * b1)) + (a2 * b2)) 600000004 := (uF (k := 600000004) bn3 (jI (k := 200000000) ha2 hb2 (by decide)) (by decide))
 refine kd [] [(1, some (bx (jM (jC (((((0 : Int) : Rat) + (a0 * b0)) + (a1 * b1)) + (a2 * b2))))))] mo (wR (jZ jR) <| wR (jZ jR) <| wM <| wM <| wE (zS vV 2) <| wE (eD jR) <| wE (jX (f_mul (jC a2) (jC b2) a2 b2 (kB (kC ha2) (by decide)) (kB (kC hb2) (by decide)))) <| wE (jX (f_add (jC ((((0 : Int) : Rat) + (a0 * b0)) + (a1 * b1))) (jC (a2 * b2)) ((((0 : Int) : Rat) + (a0 * b0)) + (a1 * b1)) (a2 * b2) (kB (kC bn3) (by decide)) (kB (kC (jI (k := 200000000) ha2 hb2 (by decide))) (by decide)))) <| wT (kU jR) <| wZ) ?_
 refine kx [(18, (kE 3))] [] (zE (uI 3 (hr := by decide)) <| zM <| zZ) ?_
 refine jJ (jW.refl _) ?_
 refine jA <| kx [(19, (vb false))] [] (zE (qN false qM) <| zZ) ?_
 refine jA <| kG ?_
 refine kK <| jA <| kx [(5, (kE 0))] [(0, some (bx (jM (jC (((((0 : Int) : Rat) + (a0 * b0)) + (a1 * b1)) + (a2 * b2))))))] (zR (jZ jR) <| zT (kU jR) <| zM <| zZ) ?_
 refine jH ⟨_, (kZ (cs := (bx (jM (jC (((((0 : Int) : Rat) + (a0 * b0)) + (a1 * b1)) + (a2 * b2)))))) (d := (jM (jC (((((0 : Int) : Rat) + (a0 * b0)) + (a1 * b1)) + (a2 * b2))))) rfl rfl jR rfl rfl (.tmp (d := (.val (.int .i64 (((0 : Nat) : Int))))) rfl .nil)), ?_⟩
 rw [← dot3_eq]; rfl
theorem q_dotL (ta : Nat) (a0 a1 a2 : Rat) (ha0 : QL a0 100000000) (ha1 : QL a1 100000000) (ha2 : QL a2 100000000) (tb : Nat) (b0 b1 b2 : Rat) (hb0 : QL b0 100000000) (hb1 : QL b1 100000000) (hb2 : QL b2 100000000) : kD Tryz.prog 92 [(.sl ta 4 (List.map jM [(jC a0), (jC a1), (jC a2)])), (.sl tb 4 (List.map jM [(jC b0), (jC b1), (jC b2)]))] (.tup [(jM (jC (jF a0 a1 a2 b0 b1 b2))), (.val (.int .i64 (0)))]) := by
 refine jK Tryz.func92 rfl cb92 rfl ?_
 show uY _ _ _ _ ⟨[(0, (vl ta 4 jM [(jC a0), (jC a1), (jC a2)])), (1, (vl tb 4 jM [(jC b0), (jC b1), (jC b2)]))], []⟩
 refine jA <| kx [(4, (.ref 0 0))] [(0, some (bx (jM (jV.mk (jG.mk false []) (jG.mk false [])))))] (zN (qP 0 qF qQ) <| zM <| zZ) ?_
 refine jA <| jA <| kx [(12, (vb false))] [] (zM <| zE (oLn vV 3) <| zM <| zE (oLn vV 3) <| zE dL <| zZ) ?_
 refine kG ?_
 refine jD <| jA ?_
 have bn1 : QL ((0 : Int) : Rat) 1 := (kQ (z := 0) (vQ (by decide)) (by decide))
 refine kx [(6, (.ref 1 0))] [(1, some (bx (jM (jC ((0 : Int) : Rat)))))] (zE (jX (cN 0 (by decide) (by decide))) <| zN (qP 1 qF qQ) <| zT (kU jR) <| zZ) ?_
 refine jA <| jA <| kx [(7, (kE 0))] [] (zM <| zZ) ?_
 refine jE <| kW 20 ?_
 refine qC <| jA <| jA <| kx [(18, (vb true))] [] (zM <| zM <| zE (oLn vV 3) <| zE (qN true qM) <| zZ) ?_
 refine jY ?_
 refine jD <| jA <| jE ?_
 have bn2 : QL (((0 : Int) : Rat) + (a0 * b0)) 200000002 := (uF (k := 200000002) bn1 (jI (k := 200000000) ha0 hb0 (by decide)) (by decide))
 refine kd [] [(1, some (bx (jM (jC (((0 : Int) : Rat) + (a0 * b0))))))] mo (wR (jZ jR) <| wM <| wM <| wE (zS vV 0) <| wE (eD jR) <| wM <| wM <| wE (zS vV 0) <| wE (eD jR) <| wE (jX (eP (jC a0) (jC b0) a0 b0 (kB (kC ha0) (by decide)) (kB (kC hb0) (by decide)))) <| wE (jX (g_add (jC ((0 : Int) : Rat)) (jC (a0 * b0)) ((0 : Int) : Rat) (a0 * b0) (kB (kC bn1) (by decide)) (kB (kC (jI (k := 200000000) ha0 hb0 (by decide))) (by decide)))) <| wT (kU jR) <| wZ) ?_
 refine kx [(7, (kE 1))] [] (zM <| zE (uI 1 (hr := by decide)) <| zM <| zZ) ?_
 refine jJ (jW.refl _) ?_
 refine jA <| jA <| kx [(18, (vb true))] [] (zM <| zM <| zE (oLn vV 3) <| zE (qN true qM) <| zZ) ?_
 refine jY ?_
 refine jD <| jA <| jE ?_
 have bn3 : QL ((((0 : Int) : Rat) + (a0 * b0)) + (a1 * b1)) 400000003 := (uF (k := 400000003) bn2 (jI (k := 200000000) ha1 hb1 (by decide)) (by decide))
 refine kd [] [(1, some (bx (jM (jC ((((0 : Int) : Rat) + (a0 * b0)) + (a1 * b1))))))] mo (wR (jZ jR) <| wM <| wM <| wE (zS vV 1) <| wE (eD jR) <| wM <| wM <| wE (zS vV 1) <| wE (eD jR) <| wE (jX (eP (jC a1) (jC b1) a1 b1 (kB (kC ha1) (by decide)) (kB (kC hb1) (by decide)))) <| wE (jX (g_add (jC (((0 : Int) : Rat) + (a0 * b0))) (jC (a1 * b1)) (((0 : Int) : Rat) + (a0 * b0)) (a1 * b1) (kB (kC bn2) (by decide)) (kB (kC (jI (k := 200000000) ha1 hb1 (by decide))) (by decide)))) <| wT (kU jR) <| wZ) ?_
 refine kx [(7, (kE 2))] [] (zM <| zE (uI 2 (hr := by decide)) <| zM <| zZ) ?_
 refine jJ (jW.refl _) ?_
 refine jA <| jA <| kx [(18, (vb true))] [] (zM <| zM <| zE (oLn vV 3) <| zE (qN true qM) <| zZ) ?_
 refine jY ?_
 refine jD <| jA <| jE ?_
 have bn4 : QL (((((0 : Int) : Rat) + (a0 * b0)) + (a1 * b1)) + (a2 * b2)) 600000004 := (uF (k := 600000004) bn3 (jI (k := 200000000) ha2 hb2 (by decide)) (by decide))
 refine kd [] [(1, some (bx (jM (jC (((((0 : Int) : Rat) + (a0 * b0)) + (a1 * b1)) + (a2 * b2))))))] mo (wR (jZ jR) <| wM <| wM <| wE (zS vV 2) <| wE (eD jR) <| wM <| wM <| wE (zS vV 2) <| wE (eD jR) <| wE (jX (eP (jC a2) (jC b2) a2 b2 (kB (kC ha2) (by decide)) (kB (kC hb2) (by decide)))) <| wE (jX (g_add (jC ((((0 : Int) : Rat) + (a0 * b0)) + (a1 * b1))) (jC (a2 * b2)) ((((0 : Int) : Rat) + (a0 * b0)) + (a1 * b1)) (a2 * b2) (kB (kC bn3) (by decide)) (kB (kC (jI (k := 200000000) ha2 hb2 (by decide))) (by decide)))) <| wT (kU jR) <| wZ) ?_
 refine kx [(7, (kE 3))] [] (zM <| zE (uI 3 (hr := by decide)) <| zM <| zZ) ?_
 refine jJ (jW.refl _) ?_
 refine jA <| jA <| kx [(18, (vb false))] [] (zM <| zM <| zE (oLn vV 3) <| zE (qN false qM) <| zZ) ?_
 refine kG ?_
 refine kK <| jA <| kV (wk (l := [(0, (vl ta 4 jM [(jC a0), (jC a1), (jC a2)])), (1, (vl tb 4 jM [(jC b0), (jC b1), (jC b2)])), (4, (.ref 0 0)), (6, (.ref 1 0)), (7, (kE 3)), (18, (vb false))]) (b := [(0, some (bx (jM (jV.mk (jG.mk false []) (jG.mk false []))))), (1, some (bx (jM (jC (((((0 : Int) : Rat) + (a0 * b0)) + (a1 * b1)) + (a2 * b2))))))])) ?_
 refine kx [(5, (kE 0))] [(0, some (bx (jM (jC (((((0 : Int) : Rat) + (a0 * b0)) + (a1 * b1)) + (a2 * b2))))))] (zR (jZ jR) <| zT (kU jR) <| zM <| zZ) ?_
 refine jH ⟨_, (kZ (cs := (bx (jM (jC (((((0 : Int) : Rat) + (a0 * b0)) + (a1 * b1)) + (a2 * b2)))))) (d := (jM (jC (((((0 : Int) : Rat) + (a0 * b0)) + (a1 * b1)) + (a2 * b2))))) rfl rfl jR rfl rfl (.tmp (d := (.val (.int .i64 (((0 : Nat) : Int))))) rfl .nil)), ?_⟩
 rw [← dot3_eq]; rfl
theorem q_whole (x : Int) (hxl : -9223372036854775808 ≤ x) (hxh : x ≤ 9223372036854775807) (y : Int) (hyl : -9223372036854775808 ≤ y) (hyh : y ≤ 9223372036854775807) (z : Int) (hzl : -9223372036854775808 ≤ z) (hzh : z ≤ 9223372036854775807) : kD Tryz.prog 96 [(.val (.int .i64 (x))), (.val (.int .i64 (y))), (.val (.int .i64 (z)))] (jN (A3.mk (jC ((x : Int) : Rat)) (jC ((y : Int) : Rat)) (jC ((z : Int) : Rat)))) := by
 refine jK Tryz.func96 rfl cb96 rfl ?_
 show uY _ _ _ _ ⟨[(0, (vi x)), (1, (vi y)), (2, (vi z))], []⟩
 refine jA <| kx [(6, (.ref 0 0))] [(0, some (bx (jN (A3.mk (jV.mk (jG.mk false []) (jG.mk false [])) (jV.mk (jG.mk false []) (jG.mk false [])) (jV.mk (jG.mk false []) (jG.mk false []))))))] (zN (qP 0 nO nN) <| zZ) ?_
 refine jA ?_
 have bn1 : QL ((x : Int) : Rat) 3 := (kQ (z := x) (jP (by omega) (by omega)) (by decide))
 have bn2 : QL ((y : Int) : Rat) 3 := (kQ (z := y) (jP (by omega) (by omega)) (by decide))
 have bn3 : QL ((z : Int) : Rat) 3 := (kQ (z := z) (jP (by omega) (by omega)) (by decide))
 refine kx [] [(0, some (bx (jN (A3.mk (jC ((x : Int) : Rat)) (jC ((y : Int) : Rat)) (jC ((z : Int) : Rat))))))] (zM <| zE (jX (dM x (by omega) (by omega))) <| zM <| zE (jX (dM y (by omega) (by omega))) <| zM <| zE (jX (dM z (by omega) (by omega))) <| zE (oBf uB nO nN) <| zT (kU uQ) <| zZ) ?_
 refine jH ⟨_, (kZ (cs := (bx (jN (A3.mk (jC ((x : Int) : Rat)) (jC ((y : Int) : Rat)) (jC ((z : Int) : Rat)))))) (d := (jN (A3.mk (jC ((x : Int) : Rat)) (jC ((y : Int) : Rat)) (jC ((z : Int) : Rat))))) rfl rfl uQ rfl rfl .nil), ?_⟩
 rfl
theorem q_dot (a0 a1 a2 : Rat) (ha0 : QL a0 100000000) (ha1 : QL a1 100000000) (ha2 : QL a2 100000000) (b0 b1 b2 : Rat) (hb0 : QL b0 100000000) (hb1 : QL b1 100000000) (hb2 : QL b2 100000000) : kD Tryz.prog 98 [(jN (A3.mk (jC a0) (jC a1) (jC a2))), (jN (A3.mk (jC b0) (jC b1) (jC b2)))] (jM (jC (jF a0 a1 a2 b0 b1 b2))) := by
 refine jK Tryz.func98 rfl cb98 rfl ?_
 show uY _ _ _ _ ⟨[(0, (.d (jN (A3.mk (jC a0) (jC a1) (jC a2))))), (1, (.d (jN (A3.mk (jC b0) (jC b1) (jC b2)))))], []⟩
 refine jA <| kx [(2, (.ref 0 0)), (3, (.ref 1 0)), (4, (.ref 2 0))] [(0, some (bx (jN (A3.mk (jC a0) (jC a1) (jC a2))))), (1, some (bx (jN (A3.mk (jC b0) (jC b1) (jC b2))))), (2, some (bx (jM (jV.mk (jG.mk false []) (jG.mk false [])))))] (zN (vN 0) <| zN (vN 1) <| zN (qP 2 qF qQ) <| zZ) ?_
 refine jA ?_
 have bn1 : QL (jF a0 a1 a2 b0 b1 b2) 600000002 := (jQ (n := 100000000) (k := 600000002) ha0 ha1 ha2 hb0 hb1 hb2 (by decide))
 refine kd [(5, (.ref 3 0))] [(3, some (bx (jM (jC (jF a0 a1 a2 b0 b1 b2)))))] mo (wE (e_slv (by exact rfl) uB (by exact rfl) (by kernel_rfl) (by kernel_rfl)) <| wE (e_slv (by exact rfl) uB (by exact rfl) (by kernel_rfl) (by kernel_rfl)) <| wC (oCg [(0, (kY.cells (jN (A3.mk (jC a0) (jC a1) (jC a2))))), (1, (kY.cells (jN (A3.mk (jC b0) (jC b1) (jC b2)))))] [(.view 0 0 3), (.view 1 0 3)] (q_dotF 1000000 a0 a1 a2 ha0 ha1 ha2 1000000 b0 b1 b2 hb0 hb1 hb2) (.v (es := List.map jM [(jC a0), (jC a1), (jC a2)]) (.head _) (gD _ _ (fun _ => rfl)) (by kernel_rfl) (by kernel_rfl) (.v (es := List.map jM [(jC b0), (jC b1), (jC b2)]) (.tail _ (.head _)) (gD _ _ (fun _ => rfl)) (by kernel_rfl) (by kernel_rfl) .nil)) (.tup (cQ (avo_encR (by decide) _) (cQ (.val _) avo_nil)))) <| wM <| wE uG <| wE uG <| wN (qP 3 qF qQ) <| wT (kU jR) <| wM <| wZ) ?_
 refine jA <| kx [] [(2, some (bx (jM (jC (jF a0 a1 a2 b0 b1 b2)))))] (zR (jZ jR) <| zT (kU jR) <| zZ) ?_
 refine jH ⟨_, (kZ (cs := (bx (jM (jC (jF a0 a1 a2 b0 b1 b2))))) (d := (jM (jC (jF a0 a1 a2 b0 b1 b2)))) rfl rfl jR rfl rfl .nil), ?_⟩
 rfl
theorem q_cross (a0 a1 a2 : Rat) (ha0 : QL a0 100000000) (ha1 : QL a1 100000000) (ha2 : QL a2 100000000) (b0 b1 b2 : Rat) (hb0 : QL b0 100000000) (hb1 : QL b1 100000000) (hb2 : QL b2 100000000) : kD Tryz.prog 73 [(jN (A3.mk (jC a0) (jC a1) (jC a2))), (jN (A3.mk (jC b0) (jC b1) (jC b2)))] (jN (A3.mk (jC ((a1 * b2) - (a2 * b1))) (jC ((a2 * b0) - (a0 * b2))) (jC ((a0 * b1) - (a1 * b0))))) := by
 let y2 := (jV.mk (jG.mk false []) (jG.mk false []))
 let y1 := (bx (jN (A3.mk y2 y2 y2)))
 refine jK Tryz.func73 rfl cb73 rfl ?_
 show uY _ _ _ _ ⟨[(0, (.d (jN (A3.mk (jC a0) (jC a1) (jC a2))))), (1, (.d (jN (A3.mk (jC b0) (jC b1) (jC b2)))))], []⟩
 refine jA <| kx [(2, (.ref 0 0)), (3, (.ref 1 0)), (4, (.ref 2 0))] [(0, some (bx (jN (A3.mk (jC a0) (jC a1) (jC a2))))), (1, some (bx (jN (A3.mk (jC b0) (jC b1) (jC b2))))), (2, some y1)] (zN (vN 0) <| zN (vN 1) <| zN (qP 2 nO nN) <| zZ) ?_
 refine jA <| kx [(5, (.ref 3 0))] [(3, some y1)] (zN (qP 3 nO nN) <| zZ) ?_
 refine jA <| jA <| kx [(9, (kE 0))] [] (zM <| zZ) ?_
 refine jE <| kW 20 ?_
 refine qC <| jA <| kx [(10, (vb true))] [] (zE (qN true qM) <| zZ) ?_
 refine jA <| jY ?_
 refine jD <| jA <| jE <| jA <| kx [(6, (kE 0))] [] (zM <| zM <| zZ) ?_
 refine jA <| kx [(7, (kE 1)), (8, (kE 2))] [] (zM <| zE (uI 1 (hr := by decide)) <| zE (oRe 1 (hr := by decide)) <| zM <| zE (uI 2 (hr := by decide)) <| zE (oRe 2 (hr := by decide)) <| zM <| zM <| zZ) ?_
 have bn1 : QL ((a1 * b2) - (a2 * b1)) 400000001 := (uV (k := 400000001) (jI (k := 200000000) ha1 hb2 (by decide)) (jI (k := 200000000) ha2 hb1 (by decide)) (by decide))
 refine kd [] [(3, some (bx (jN (A3.mk (jC ((a1 * b2) - (a2 * b1))) y2 y2))))] mo (wM <| wM <| wE (vM uB 1) <| wR (jZ jR) <| wM <| wE (vM uB 2) <| wR (jZ jR) <| wE (jX (f_mul (jC a1) (jC b2) a1 b2 (kB (kC ha1) (by decide)) (kB (kC hb2) (by decide)))) <| wM <| wE (vM uB 2) <| wR (jZ jR) <| wM <| wE (vM uB 1) <| wR (jZ jR) <| wE (jX (f_mul (jC a2) (jC b1) a2 b1 (kB (kC ha2) (by decide)) (kB (kC hb1) (by decide)))) <| wE (jX (f_sub (jC (a1 * b2)) (jC (a2 * b1)) (a1 * b2) (a2 * b1) (kB (kC (jI (k := 200000000) ha1 hb2 (by decide))) (by decide)) (kB (kC (jI (k := 200000000) ha2 hb1 (by decide))) (by decide)))) <| wE (vM uB 0) <| wT (kU jR) <| wZ) ?_
 refine kx [(9, (kE 1))] [] (zE (uI 1 (hr := by decide)) <| zM <| zZ) ?_
 refine jJ (jW.refl _) ?_
 refine jA <| kx [(10, (vb true))] [] (zE (qN true qM) <| zZ) ?_
 refine jA <| jY ?_
 refine jD <| jA <| jE <| jA <| kx [(6, (kE 1))] [] (zM <| zM <| zZ) ?_
 refine jA <| kx [(7, (kE 2)), (8, (kE 0))] [] (zM <| zE (uI 2 (hr := by decide)) <| zE (oRe 2 (hr := by decide)) <| zM <| zE (uI 3 (hr := by decide)) <| zE (oRe 0 (hr := by decide)) <| zM <| zM <| zZ) ?_
 have bn2 : QL ((a2 * b0) - (a0 * b2)) 400000001 := (uV (k := 400000001) (jI (k := 200000000) ha2 hb0 (by decide)) (jI (k := 200000000) ha0 hb2 (by decide)) (by decide))
 refine kd [] [(3, some (bx (jN (A3.mk (jC ((a1 * b2) - (a2 * b1))) (jC ((a2 * b0) - (a0 * b2))) y2))))] mo (wM <| wM <| wE (vM uB 2) <| wR (jZ jR) <| wM <| wE (vM uB 0) <| wR (jZ jR) <| wE (jX (f_mul (jC a2) (jC b0) a2 b0 (kB (kC ha2) (by decide)) (kB (kC hb0) (by decide)))) <| wM <| wE (vM uB 0) <| wR (jZ jR) <| wM <| wE (vM uB 2) <| wR (jZ jR) <| wE (jX (f_mul (jC a0) (jC b2) a0 b2 (kB (kC ha0) (by decide)) (kB (kC hb2) (by decide)))) <| wE (jX (f_sub (jC (a2 * b0)) (jC (a0 * b2)) (a2 * b0) (a0 * b2) (kB (kC (jI (k := 200000000) ha2 hb0 (by decide))) (by decide)) (kB (kC (jI (k := 200000000) ha0 hb2 (by decide))) (by decide)))) <| wE (vM uB 1) <| wT (kU jR) <| wZ) ?_
 refine kx [(9, (kE 2))] [] (zE (uI 2 (hr := by decide)) <| zM <| zZ) ?_
 refine jJ (jW.refl _) ?_
 refine jA <| kx [(10, (vb true))] [] (zE (qN true qM) <| zZ) ?_
 refine jA <| jY ?_
 refine jD <| jA <| jE <| jA <| kV (wk (l := [(2, (.ref 0 0)), (3, (.ref 1 0)), (4, (.ref 2 0)), (5, (.ref 3 0)), (9, (kE 2)), (10, (vb true))]) (b := [(0, some (bx (jN (A3.mk (jC a0) (jC a1) (jC a2))))), (1, some (bx (jN (A3.mk (jC b0) (jC b1) (jC b2))))), (2, some y1), (3, some (bx (jN (A3.mk (jC ((a1 * b2) - (a2 * b1))) (jC ((a2 * b0) - (a0 * b2))) y2))))])) ?_
 refine kx [(6, (kE 2))] [] (zM <| zM <| zZ) ?_
 refine jA <| kx [(7, (kE 0)), (8, (kE 1))] [] (zM <| zE (uI 3 (hr := by decide)) <| zE (oRe 0 (hr := by decide)) <| zM <| zE (uI 4 (hr := by decide)) <| zE (oRe 1 (hr := by decide)) <| zM <| zM <| zZ) ?_
 have bn3 : QL ((a0 * b1) - (a1 * b0)) 400000001 := (uV (k := 400000001) (jI (k := 200000000) ha0 hb1 (by decide)) (jI (k := 200000000) ha1 hb0 (by decide)) (by decide))
 refine kd [] [(3, some (bx (jN (A3.mk (jC ((a1 * b2) - (a2 * b1))) (jC ((a2 * b0) - (a0 * b2))) (jC ((a0 * b1) - (a1 * b0)))))))] mo (wM <| wM <| wE (vM uB 0) <| wR (jZ jR) <| wM <| wE (vM uB 1) <| wR (jZ jR) <| wE (jX (f_mul (jC a0) (jC b1) a0 b1 (kB (kC ha0) (by decide)) (kB (kC hb1) (by decide)))) <| wM <| wE (vM uB 1) <| wR (jZ jR) <| wM <| wE (vM uB 0) <| wR (jZ jR) <| wE (jX (f_mul (jC a1) (jC b0) a1 b0 (kB (kC ha1) (by decide)) (kB (kC hb0) (by decide)))) <| wE (jX (f_sub (jC (a0 * b1)) (jC (a1 * b0)) (a0 * b1) (a1 * b0) (kB (kC (jI (k := 200000000) ha0 hb1 (by decide))) (by decide)) (kB (kC (jI (k := 200000000) ha1 hb0 (by decide))) (by decide)))) <| wE (vM uB 2) <| wT (kU jR) <| wZ) ?_
 refine kx [(9, (kE 3))] [] (zE (uI 3 (hr := by decide)) <| zM <| zZ) ?_
 refine jJ (jW.refl _) ?_
 refine jA <| kx [(10, (vb false))] [] (zE (qN false qM) <| zZ) ?_
 refine jA <| kG ?_
 refine kK <| jA <| kx [] [(2, some (bx (jN (A3.mk (jC ((a1 * b2) - (a2 * b1))) (jC ((a2 * b0) - (a0 * b2))) (jC ((a0 * b1) - (a1 * b0)))))))] (zR (jZ uQ) <| zT (kU uQ) <| zZ) ?_
 refine jH ⟨_, (kZ (cs := (bx (jN (A3.mk (jC ((a1 * b2) - (a2 * b1))) (jC ((a2 * b0) - (a0 * b2))) (jC ((a0 * b1) - (a1 * b0))))))) (d := (jN (A3.mk (jC ((a1 * b2) - (a2 * b1))) (jC ((a2 * b0) - (a0 * b2))) (jC ((a0 * b1) - (a1 * b0)))))) rfl rfl uQ rfl rfl .nil), ?_⟩
 rfl
theorem fO (a0 a1 a2 : Rat) (ha0 : QL a0 100000000) (ha1 : QL a1 100000000) (ha2 : QL a2 100000000) (k : Rat) (hk : QL k 100000000) : kD Tryz.prog 107 [(jN (A3.mk (jC a0) (jC a1) (jC a2))), (jM (jC k))] (jN (A3.mk (jC (a0 * k)) (jC (a1 * k)) (jC (a2 * k)))) := by
 let y1 := (jV.mk (jG.mk false []) (jG.mk false []))
 refine jK Tryz.func107 rfl cb107 rfl ?_
 show uY _ _ _ _ ⟨[(0, (.d (jN (A3.mk (jC a0) (jC a1) (jC a2))))), (1, (.d (jM (jC k))))], []⟩
 refine jA <| kx [(2, (.ref 0 0)), (3, (.ref 1 0)), (4, (.ref 2 0))] [(0, some (bx (jN (A3.mk (jC a0) (jC a1) (jC a2))))), (1, some (bx (jM (jC k)))), (2, some (bx (jN (A3.mk y1 y1 y1))))] (zN (vN 0) <| zN (vN 1) <| zN (qP 2 nO nN) <| zZ) ?_
 refine jA <| jA <| kx [(6, (kE 0))] [] (zM <| zZ) ?_
 refine jE <| kW 20 ?_
 refine qC <| jA <| kx [(7, (vb true))] [] (zE (qN true qM) <| zZ) ?_
 refine jA <| jY ?_
 refine jD <| jA <| jE <| jA <| kx [(5, (kE 0))] [] (zM <| zM <| zZ) ?_
 refine kd [] [(0, some (bx (jN (A3.mk (jC (a0 * k)) (jC a1) (jC a2)))))] mo (wM <| wM <| wE (vM uB 0) <| wR (jZ jR) <| wR (jZ jR) <| wE (jX (f_mul (jC a0) (jC k) a0 k (kB (kC ha0) (by decide)) (kB (kC hk) (by decide)))) <| wE (vM uB 0) <| wT (kU jR) <| wZ) ?_
 refine kx [(6, (kE 1))] [] (zE (uI 1 (hr := by decide)) <| zM <| zZ) ?_
 refine jJ (jW.refl _) ?_
 refine jA <| kx [(7, (vb true))] [] (zE (qN true qM) <| zZ) ?_
 refine jA <| jY ?_
 refine jD <| jA <| jE <| jA <| kx [(5, (kE 1))] [] (zM <| zM <| zZ) ?_
 refine kd [] [(0, some (bx (jN (A3.mk (jC (a0 * k)) (jC (a1 * k)) (jC a2)))))] mo (wM <| wM <| wE (vM uB 1) <| wR (jZ jR) <| wR (jZ jR) <| wE (jX (f_mul (jC a1) (jC k) a1 k (kB (kC ha1) (by decide)) (kB (kC hk) (by decide)))) <| wE (vM uB 1) <| wT (kU jR) <| wZ) ?_
 refine kx [(6, (kE 2))] [] (zE (uI 2 (hr := by decide)) <| zM <| zZ) ?_
 refine jJ (jW.refl _) ?_
 refine jA <| kx [(7, (vb true))] [] (zE (qN true qM) <| zZ) ?_
 refine jA <| jY ?_
 refine jD <| jA <| jE <| jA <| kx [(5, (kE 2))] [] (zM <| zM <| zZ) ?_
 refine kd [] [(0, some (bx (jN (A3.mk (jC (a0 * k)) (jC (a1 * k)) (jC (a2 * k))))))] mo (wM <| wM <| wE (vM uB 2) <| wR (jZ jR) <| wR (jZ jR) <| wE (jX (f_mul (jC a2) (jC k) a2 k (kB (kC ha2) (by decide)) (kB (kC hk) (by decide)))) <| wE (vM uB 2) <| wT (kU jR) <| wZ) ?_
 refine kx [(6, (kE 3))] [] (zE (uI 3 (hr := by decide)) <| zM <| zZ) ?_
 refine jJ (jW.refl _) ?_
 refine jA <| kV (wk (l := [(2, (.ref 0 0)), (3, (.ref 1 0)), (4, (.ref 2 0)), (6, (kE 3))]) (b := [(0, some (bx (jN (A3.mk (jC (a0 * k)) (jC (a1 * k)) (jC (a2 * k)))))), (1, some (bx (jM (jC k)))), (2, some (bx (jN (A3.mk y1 y1 y1))))])) ?_
 refine kx [(7, (vb false))] [] (zE (qN false qM) <| zZ) ?_
 refine jA <| kG ?_
 refine kK <| jA <| kx [] [(2, some (bx (jN (A3.mk (jC (a0 * k)) (jC (a1 * k)) (jC (a2 * k))))))] (zR (jZ uQ) <| zT (kU uQ) <| zZ) ?_
 refine jH ⟨_, (kZ (cs := (bx (jN (A3.mk (jC (a0 * k)) (jC (a1 * k)) (jC (a2 * k)))))) (d := (jN (A3.mk (jC (a0 * k)) (jC (a1 * k)) (jC (a2 * k))))) rfl rfl uQ rfl rfl .nil), ?_⟩
 rfl
theorem q_sum (a0 a1 a2 : Rat) (ha0 : QL a0 1000000000) (ha1 : QL a1 1000000000) (ha2 : QL a2 1000000000) (b0 b1 b2 : Rat) (hb0 : QL b0 1000000000) (hb1 : QL b1 1000000000) (hb2 : QL b2 1000000000) : kD Tryz.prog 106 [(jN (A3.mk (jC a0) (jC a1) (jC a2))), (jN (A3.mk (jC b0) (jC b1) (jC b2)))] (jN (A3.mk (jC (a0 + b0)) (jC (a1 + b1)) (jC (a2 + b2)))) := by
 let y1 := (jV.mk (jG.mk false []) (jG.mk false []))
 refine jK Tryz.func106 rfl cb106 rfl ?_
 show uY _ _ _ _ ⟨[(0, (.d (jN (A3.mk (jC a0) (jC a1) (jC a2))))), (1, (.d (jN (A3.mk (jC b0) (jC b1) (jC b2)))))], []⟩
 refine jA <| kx [(2, (.ref 0 0)), (3, (.ref 1 0)), (4, (.ref 2 0))] [(0, some (bx (jN (A3.mk (jC a0) (jC a1) (jC a2))))), (1, some (bx (jN (A3.mk (jC b0) (jC b1) (jC b2))))), (2, some (bx (jN (A3.mk y1 y1 y1))))] (zN (vN 0) <| zN (vN 1) <| zN (qP 2 nO nN) <| zZ) ?_
 refine jA <| jA <| kx [(6, (kE 0))] [] (zM <| zZ) ?_
 refine jE <| kW 20 ?_
 refine qC <| jA <| kx [(7, (vb true))] [] (zE (qN true qM) <| zZ) ?_
 refine jA <| jY ?_
 refine jD <| jA <| jE <| jA <| kx [(5, (kE 0))] [] (zM <| zM <| zZ) ?_
 refine kd [] [(0, some (bx (jN (A3.mk (jC (a0 + b0)) (jC a1) (jC a2)))))] mo (wM <| wM <| wE (vM uB 0) <| wR (jZ jR) <| wM <| wE (vM uB 0) <| wR (jZ jR) <| wE (jX (f_add (jC a0) (jC b0) a0 b0 (kB (kC ha0) (by decide)) (kB (kC hb0) (by decide)))) <| wE (vM uB 0) <| wT (kU jR) <| wZ) ?_
 refine kx [(6, (kE 1))] [] (zE (uI 1 (hr := by decide)) <| zM <| zZ) ?_
 refine jJ (jW.refl _) ?_
 refine jA <| kx [(7, (vb true))] [] (zE (qN true qM) <| zZ) ?_
 refine jA <| jY ?_
 refine jD <| jA <| jE <| jA <| kx [(5, (kE 1))] [] (zM <| zM <| zZ) ?_
 refine kd [] [(0, some (bx (jN (A3.mk (jC (a0 + b0)) (jC (a1 + b1)) (jC a2)))))] mo (wM <| wM <| wE (vM uB 1) <| wR (jZ jR) <| wM <| wE (vM uB 1) <| wR (jZ jR) <| wE (jX (f_add (jC a1) (jC b1) a1 b1 (kB (kC ha1) (by decide)) (kB (kC hb1) (by decide)))) <| wE (vM uB 1) <| wT (kU jR) <| wZ) ?_
 refine kx [(6, (kE 2))] [] (zE (uI 2 (hr := by decide)) <| zM <| zZ) ?_
 refine jJ (jW.refl _) ?_
 refine jA <| kx [(7, (vb true))] [] (zE (qN true qM) <| zZ) ?_
 refine jA <| jY ?_
 refine jD <| jA <| jE <| jA <| kx [(5, (kE 2))] [] (zM <| zM <| zZ) ?_
 refine kd [] [(0, some (bx (jN (A3.mk (jC (a0 + b0)) (jC (a1 + b1)) (jC (a2 + b2))))))] mo (wM <| wM <| wE (vM uB 2) <| wR (jZ jR) <| wM <| wE (vM uB 2) <| wR (jZ jR) <| wE (jX (f_add (jC a2) (jC b2) a2 b2 (kB (kC ha2) (by decide)) (kB (kC hb2) (by decide)))) <| wE (vM uB 2) <| wT (kU jR) <| wZ) ?_
 refine kx [(6, (kE 3))] [] (zE (uI 3 (hr := by decide)) <| zM <| zZ) ?_
 refine jJ (jW.refl _) ?_
 refine jA <| kV (wk (l := [(2, (.ref 0 0)), (3, (.ref 1 0)), (4, (.ref 2 0)), (6, (kE 3))]) (b := [(0, some (bx (jN (A3.mk (jC (a0 + b0)) (jC (a1 + b1)) (jC (a2 + b2)))))), (1, some (bx (jN (A3.mk (jC b0) (jC b1) (jC b2))))), (2, some (bx (jN (A3.mk y1 y1 y1))))])) ?_
 refine kx [(7, (vb false))] [] (zE (qN false qM) <| zZ) ?_
 refine jA <| kG ?_
 refine kK <| jA <| kx [] [(2, some (bx (jN (A3.mk (jC (a0 + b0)) (jC (a1 + b1)) (jC (a2 + b2))))))] (zR (jZ uQ) <| zT (kU uQ) <| zZ) ?_
 refine jH ⟨_, (kZ (cs := (bx (jN (A3.mk (jC (a0 + b0)) (jC (a1 + b1)) (jC (a2 + b2)))))) (d := (jN (A3.mk (jC (a0 + b0)) (jC (a1 + b1)) (jC (a2 + b2))))) rfl rfl uQ rfl rfl .nil), ?_⟩
 rfl
theorem qs_whole (x : Int) (hxl : -9223372036854775808 ≤ x) (hxh : x ≤ 9223372036854775807) (y : Int) (hyl : -9223372036854775808 ≤ y) (hyh : y ≤ 9223372036854775807) (z : Int) (hzl : -9223372036854775808 ≤ z) (hzh : z ≤ 9223372036854775807) : kD Tryz.prog 38 [(.val (.int .i64 (x))), (.val (.int .i64 (y))), (.val (.int .i64 (z)))] (jN (A3.mk (jC ((x : Int) : Rat)) (jC ((y : Int) : Rat)) (jC ((z : Int) : Rat)))) := by
 refine jK Tryz.func38 rfl cb38 rfl ?_
 show uY _ _ _ _ ⟨[(0, (vi x)), (1, (vi y)), (2, (vi z))], []⟩
 refine jA <| kx [(6, (.ref 0 0))] [(0, some (bx (jN (A3.mk (jV.mk (jG.mk false []) (jG.mk false [])) (jV.mk (jG.mk false []) (jG.mk false [])) (jV.mk (jG.mk false []) (jG.mk false []))))))] (zN (qP 0 fN fP) <| zZ) ?_
 refine jA ?_
 have bn1 : QL ((x : Int) : Rat) 3 := (kQ (z := x) (jP (by omega) (by omega)) (by decide))
 have bn2 : QL ((y : Int) : Rat) 3 := (kQ (z := y) (jP (by omega) (by omega)) (by decide))
 have bn3 : QL ((z : Int) : Rat) 3 := (kQ (z := z) (jP (by omega) (by omega)) (by decide))
 refine kx [] [(0, some (bx (jN (A3.mk (jC ((x : Int) : Rat)) (jC ((y : Int) : Rat)) (jC ((z : Int) : Rat))))))] (zM <| zE (jX (cN x (by omega) (by omega))) <| zM <| zE (jX (cN y (by omega) (by omega))) <| zM <| zE (jX (cN z (by omega) (by omega))) <| zE (oBf yE fN fP) <| zT (kU xJ) <| zZ) ?_
 refine jH ⟨_, (kZ (cs := (bx (jN (A3.mk (jC ((x : Int) : Rat)) (jC ((y : Int) : Rat)) (jC ((z : Int) : Rat)))))) (d := (jN (A3.mk (jC ((x : Int) : Rat)) (jC ((y : Int) : Rat)) (jC ((z : Int) : Rat))))) rfl rfl xJ rfl rfl .nil), ?_⟩
 rfl
theorem qs_dot (a0 a1 a2 : Rat) (ha0 : QL a0 100000000) (ha1 : QL a1 100000000) (ha2 : QL a2 100000000) (b0 b1 b2 : Rat) (hb0 : QL b0 100000000) (hb1 : QL b1 100000000) (hb2 : QL b2 100000000) : kD Tryz.prog 22 [(jN (A3.mk (jC a0) (jC a1) (jC a2))), (jN (A3.mk (jC b0) (jC b1) (jC b2)))] (jM (jC (jF a0 a1 a2 b0 b1 b2))) := by
 refine jK Tryz.func22 rfl cb22 rfl ?_
 show uY _ _ _ _ ⟨[(0, (.d (jN (A3.mk (jC a0) (jC a1) (jC a2))))), (1, (.d (jN (A3.mk (jC b0) (jC b1) (jC b2)))))], []⟩
 refine jA <| kx [(2, (.ref 0 0)), (3, (.ref 1 0)), (4, (.ref 2 0))] [(0, some (bx (jN (A3.mk (jC a0) (jC a1) (jC a2))))), (1, some (bx (jN (A3.mk (jC b0) (jC b1) (jC b2))))), (2, some (bx (jM (jV.mk (jG.mk false []) (jG.mk false [])))))] (zN (vN 0) <| zN (vN 1) <| zN (qP 2 qF qQ) <| zZ) ?_
 refine jA ?_
 have bn1 : QL (jF a0 a1 a2 b0 b1 b2) 600000002 := (jQ (n := 100000000) (k := 600000002) ha0 ha1 ha2 hb0 hb1 hb2 (by decide))
 refine kd [(5, (.ref 3 0))] [(3, some (bx (jM (jC (jF a0 a1 a2 b0 b1 b2)))))] mo (wE (e_slv (by exact rfl) yE (by exact rfl) (by kernel_rfl) (by kernel_rfl)) <| wE (e_slv (by exact rfl) yE (by exact rfl) (by kernel_rfl) (by kernel_rfl)) <| wC (oCg [(0, (kY.cells (jN (A3.mk (jC a0) (jC a1) (jC a2))))), (1, (kY.cells (jN (A3.mk (jC b0) (jC b1) (jC b2)))))] [(.view 0 0 3), (.view 1 0 3)] (q_dotL 1000000 a0 a1 a2 ha0 ha1 ha2 1000000 b0 b1 b2 hb0 hb1 hb2) (.v (es := List.map jM [(jC a0), (jC a1), (jC a2)]) (.head _) (gD _ _ (fun _ => rfl)) (by kernel_rfl) (by kernel_rfl) (.v (es := List.map jM [(jC b0), (jC b1), (jC b2)]) (.tail _ (.head _)) (gD _ _ (fun _ => rfl)) (by kernel_rfl) (by kernel_rfl) .nil)) (.tup (cQ (avo_encR (by decide) _) (cQ (.val _) avo_nil)))) <| wM <| wE uG <| wE uG <| wN (qP 3 qF qQ) <| wT (kU jR) <| wM <| wZ) ?_
 refine jA <| kx [] [(2, some (bx (jM (jC (jF a0 a1 a2 b0 b1 b2)))))] (zR (jZ jR) <| zT (kU jR) <| zZ) ?_
 refine jH ⟨_, (kZ (cs := (bx (jM (jC (jF a0 a1 a2 b0 b1 b2))))) (d := (jM (jC (jF a0 a1 a2 b0 b1 b2)))) rfl rfl jR rfl rfl .nil), ?_⟩
 rfl
theorem qs_cross (a0 a1 a2 : Rat) (ha0 : QL a0 100000000) (ha1 : QL a1 100000000) (ha2 : QL a2 100000000) (b0 b1 b2 : Rat) (hb0 : QL b0 100000000) (hb1 : QL b1 100000000) (hb2 : QL b2 100000000) : kD Tryz.prog 78 [(jN (A3.mk (jC a0) (jC a1) (jC a2))), (jN (A3.mk (jC b0) (jC b1) (jC b2)))] (jN (A3.mk (jC ((a1 * b2) - (a2 * b1))) (jC ((a2 * b0) - (a0 * b2))) (jC ((a0 * b1) - (a1 * b0))))) := by
 let y2 := (jV.mk (jG.mk false []) (jG.mk false []))
 let y1 := (bx (jN (A3.mk y2 y2 y2)))
 refine jK Tryz.func78 rfl cb78 rfl ?_
 show uY _ _ _ _ ⟨[(0, (.d (jN (A3.mk (jC a0) (jC a1) (jC a2))))), (1, (.d (jN (A3.mk (jC b0) (jC b1) (jC b2)))))], []⟩
 refine jA <| kx [(2, (.ref 0 0)), (3, (.ref 1 0)), (4, (.ref 2 0))] [(0, some (bx (jN (A3.mk (jC a0) (jC a1) (jC a2))))), (1, some (bx (jN (A3.mk (jC b0) (jC b1) (jC b2))))), (2, some y1)] (zN (vN 0) <| zN (vN 1) <| zN (qP 2 fN fP) <| zZ) ?_
 refine jA <| kx [(5, (.ref 3 0))] [(3, some y1)] (zE (oBa yE fN fP) <| zN (qP 3 fN fP) <| zT (kU xJ) <| zZ) ?_
 refine jA <| jA <| kx [(10, (kE 0))] [] (zM <| zZ) ?_
 refine jE <| kW 20 ?_
 refine qC <| jA <| kx [(11, (vb true))] [] (zE (qN true qM) <| zZ) ?_
 refine jA <| jY ?_
 refine jD <| jA <| jE <| jA <| kx [(6, (kE 0))] [] (zM <| zM <| zZ) ?_
 refine jA <| kx [(7, (kE 1)), (8, (kE 2))] [] (zM <| zE (uI 1 (hr := by decide)) <| zE (oRe 1 (hr := by decide)) <| zM <| zE (uI 2 (hr := by decide)) <| zE (oRe 2 (hr := by decide)) <| zM <| zM <| zZ) ?_
 have bn1 : QL ((a1 * b2) - (a2 * b1)) 400000001 := (uV (k := 400000001) (jI (k := 200000000) ha1 hb2 (by decide)) (jI (k := 200000000) ha2 hb1 (by decide)) (by decide))
 refine kd [] [(3, some (bx (jN (A3.mk (jC ((a1 * b2) - (a2 * b1))) y2 y2))))] mo (wM <| wM <| wE (vM yE 1) <| wR (jZ jR) <| wM <| wE (vM yE 2) <| wR (jZ jR) <| wE (jX (eP (jC a1) (jC b2) a1 b2 (kB (kC ha1) (by decide)) (kB (kC hb2) (by decide)))) <| wM <| wE (vM yE 2) <| wR (jZ jR) <| wM <| wE (vM yE 1) <| wR (jZ jR) <| wE (jX (eP (jC a2) (jC b1) a2 b1 (kB (kC ha2) (by decide)) (kB (kC hb1) (by decide)))) <| wE (jX (g_sub (jC (a1 * b2)) (jC (a2 * b1)) (a1 * b2) (a2 * b1) (kB (kC (jI (k := 200000000) ha1 hb2 (by decide))) (by decide)) (kB (kC (jI (k := 200000000) ha2 hb1 (by decide))) (by decide)))) <| wE (vM yE 0) <| wT (kU jR) <| wZ) ?_
 refine kx [(10, (kE 1))] [] (zE (uI 1 (hr := by decide)) <| zM <| zZ) ?_
 refine jJ (jW.refl _) ?_
 refine jA <| kx [(11, (vb true))] [] (zE (qN true qM) <| zZ) ?_
 refine jA <| jY ?_
 refine jD <| jA <| jE <| jA <| kx [(6, (kE 1))] [] (zM <| zM <| zZ) ?_
 refine jA <| kx [(7, (kE 2)), (8, (kE 0))] [] (zM <| zE (uI 2 (hr := by decide)) <| zE (oRe 2 (hr := by decide)) <| zM <| zE (uI 3 (hr := by decide)) <| zE (oRe 0 (hr := by decide)) <| zM <| zM <| zZ) ?_
 have bn2 : QL ((a2 * b0) - (a0 * b2)) 400000001 := (uV (k := 400000001) (jI (k := 200000000) ha2 hb0 (by decide)) (jI (k := 200000000) ha0 hb2 (by decide)) (by decide))
 refine kd [] [(3, some (bx (jN (A3.mk (jC ((a1 * b2) - (a2 * b1))) (jC ((a2 * b0) - (a0 * b2))) y2))))] mo (wM <| wM <| wE (vM yE 2) <| wR (jZ jR) <| wM <| wE (vM yE 0) <| wR (jZ jR) <| wE (jX (eP (jC a2) (jC b0) a2 b0 (kB (kC ha2) (by decide)) (kB (kC hb0) (by decide)))) <| wM <| wE (vM yE 0) <| wR (jZ jR) <| wM <| wE (vM yE 2) <| wR (jZ jR) <| wE (jX (eP (jC a0) (jC b2) a0 b2 (kB (kC ha0) (by decide)) (kB (kC hb2) (by decide)))) <| wE (jX (g_sub (jC (a2 * b0)) (jC (a0 * b2)) (a2 * b0) (a0 * b2) (kB (kC (jI (k := 200000000) ha2 hb0 (by decide))) (by decide)) (kB (kC (jI (k := 200000000) ha0 hb2 (by decide))) (by decide)))) <| wE (vM yE 1) <| wT (kU jR) <| wZ) ?_
 refine kx [(10, (kE 2))] [] (zE (uI 2 (hr := by decide)) <| zM <| zZ) ?_
 refine jJ (jW.refl _) ?_
 refine jA <| kx [(11, (vb true))] [] (zE (qN true qM) <| zZ) ?_
 refine jA <| jY ?_
 refine jD <| jA <| jE <| jA <| kV (wk (l := [(2, (.ref 0 0)), (3, (.ref 1 0)), (4, (.ref 2 0)), (5, (.ref 3 0)), (10, (kE 2)), (11, (vb true))]) (b := [(0, some (bx (jN (A3.mk (jC a0) (jC a1) (jC a2))))), (1, some (bx (jN (A3.mk (jC b0) (jC b1) (jC b2))))), (2, some y1), (3, some (bx (jN (A3.mk (jC ((a1 * b2) - (a2 * b1))) (jC ((a2 * b0) - (a0 * b2))) y2))))])) ?_
 refine kx [(6, (kE 2))] [] (zM <| zM <| zZ) ?_
 refine jA <| kx [(7, (kE 0)), (8, (kE 1))] [] (zM <| zE (uI 3 (hr := by decide)) <| zE (oRe 0 (hr := by decide)) <| zM <| zE (uI 4 (hr := by decide)) <| zE (oRe 1 (hr := by decide)) <| zM <| zM <| zZ) ?_
 have bn3 : QL ((a0 * b1) - (a1 * b0)) 400000001 := (uV (k := 400000001) (jI (k := 200000000) ha0 hb1 (by decide)) (jI (k := 200000000) ha1 hb0 (by decide)) (by decide))
 refine kd [] [(3, some (bx (jN (A3.mk (jC ((a1 * b2) - (a2 * b1))) (jC ((a2 * b0) - (a0 * b2))) (jC ((a0 * b1) - (a1 * b0)))))))] mo (wM <| wM <| wE (vM yE 0) <| wR (jZ jR) <| wM <| wE (vM yE 1) <| wR (jZ jR) <| wE (jX (eP (jC a0) (jC b1) a0 b1 (kB (kC ha0) (by decide)) (kB (kC hb1) (by decide)))) <| wM <| wE (vM yE 1) <| wR (jZ jR) <| wM <| wE (vM yE 0) <| wR (jZ jR) <| wE (jX (eP (jC a1) (jC b0) a1 b0 (kB (kC ha1) (by decide)) (kB (kC hb0) (by decide)))) <| wE (jX (g_sub (jC (a0 * b1)) (jC (a1 * b0)) (a0 * b1) (a1 * b0) (kB (kC (jI (k := 200000000) ha0 hb1 (by decide))) (by decide)) (kB (kC (jI (k := 200000000) ha1 hb0 (by decide))) (by decide)))) <| wE (vM yE 2) <| wT (kU jR) <| wZ) ?_
 refine kx [(10, (kE 3))] [] (zE (uI 3 (hr := by decide)) <| zM <| zZ) ?_
 refine jJ (jW.refl _) ?_
 refine jA <| kx [(11, (vb false))] [] (zE (qN false qM) <| zZ) ?_
 refine jA <| kG ?_
 refine kK <| jA <| kx [] [(2, some (bx (jN (A3.mk (jC ((a1 * b2) - (a2 * b1))) (jC ((a2 * b0) - (a0 * b2))) (jC ((a0 * b1) - (a1 * b0)))))))] (zR (jZ xJ) <| zT (kU xJ) <| zZ) ?_
 refine jH ⟨_, (kZ (cs := (bx (jN (A3.mk (jC ((a1 * b2) - (a2 * b1))) (jC ((a2 * b0) - (a0 * b2))) (jC ((a0 * b1) - (a1 * b0))))))) (d := (jN (A3.mk (jC ((a1 * b2) - (a2 * b1))) (jC ((a2 * b0) - (a0 * b2))) (jC ((a0 * b1) - (a1 * b0)))))) rfl rfl xJ rfl rfl .nil), ?_⟩
 rfl
theorem gP (a0 a1 a2 : Rat) (ha0 : QL a0 100000000) (ha1 : QL a1 100000000) (ha2 : QL a2 100000000) (k : Rat) (hk : QL k 100000000) : kD Tryz.prog 45 [(jN (A3.mk (jC a0) (jC a1) (jC a2))), (jM (jC k))] (jN (A3.mk (jC (a0 * k)) (jC (a1 * k)) (jC (a2 * k)))) := by
 let y1 := (jV.mk (jG.mk false []) (jG.mk false []))
 refine jK Tryz.func45 rfl cb45 rfl ?_
 show uY _ _ _ _ ⟨[(0, (.d (jN (A3.mk (jC a0) (jC a1) (jC a2))))), (1, (.d (jM (jC k))))], []⟩
 refine jA <| kx [(2, (.ref 0 0)), (3, (.ref 1 0)), (4, (.ref 2 0))] [(0, some (bx (jN (A3.mk (jC a0) (jC a1) (jC a2))))), (1, some (bx (jM (jC k)))), (2, some (bx (jN (A3.mk y1 y1 y1))))] (zN (vN 0) <| zN (vN 1) <| zN (qP 2 fN fP) <| zZ) ?_
 refine jA <| jA <| kx [(6, (kE 0))] [] (zM <| zZ) ?_
 refine jE <| kW 20 ?_
 refine qC <| jA <| kx [(7, (vb true))] [] (zE (qN true qM) <| zZ) ?_
 refine jA <| jY ?_
 refine jD <| jA <| jE <| jA <| kx [(5, (kE 0))] [] (zM <| zM <| zZ) ?_
 refine kd [] [(0, some (bx (jN (A3.mk (jC (a0 * k)) (jC a1) (jC a2)))))] mo (wM <| wM <| wE (vM yE 0) <| wR (jZ jR) <| wR (jZ jR) <| wE (jX (eP (jC a0) (jC k) a0 k (kB (kC ha0) (by decide)) (kB (kC hk) (by decide)))) <| wE (vM yE 0) <| wT (kU jR) <| wZ) ?_
 refine kx [(6, (kE 1))] [] (zE (uI 1 (hr := by decide)) <| zM <| zZ) ?_
 refine jJ (jW.refl _) ?_
 refine jA <| kx [(7, (vb true))] [] (zE (qN true qM) <| zZ) ?_
 refine jA <| jY ?_
 refine jD <| jA <| jE <| jA <| kx [(5, (kE 1))] [] (zM <| zM <| zZ) ?_
 refine kd [] [(0, some (bx (jN (A3.mk (jC (a0 * k)) (jC (a1 * k)) (jC a2)))))] mo (wM <| wM <| wE (vM yE 1) <| wR (jZ jR) <| wR (jZ jR) <| wE (jX (eP (jC a1) (jC k) a1 k (kB (kC ha1) (by decide)) (kB (kC hk) (by decide)))) <| wE (vM yE 1) <| wT (kU jR) <| wZ) ?_
 refine kx [(6, (kE 2))] [] (zE (uI 2 (hr := by decide)) <| zM <| zZ) ?_
 refine jJ (jW.refl _) ?_
 refine jA <| kx [(7, (vb true))] [] (zE (qN true qM) <| zZ) ?_
 refine jA <| jY ?_
 refine jD <| jA <| jE <| jA <| kx [(5, (kE 2))] [] (zM <| zM <| zZ) ?_
 refine kd [] [(0, some (bx (jN (A3.mk (jC (a0 * k)) (jC (a1 * k)) (jC (a2 * k))))))] mo (wM <| wM <| wE (vM yE 2) <| wR (jZ jR) <| wR (jZ jR) <| wE (jX (eP (jC a2) (jC k) a2 k (kB (kC ha2) (by decide)) (kB (kC hk) (by decide)))) <| wE (vM yE 2) <| wT (kU jR) <| wZ) ?_
 refine kx [(6, (kE 3))] [] (zE (uI 3 (hr := by decide)) <| zM <| zZ) ?_
 refine jJ (jW.refl _) ?_
 refine jA <| kV (wk (l := [(2, (.ref 0 0)), (3, (.ref 1 0)), (4, (.ref 2 0)), (6, (kE 3))]) (b := [(0, some (bx (jN (A3.mk (jC (a0 * k)) (jC (a1 * k)) (jC (a2 * k)))))), (1, some (bx (jM (jC k)))), (2, some (bx (jN (A3.mk y1 y1 y1))))])) ?_
 refine kx [(7, (vb false))] [] (zE (qN false qM) <| zZ) ?_
 refine jA <| kG ?_
 refine kK <| jA <| kx [] [(2, some (bx (jN (A3.mk (jC (a0 * k)) (jC (a1 * k)) (jC (a2 * k))))))] (zR (jZ xJ) <| zT (kU xJ) <| zZ) ?_
 refine jH ⟨_, (kZ (cs := (bx (jN (A3.mk (jC (a0 * k)) (jC (a1 * k)) (jC (a2 * k)))))) (d := (jN (A3.mk (jC (a0 * k)) (jC (a1 * k)) (jC (a2 * k))))) rfl rfl xJ rfl rfl .nil), ?_⟩
 rfl
theorem qs_sum (a0 a1 a2 : Rat) (ha0 : QL a0 1000000000) (ha1 : QL a1 1000000000) (ha2 : QL a2 1000000000) (b0 b1 b2 : Rat) (hb0 : QL b0 1000000000) (hb1 : QL b1 1000000000) (hb2 : QL b2 1000000000) : kD Tryz.prog 44 [(jN (A3.mk (jC a0) (jC a1) (jC a2))), (jN (A3.mk (jC b0) (jC b1) (jC b2)))] (jN (A3.mk (jC (a0 + b0)) (jC (a1 + b1)) (jC (a2 + b2)))) := by
 let y1 := (jV.mk (jG.mk false []) (jG.mk false []))
 refine jK Tryz.func44 rfl cb44 rfl ?_
 show uY _ _ _ _ ⟨[(0, (.d (jN (A3.mk (jC a0) (jC a1) (jC a2))))), (1, (.d (jN (A3.mk (jC b0) (jC b1) (jC b2)))))], []⟩
 refine jA <| kx [(2, (.ref 0 0)), (3, (.ref 1 0)), (4, (.ref 2 0))] [(0, some (bx (jN (A3.mk (jC a0) (jC a1) (jC a2))))), (1, some (bx (jN (A3.mk (jC b0) (jC b1) (jC b2))))), (2, some (bx (jN (A3.mk y1 y1 y1))))] (zN (vN 0) <| zN (vN 1) <| zN (qP 2 fN fP) <| zZ) ?_
 refine jA <| jA <| kx [(6, (kE 0))] [] (zM <| zZ) ?_
 refine jE <| kW 20 ?_
 refine qC <| jA <| kx [(7, (vb true))] [] (zE (qN true qM) <| zZ) ?_
 refine jA <| jY ?_
 refine jD <| jA <| jE <| jA <| kx [(5, (kE 0))] [] (zM <| zM <| zZ) ?_
 refine kd [] [(0, some (bx (jN (A3.mk (jC (a0 + b0)) (jC a1) (jC a2)))))] mo (wM <| wM <| wE (vM yE 0) <| wR (jZ jR) <| wM <| wE (vM yE 0) <| wR (jZ jR) <| wE (jX (g_add (jC a0) (jC b0) a0 b0 (kB (kC ha0) (by decide)) (kB (kC hb0) (by decide)))) <| wE (vM yE 0) <| wT (kU jR) <| wZ) ?_
 refine kx [(6, (kE 1))] [] (zE (uI 1 (hr := by decide)) <| zM <| zZ) ?_
 refine jJ (jW.refl _) ?_
 refine jA <| kx [(7, (vb true))] [] (zE (qN true qM) <| zZ) ?_
 refine jA <| jY ?_
 refine jD <| jA <| jE <| jA <| kx [(5, (kE 1))] [] (zM <| zM <| zZ) ?_
 refine kd [] [(0, some (bx (jN (A3.mk (jC (a0 + b0)) (jC (a1 + b1)) (jC a2)))))] mo (wM <| wM <| wE (vM yE 1) <| wR (jZ jR) <| wM <| wE (vM yE 1) <| wR (jZ jR) <| wE (jX (g_add (jC a1) (jC b1) a1 b1 (kB (kC ha1) (by decide)) (kB (kC hb1) (by decide)))) <| wE (vM yE 1) <| wT (kU jR) <| wZ) ?_
 refine kx [(6, (kE 2))] [] (zE (uI 2 (hr := by decide)) <| zM <| zZ) ?_
 refine jJ (jW.refl _) ?_
 refine jA <| kx [(7, (vb true))] [] (zE (qN true qM) <| zZ) ?_
 refine jA <| jY ?_
 refine jD <| jA <| jE <| jA <| kx [(5, (kE 2))] [] (zM <| zM <| zZ) ?_
 refine kd [] [(0, some (bx (jN (A3.mk (jC (a0 + b0)) (jC (a1 + b1)) (jC (a2 + b2))))))] mo (wM <| wM <| wE (vM yE 2) <| wR (jZ jR) <| wM <| wE (vM yE 2) <| wR (jZ jR) <| wE (jX (g_add (jC a2) (jC b2) a2 b2 (kB (kC ha2) (by decide)) (kB (kC hb2) (by decide)))) <| wE (vM yE 2) <| wT (kU jR) <| wZ) ?_
 refine kx [(6, (kE 3))] [] (zE (uI 3 (hr := by decide)) <| zM <| zZ) ?_
 refine jJ (jW.refl _) ?_
 refine jA <| kV (wk (l := [(2, (.ref 0 0)), (3, (.ref 1 0)), (4, (.ref 2 0)), (6, (kE 3))]) (b := [(0, some (bx (jN (A3.mk (jC (a0 + b0)) (jC (a1 + b1)) (jC (a2 + b2)))))), (1, some (bx (jN (A3.mk (jC b0) (jC b1) (jC b2))))), (2, some (bx (jN (A3.mk y1 y1 y1))))])) ?_
 refine kx [(7, (vb false))] [] (zE (qN false qM) <| zZ) ?_
 refine jA <| kG ?_
 refine kK <| jA <| kx [] [(2, some (bx (jN (A3.mk (jC (a0 + b0)) (jC (a1 + b1)) (jC (a2 + b2))))))] (zR (jZ xJ) <| zT (kU xJ) <| zZ) ?_
 refine jH ⟨_, (kZ (cs := (bx (jN (A3.mk (jC (a0 + b0)) (jC (a1 + b1)) (jC (a2 + b2)))))) (d := (jN (A3.mk (jC (a0 + b0)) (jC (a1 + b1)) (jC (a2 + b2))))) rfl rfl xJ rfl rfl .nil), ?_⟩
 rfl
theorem aB (m00 m01 m02 m10 m11 m12 m20 m21 m22 : Rat) (hm00 : QL m00 100000000) (hm01 : QL m01 100000000) (hm02 : QL m02 100000000) (hm10 : QL m10 100000000) (hm11 : QL m11 100000000) (hm12 : QL m12 100000000) (hm20 : QL m20 100000000) (hm21 : QL m21 100000000) (hm22 : QL m22 100000000) (v0 v1 v2 : Rat) (hv0 : QL v0 100000000) (hv1 : QL v1 100000000) (hv2 : QL v2 100000000) : kD Tryz.prog 101 [(qH (A3.mk (A3.mk (jC m00) (jC m01) (jC m02)) (A3.mk (jC m10) (jC m11) (jC m12)) (A3.mk (jC m20) (jC m21) (jC m22)))), (jN (A3.mk (jC v0) (jC v1) (jC v2)))] (jN (A3.mk (jC (jF m00 m01 m02 v0 v1 v2)) (jC (jF m10 m11 m12 v0 v1 v2)) (jC (jF m20 m21 m22 v0 v1 v2)))) := by
 refine jK Tryz.func101 rfl cb101 rfl ?_
 show uY _ _ _ _ ⟨[(0, (.d (qH (A3.mk (A3.mk (jC m00) (jC m01) (jC m02)) (A3.mk (jC m10) (jC m11) (jC m12)) (A3.mk (jC m20) (jC m21) (jC m22)))))), (1, (.d (jN (A3.mk (jC v0) (jC v1) (jC v2)))))], []⟩
 refine jA <| kx [(2, (.ref 0 0)), (3, (.ref 1 0)), (4, (.ref 2 0))] [(0, some (bx (qH (A3.mk (A3.mk (jC m00) (jC m01) (jC m02)) (A3.mk (jC m10) (jC m11) (jC m12)) (A3.mk (jC m20) (jC m21) (jC m22)))))), (1, some (bx (jN (A3.mk (jC v0) (jC v1) (jC v2))))), (2, some (bx (jN (A3.mk (jV.mk (jG.mk false []) (jG.mk false [])) (jV.mk (jG.mk false []) (jG.mk false [])) (jV.mk (jG.mk false []) (jG.mk false []))))))] (zN (vN 0) <| zN (vN 1) <| zN (qP 2 nO nN) <| zZ) ?_
 refine jA ?_
 have bn1 : QL (jF m00 m01 m02 v0 v1 v2) 600000002 := (jQ (n := 100000000) (k := 600000002) hm00 hm01 hm02 hv0 hv1 hv2 (by decide))
 have bn2 : QL (jF m10 m11 m12 v0 v1 v2) 600000002 := (jQ (n := 100000000) (k := 600000002) hm10 hm11 hm12 hv0 hv1 hv2 (by decide))
 have bn3 : QL (jF m20 m21 m22 v0 v1 v2) 600000002 := (jQ (n := 100000000) (k := 600000002) hm20 hm21 hm22 hv0 hv1 hv2 (by decide))
 refine kd [] [(2, some (bx (jN (A3.mk (jC (jF m00 m01 m02 v0 v1 v2)) (jC (jF m10 m11 m12 v0 v1 v2)) (jC (jF m20 m21 m22 v0 v1 v2))))))] mo (wE (vM xA 0) <| wR (jZ uQ) <| wR (jZ uQ) <| wE (jX (q_dot m00 m01 m02 hm00 hm01 hm02 v0 v1 v2 hv0 hv1 hv2)) <| wE (vM xA 1) <| wR (jZ uQ) <| wR (jZ uQ) <| wE (jX (q_dot m10 m11 m12 hm10 hm11 hm12 v0 v1 v2 hv0 hv1 hv2)) <| wE (vM xA 2) <| wR (jZ uQ) <| wR (jZ uQ) <| wE (jX (q_dot m20 m21 m22 hm20 hm21 hm22 v0 v1 v2 hv0 hv1 hv2)) <| wE (oBf uB nO nN) <| wT (kU uQ) <| wZ) ?_
 refine jH ⟨_, (kZ (cs := (bx (jN (A3.mk (jC (jF m00 m01 m02 v0 v1 v2)) (jC (jF m10 m11 m12 v0 v1 v2)) (jC (jF m20 m21 m22 v0 v1 v2)))))) (d := (jN (A3.mk (jC (jF m00 m01 m02 v0 v1 v2)) (jC (jF m10 m11 m12 v0 v1 v2)) (jC (jF m20 m21 m22 v0 v1 v2))))) rfl rfl uQ rfl rfl .nil), ?_⟩
 rfl
theorem qs_turned (m00 m01 m02 m10 m11 m12 m20 m21 m22 : Rat) (hm00 : QL m00 100000000) (hm01 : QL m01 100000000) (hm02 : QL m02 100000000) (hm10 : QL m10 100000000) (hm11 : QL m11 100000000) (hm12 : QL m12 100000000) (hm20 : QL m20 100000000) (hm21 : QL m21 100000000) (hm22 : QL m22 100000000) (v0 v1 v2 : Rat) (hv0 : QL v0 100000000) (hv1 : QL v1 100000000) (hv2 : QL v2 100000000) : kD Tryz.prog 23 [(cD (A3.mk (A3.mk (jC m00) (jC m01) (jC m02)) (A3.mk (jC m10) (jC m11) (jC m12)) (A3.mk (jC m20) (jC m21) (jC m22)))), (jN (A3.mk (jC v0) (jC v1) (jC v2)))] (jN (A3.mk (jC (jF m00 m01 m02 v0 v1 v2)) (jC (jF m10 m11 m12 v0 v1 v2)) (jC (jF m20 m21 m22 v0 v1 v2)))) := by
 refine jK Tryz.func23 rfl cb23 rfl ?_
 show uY _ _ _ _ ⟨[(0, (.d (cD (A3.mk (A3.mk (jC m00) (jC m01) (jC m02)) (A3.mk (jC m10) (jC m11) (jC m12)) (A3.mk (jC m20) (jC m21) (jC m22)))))), (1, (.d (jN (A3.mk (jC v0) (jC v1) (jC v2)))))], []⟩
 refine jA <| kx [(2, (.ref 0 0)), (3, (.ref 1 0)), (4, (.ref 2 0))] [(0, some (bx (cD (A3.mk (A3.mk (jC m00) (jC m01) (jC m02)) (A3.mk (jC m10) (jC m11) (jC m12)) (A3.mk (jC m20) (jC m21) (jC m22)))))), (1, some (bx (jN (A3.mk (jC v0) (jC v1) (jC v2))))), (2, some (bx (jN (A3.mk (jV.mk (jG.mk false []) (jG.mk false [])) (jV.mk (jG.mk false []) (jG.mk false [])) (jV.mk (jG.mk false []) (jG.mk false []))))))] (zN (vN 0) <| zN (vN 1) <| zN (qP 2 fN fP) <| zZ) ?_
 refine jA ?_
 have bn1 : QL (jF m00 m01 m02 v0 v1 v2) 600000002 := (jQ (n := 100000000) (k := 600000002) hm00 hm01 hm02 hv0 hv1 hv2 (by decide))
 have bn2 : QL (jF m10 m11 m12 v0 v1 v2) 600000002 := (jQ (n := 100000000) (k := 600000002) hm10 hm11 hm12 hv0 hv1 hv2 (by decide))
 have bn3 : QL (jF m20 m21 m22 v0 v1 v2) 600000002 := (jQ (n := 100000000) (k := 600000002) hm20 hm21 hm22 hv0 hv1 hv2 (by decide))
 refine kd [] [(2, some (bx (jN (A3.mk (jC (jF m00 m01 m02 v0 v1 v2)) (jC (jF m10 m11 m12 v0 v1 v2)) (jC (jF m20 m21 m22 v0 v1 v2))))))] mo (wE (vM ar45 0) <| wR (jZ xJ) <| wR (jZ xJ) <| wE (jX (qs_dot m00 m01 m02 hm00 hm01 hm02 v0 v1 v2 hv0 hv1 hv2)) <| wE (vM ar45 1) <| wR (jZ xJ) <| wR (jZ xJ) <| wE (jX (qs_dot m10 m11 m12 hm10 hm11 hm12 v0 v1 v2 hv0 hv1 hv2)) <| wE (vM ar45 2) <| wR (jZ xJ) <| wR (jZ xJ) <| wE (jX (qs_dot m20 m21 m22 hm20 hm21 hm22 v0 v1 v2 hv0 hv1 hv2)) <| wE (oBf yE fN fP) <| wT (kU xJ) <| wZ) ?_
 refine jH ⟨_, (kZ (cs := (bx (jN (A3.mk (jC (jF m00 m01 m02 v0 v1 v2)) (jC (jF m10 m11 m12 v0 v1 v2)) (jC (jF m20 m21 m22 v0 v1 v2)))))) (d := (jN (A3.mk (jC (jF m00 m01 m02 v0 v1 v2)) (jC (jF m10 m11 m12 v0 v1 v2)) (jC (jF m20 m21 m22 v0 v1 v2))))) rfl rfl xJ rfl rfl .nil), ?_⟩
 rfl
theorem fR (m00 m01 m02 m10 m11 m12 m20 m21 m22 : Rat) (hm00 : QL m00 100000000) (hm01 : QL m01 100000000) (hm02 : QL m02 100000000) (hm10 : QL m10 100000000) (hm11 : QL m11 100000000) (hm12 : QL m12 100000000) (hm20 : QL m20 100000000) (hm21 : QL m21 100000000) (hm22 : QL m22 100000000) : kD Tryz.prog 72 [(qH (A3.mk (A3.mk (jC m00) (jC m01) (jC m02)) (A3.mk (jC m10) (jC m11) (jC m12)) (A3.mk (jC m20) (jC m21) (jC m22))))] (qH (A3.mk (A3.mk (jC m00) (jC m10) (jC m20)) (A3.mk (jC m01) (jC m11) (jC m21)) (A3.mk (jC m02) (jC m12) (jC m22)))) := by
 let y8 := (A3.mk (jC m00) (jC m10) (jC m20))
 let y7 := (jV.mk (jG.mk false []) (jG.mk false []))
 let y6 := (bx (qH (A3.mk (A3.mk (jC m00) (jC m01) (jC m02)) (A3.mk (jC m10) (jC m11) (jC m12)) (A3.mk (jC m20) (jC m21) (jC m22)))))
 let y5 := (A3.mk y7 y7 y7)
 let y4 := (bx (qH (A3.mk y8 (A3.mk (jC m01) (jC m11) (jC m21)) y5)))
 let y3 := (bx (qH (A3.mk y8 (A3.mk (jC m01) y7 y7) y5)))
 let y2 := (bx (qH (A3.mk (A3.mk (jC m00) (jC m10) y7) y5 y5)))
 let y1 := (bx (qH (A3.mk y5 y5 y5)))
 refine jK Tryz.func72 rfl cb72 rfl ?_
 show uY _ _ _ _ ⟨[(0, (.d (qH (A3.mk (A3.mk (jC m00) (jC m01) (jC m02)) (A3.mk (jC m10) (jC m11) (jC m12)) (A3.mk (jC m20) (jC m21) (jC m22))))))], []⟩
 refine jA <| kx [(1, (.ref 0 0)), (2, (.ref 1 0))] [(0, some y6), (1, some y1)] (zN (vN 0) <| zN (qP 1 dZ eC) <| zZ) ?_
 refine jA <| kx [(3, (.ref 2 0))] [(2, some y1)] (zN (qP 2 dZ eC) <| zZ) ?_
 refine jA <| jA <| kx [(6, (kE 0))] [] (zM <| zZ) ?_
 refine jE <| kW 20 ?_
 refine qC <| jA <| kx [(7, (vb true))] [] (zE (qN true qM) <| zZ) ?_
 refine jA <| jY ?_
 refine jD <| jA <| jE <| jA <| kx [(4, (kE 0))] [] (zM <| zM <| zZ) ?_
 refine jA <| kx [(9, (kE 0))] [] (zM <| zZ) ?_
 refine jE <| kW 20 ?_
 refine qC <| jA <| kx [(10, (vb true))] [] (zE (qN true qM) <| zZ) ?_
 refine jA <| jY ?_
 refine jD <| jA <| jE <| jA <| kx [(5, (kE 0))] [] (zM <| zM <| zZ) ?_
 refine kd [] [(2, some (bx (qH (A3.mk (A3.mk (jC m00) y7 y7) y5 y5))))] mo (wM <| wM <| wM <| wM <| wE (vM xA 0) <| wE (vM uB 0) <| wR (jZ jR) <| wE (vM xA 0) <| wE (vM uB 0) <| wT (kU jR) <| wZ) ?_
 refine kx [(9, (kE 1))] [] (zE (uI 1 (hr := by decide)) <| zM <| zZ) ?_
 refine jJ (jW.refl _) ?_
 refine jA <| kx [(10, (vb true))] [] (zE (qN true qM) <| zZ) ?_
 refine jA <| jY ?_
 refine jD <| jA <| jE <| jA <| kx [(5, (kE 1))] [] (zM <| zM <| zZ) ?_
 refine kd [] [(2, some y2)] mo (wM <| wM <| wM <| wM <| wE (vM xA 1) <| wE (vM uB 0) <| wR (jZ jR) <| wE (vM xA 0) <| wE (vM uB 1) <| wT (kU jR) <| wZ) ?_
 refine kx [(9, (kE 2))] [] (zE (uI 2 (hr := by decide)) <| zM <| zZ) ?_
 refine jJ (jW.refl _) ?_
 refine jA <| kV (wk (l := [(1, (.ref 0 0)), (2, (.ref 1 0)), (3, (.ref 2 0)), (4, (kE 0)), (6, (kE 0)), (9, (kE 2))]) (b := [(0, some y6), (1, some y1), (2, some y2)])) ?_
 refine kx [(10, (vb true))] [] (zE (qN true qM) <| zZ) ?_
 refine jA <| jY ?_
 refine jD <| jA <| jE <| jA <| kx [(5, (kE 2))] [] (zM <| zM <| zZ) ?_
 refine kd [] [(2, some (bx (qH (A3.mk y8 y5 y5))))] mo (wM <| wM <| wM <| wM <| wE (vM xA 2) <| wE (vM uB 0) <| wR (jZ jR) <| wE (vM xA 0) <| wE (vM uB 2) <| wT (kU jR) <| wZ) ?_
 refine kx [(9, (kE 3))] [] (zE (uI 3 (hr := by decide)) <| zM <| zZ) ?_
 refine jJ (jW.refl _) ?_
 refine jA <| kx [(10, (vb false))] [] (zE (qN false qM) <| zZ) ?_
 refine jA <| kG ?_
 refine kK <| kx [(6, (kE 1))] [] (zE (uI 1 (hr := by decide)) <| zM <| zZ) ?_
 refine jJ (jW.refl _) ?_
 refine jA <| kx [(7, (vb true))] [] (zE (qN true qM) <| zZ) ?_
 refine jA <| jY ?_
 refine jD <| jA <| jE <| jA <| kx [(4, (kE 1))] [] (zM <| zM <| zZ) ?_
 refine jA <| kx [(9, (kE 0))] [] (zM <| zZ) ?_
 refine jE <| kW 20 ?_
 refine qC <| jA <| kx [(10, (vb true))] [] (zE (qN true qM) <| zZ) ?_
 refine jA <| jY ?_
 refine jD <| jA <| jE <| jA <| kx [(5, (kE 0))] [] (zM <| zM <| zZ) ?_
 refine kd [] [(2, some y3)] mo (wM <| wM <| wM <| wM <| wE (vM xA 0) <| wE (vM uB 1) <| wR (jZ jR) <| wE (vM xA 1) <| wE (vM uB 0) <| wT (kU jR) <| wZ) ?_
 refine kx [(9, (kE 1))] [] (zE (uI 1 (hr := by decide)) <| zM <| zZ) ?_
 refine jJ (jW.refl _) ?_
 refine jA <| kx [(10, (vb true))] [] (zE (qN true qM) <| zZ) ?_
 refine jA <| jY ?_
 refine jD <| jA <| jE <| jA <| kV (wk (l := [(1, (.ref 0 0)), (2, (.ref 1 0)), (3, (.ref 2 0)), (4, (kE 1)), (6, (kE 1)), (9, (kE 1)), (10, (vb true))]) (b := [(0, some y6), (1, some y1), (2, some y3)])) ?_
 refine kx [(5, (kE 1))] [] (zM <| zM <| zZ) ?_
 refine kd [] [(2, some (bx (qH (A3.mk y8 (A3.mk (jC m01) (jC m11) y7) y5))))] mo (wM <| wM <| wM <| wM <| wE (vM xA 1) <| wE (vM uB 1) <| wR (jZ jR) <| wE (vM xA 1) <| wE (vM uB 1) <| wT (kU jR) <| wZ) ?_
 refine kx [(9, (kE 2))] [] (zE (uI 2 (hr := by decide)) <| zM <| zZ) ?_
 refine jJ (jW.refl _) ?_
 refine jA <| kx [(10, (vb true))] [] (zE (qN true qM) <| zZ) ?_
 refine jA <| jY ?_
 refine jD <| jA <| jE <| jA <| kx [(5, (kE 2))] [] (zM <| zM <| zZ) ?_
 refine kd [] [(2, some y4)] mo (wM <| wM <| wM <| wM <| wE (vM xA 2) <| wE (vM uB 1) <| wR (jZ jR) <| wE (vM xA 1) <| wE (vM uB 2) <| wT (kU jR) <| wZ) ?_
 refine kx [(9, (kE 3))] [] (zE (uI 3 (hr := by decide)) <| zM <| zZ) ?_
 refine jJ (jW.refl _) ?_
 refine jA <| kx [(10, (vb false))] [] (zE (qN false qM) <| zZ) ?_
 refine jA <| kG ?_
 refine kK <| kx [(6, (kE 2))] [] (zE (uI 2 (hr := by decide)) <| zM <| zZ) ?_
 refine jJ (jW.refl _) ?_
 refine jA <| kx [(7, (vb true))] [] (zE (qN true qM) <| zZ) ?_
 refine jA <| jY ?_
 refine jD <| jA <| jE <| jA <| kx [(4, (kE 2))] [] (zM <| zM <| zZ) ?_
 refine jA <| kx [(9, (kE 0))] [] (zM <| zZ) ?_
 refine jE <| kW 20 ?_
 refine qC <| jA <| kx [(10, (vb true))] [] (zE (qN true qM) <| zZ) ?_
 refine jA <| jY ?_
 refine jD <| jA <| jE <| jA <| kx [(5, (kE 0))] [] (zM <| zM <| zZ) ?_
 refine kV (wk (l := [(1, (.ref 0 0)), (2, (.ref 1 0)), (3, (.ref 2 0)), (4, (kE 2)), (5, (kE 0)), (6, (kE 2)), (9, (kE 0))]) (b := [(0, some y6), (1, some y1), (2, some y4)])) ?_
 refine kd [] [(2, some (bx (qH (A3.mk y8 (A3.mk (jC m01) (jC m11) (jC m21)) (A3.mk (jC m02) y7 y7)))))] mo (wM <| wM <| wM <| wM <| wE (vM xA 0) <| wE (vM uB 2) <| wR (jZ jR) <| wE (vM xA 2) <| wE (vM uB 0) <| wT (kU jR) <| wZ) ?_
 refine kx [(9, (kE 1))] [] (zE (uI 1 (hr := by decide)) <| zM <| zZ) ?_
 refine jJ (jW.refl _) ?_
 refine jA <| kx [(10, (vb true))] [] (zE (qN true qM) <| zZ) ?_
 refine jA <| jY ?_
 refine jD <| jA <| jE <| jA <| kx [(5, (kE 1))] [] (zM <| zM <| zZ) ?_
 refine kd [] [(2, some (bx (qH (A3.mk y8 (A3.mk (jC m01) (jC m11) (jC m21)) (A3.mk (jC m02) (jC m12) y7)))))] mo (wM <| wM <| wM <| wM <| wE (vM xA 1) <| wE (vM uB 2) <| wR (jZ jR) <| wE (vM xA 2) <| wE (vM uB 1) <| wT (kU jR) <| wZ) ?_
 refine kx [(9, (kE 2))] [] (zE (uI 2 (hr := by decide)) <| zM <| zZ) ?_
 refine jJ (jW.refl _) ?_
 refine jA <| kx [(10, (vb true))] [] (zE (qN true qM) <| zZ) ?_
 refine jA <| jY ?_
 refine jD <| jA <| jE <| jA <| kx [(5, (kE 2))] [] (zM <| zM <| zZ) ?_
 refine kd [] [(2, some (bx (qH (A3.mk y8 (A3.mk (jC m01) (jC m11) (jC m21)) (A3.mk (jC m02) (jC m12) (jC m22))))))] mo (wM <| wM <| wM <| wM <| wE (vM xA 2) <| wE (vM uB 2) <| wR (jZ jR) <| wE (vM xA 2) <| wE (vM uB 2) <| wT (kU jR) <| wZ) ?_
 refine kx [(9, (kE 3))] [] (zE (uI 3 (hr := by decide)) <| zM <| zZ) ?_
 refine jJ (jW.refl _) ?_
 refine jA <| kx [(10, (vb false))] [] (zE (qN false qM) <| zZ) ?_
 refine jA <| kG ?_
 refine kK <| kx [(6, (kE 3))] [] (zE (uI 3 (hr := by decide)) <| zM <| zZ) ?_
 refine jJ (jW.refl _) ?_
 refine jA <| kx [(7, (vb false))] [] (zE (qN false qM) <| zZ) ?_
 refine jA <| kG ?_
 refine kK <| jA <| kx [] [(1, some (bx (qH (A3.mk y8 (A3.mk (jC m01) (jC m11) (jC m21)) (A3.mk (jC m02) (jC m12) (jC m22))))))] (zR (jZ gS) <| zT (kU gS) <| zZ) ?_
 refine jH ⟨_, (kZ (cs := (bx (qH (A3.mk (A3.mk (jC m00) (jC m10) (jC m20)) (A3.mk (jC m01) (jC m11) (jC m21)) (A3.mk (jC m02) (jC m12) (jC m22)))))) (d := (qH (A3.mk (A3.mk (jC m00) (jC m10) (jC m20)) (A3.mk (jC m01) (jC m11) (jC m21)) (A3.mk (jC m02) (jC m12) (jC m22))))) rfl rfl gS rfl rfl .nil), ?_⟩
 rfl
theorem q_mul (m00 m01 m02 m10 m11 m12 m20 m21 m22 : Rat) (hm00 : QL m00 10000000) (hm01 : QL m01 10000000) (hm02 : QL m02 10000000) (hm10 : QL m10 10000000) (hm11 : QL m11 10000000) (hm12 : QL m12 10000000) (hm20 : QL m20 10000000) (hm21 : QL m21 10000000) (hm22 : QL m22 10000000) (u00 u01 u02 u10 u11 u12 u20 u21 u22 : Rat) (hu00 : QL u00 10000000) (hu01 : QL u01 10000000) (hu02 : QL u02 10000000) (hu10 : QL u10 10000000) (hu11 : QL u11 10000000) (hu12 : QL u12 10000000) (hu20 : QL u20 10000000) (hu21 : QL u21 10000000) (hu22 : QL u22 10000000) : kD Tryz.prog 70 [(qH (A3.mk (A3.mk (jC m00) (jC m01) (jC m02)) (A3.mk (jC m10) (jC m11) (jC m12)) (A3.mk (jC m20) (jC m21) (jC m22)))), (qH (A3.mk (A3.mk (jC u00) (jC u01) (jC u02)) (A3.mk (jC u10) (jC u11) (jC u12)) (A3.mk (jC u20) (jC u21) (jC u22))))] (qH (A3.mk (A3.mk (jC (jF u00 u10 u20 m00 m01 m02)) (jC (jF u01 u11 u21 m00 m01 m02)) (jC (jF u02 u12 u22 m00 m01 m02))) (A3.mk (jC (jF u00 u10 u20 m10 m11 m12)) (jC (jF u01 u11 u21 m10 m11 m12)) (jC (jF u02 u12 u22 m10 m11 m12))) (A3.mk (jC (jF u00 u10 u20 m20 m21 m22)) (jC (jF u01 u11 u21 m20 m21 m22)) (jC (jF u02 u12 u22 m20 m21 m22))))) := by
 let y6 := (A3.mk (jC (jF u00 u10 u20 m00 m01 m02)) (jC (jF u01 u11 u21 m00 m01 m02)) (jC (jF u02 u12 u22 m00 m01 m02)))
 let y5 := (qH (A3.mk (A3.mk (jC m00) (jC m01) (jC m02)) (A3.mk (jC m10) (jC m11) (jC m12)) (A3.mk (jC m20) (jC m21) (jC m22))))
 let y4 := (A3.mk (jV.mk (jG.mk false []) (jG.mk false [])) (jV.mk (jG.mk false []) (jG.mk false [])) (jV.mk (jG.mk false []) (jG.mk false [])))
 let y3 := (bx (qH (A3.mk y6 (A3.mk (jC (jF u00 u10 u20 m10 m11 m12)) (jC (jF u01 u11 u21 m10 m11 m12)) (jC (jF u02 u12 u22 m10 m11 m12))) (A3.mk (jC (jF u00 u10 u20 m20 m21 m22)) (jC (jF u01 u11 u21 m20 m21 m22)) (jC (jF u02 u12 u22 m20 m21 m22))))))
 let y2 := (bx (qH (A3.mk y6 (A3.mk (jC (jF u00 u10 u20 m10 m11 m12)) (jC (jF u01 u11 u21 m10 m11 m12)) (jC (jF u02 u12 u22 m10 m11 m12))) y4)))
 let y1 := (bx (qH (A3.mk y4 y4 y4)))
 refine jK Tryz.func70 rfl cb70 rfl ?_
 show uY _ _ _ _ ⟨[(0, (.d y5)), (1, (.d (qH (A3.mk (A3.mk (jC u00) (jC u01) (jC u02)) (A3.mk (jC u10) (jC u11) (jC u12)) (A3.mk (jC u20) (jC u21) (jC u22))))))], []⟩
 refine jA <| kx [(2, (.ref 0 0)), (3, (.ref 1 0)), (4, (.ref 2 0))] [(0, some (bx y5)), (1, some (bx (qH (A3.mk (A3.mk (jC u00) (jC u01) (jC u02)) (A3.mk (jC u10) (jC u11) (jC u12)) (A3.mk (jC u20) (jC u21) (jC u22)))))), (2, some y1)] (zN (vN 0) <| zN (vN 1) <| zN (qP 2 dZ eC) <| zZ) ?_
 refine jA <| kx [(5, (.ref 3 0))] [(3, some (bx (qH (A3.mk (A3.mk (jC u00) (jC u10) (jC u20)) (A3.mk (jC u01) (jC u11) (jC u21)) (A3.mk (jC u02) (jC u12) (jC u22))))))] (zR (jZ gS) <| zE (jX (fR u00 u01 u02 u10 u11 u12 u20 u21 u22 (qu hu00) (qu hu01) (qu hu02) (qu hu10) (qu hu11) (qu hu12) (qu hu20) (qu hu21) (qu hu22))) <| zN (qP 3 dZ eC) <| zT (kU gS) <| zZ) ?_
 refine jA <| kx [(6, (.ref 4 0))] [(4, some y1)] (zN (qP 4 dZ eC) <| zZ) ?_
 refine jA <| jA <| kx [(10, (kE 0))] [] (zM <| zZ) ?_
 refine jE <| kW 20 ?_
 refine qC <| jA <| kx [(11, (vb true))] [] (zE (qN true qM) <| zZ) ?_
 refine jA <| jY ?_
 refine jD <| jA <| jE <| jA <| kx [(7, (kE 0))] [] (zM <| zM <| zZ) ?_
 have bn1 : QL (jF u00 u10 u20 m00 m01 m02) 60000002 := (jQ (n := 10000000) (k := 60000002) hu00 hu10 hu20 hm00 hm01 hm02 (by decide))
 have bn2 : QL (jF u01 u11 u21 m00 m01 m02) 60000002 := (jQ (n := 10000000) (k := 60000002) hu01 hu11 hu21 hm00 hm01 hm02 (by decide))
 have bn3 : QL (jF u02 u12 u22 m00 m01 m02) 60000002 := (jQ (n := 10000000) (k := 60000002) hu02 hu12 hu22 hm00 hm01 hm02 (by decide))
 refine kd [] [(4, some (bx (qH (A3.mk y6 y4 y4))))] mo (wM <| wR (jZ gS) <| wM <| wE (vM xA 0) <| wR (jZ uQ) <| wE (jX (aB u00 u10 u20 u01 u11 u21 u02 u12 u22 (qu hu00) (qu hu10) (qu hu20) (qu hu01) (qu hu11) (qu hu21) (qu hu02) (qu hu12) (qu hu22) m00 m01 m02 (qu hm00) (qu hm01) (qu hm02))) <| wE (vM xA 0) <| wT (kU uQ) <| wZ) ?_
 refine kx [(10, (kE 1))] [] (zE (uI 1 (hr := by decide)) <| zM <| zZ) ?_
 refine jJ (jW.refl _) ?_
 refine jA <| kx [(11, (vb true))] [] (zE (qN true qM) <| zZ) ?_
 refine jA <| jY ?_
 refine jD <| jA <| jE <| jA <| kx [(7, (kE 1))] [] (zM <| zM <| zZ) ?_
 have bn4 : QL (jF u00 u10 u20 m10 m11 m12) 60000002 := (jQ (n := 10000000) (k := 60000002) hu00 hu10 hu20 hm10 hm11 hm12 (by decide))
 have bn5 : QL (jF u01 u11 u21 m10 m11 m12) 60000002 := (jQ (n := 10000000) (k := 60000002) hu01 hu11 hu21 hm10 hm11 hm12 (by decide))
 have bn6 : QL (jF u02 u12 u22 m10 m11 m12) 60000002 := (jQ (n := 10000000) (k := 60000002) hu02 hu12 hu22 hm10 hm11 hm12 (by decide))
 refine kd [] [(4, some y2)] mo (wM <| wR (jZ gS) <| wM <| wE (vM xA 1) <| wR (jZ uQ) <| wE (jX (aB u00 u10 u20 u01 u11 u21 u02 u12 u22 (qu hu00) (qu hu10) (qu hu20) (qu hu01) (qu hu11) (qu hu21) (qu hu02) (qu hu12) (qu hu22) m10 m11 m12 (qu hm10) (qu hm11) (qu hm12))) <| wE (vM xA 1) <| wT (kU uQ) <| wZ) ?_
 refine kx [(10, (kE 2))] [] (zE (uI 2 (hr := by decide)) <| zM <| zZ) ?_
 refine jJ (jW.refl _) ?_
 refine jA <| kx [(11, (vb true))] [] (zE (qN true qM) <| zZ) ?_
 refine jA <| jY ?_
 refine jD <| jA <| jE <| jA <| kx [(7, (kE 2))] [] (zM <| zM <| zZ) ?_
 refine kV (wk (l := [(2, (.ref 0 0)), (4, (.ref 2 0)), (5, (.ref 3 0)), (6, (.ref 4 0)), (7, (kE 2)), (10, (kE 2))]) (b := [(0, some (bx y5)), (2, some y1), (3, some (bx (qH (A3.mk (A3.mk (jC u00) (jC u10) (jC u20)) (A3.mk (jC u01) (jC u11) (jC u21)) (A3.mk (jC u02) (jC u12) (jC u22)))))), (4, some y2)])) ?_
 have bn7 : QL (jF u00 u10 u20 m20 m21 m22) 60000002 := (jQ (n := 10000000) (k := 60000002) hu00 hu10 hu20 hm20 hm21 hm22 (by decide))
 have bn8 : QL (jF u01 u11 u21 m20 m21 m22) 60000002 := (jQ (n := 10000000) (k := 60000002) hu01 hu11 hu21 hm20 hm21 hm22 (by decide))
 have bn9 : QL (jF u02 u12 u22 m20 m21 m22) 60000002 := (jQ (n := 10000000) (k := 60000002) hu02 hu12 hu22 hm20 hm21 hm22 (by decide))
 refine kd [] [(4, some y3)] mo (wM <| wR (jZ gS) <| wM <| wE (vM xA 2) <| wR (jZ uQ) <| wE (jX (aB u00 u10 u20 u01 u11 u21 u02 u12 u22 (qu hu00) (qu hu10) (qu hu20) (qu hu01) (qu hu11) (qu hu21) (qu hu02) (qu hu12) (qu hu22) m20 m21 m22 (qu hm20) (qu hm21) (qu hm22))) <| wE (vM xA 2) <| wT (kU uQ) <| wZ) ?_
 refine kx [(10, (kE 3))] [] (zE (uI 3 (hr := by decide)) <| zM <| zZ) ?_
 refine jJ (jW.refl _) ?_
 refine jA <| kx [(11, (vb false))] [] (zE (qN false qM) <| zZ) ?_
 refine jA <| kG ?_
 refine kK <| jA <| kx [] [(2, some y3)] (zR (jZ gS) <| zT (kU gS) <| zZ) ?_
 refine jH ⟨_, (kZ (cs := (bx (qH (A3.mk (A3.mk (jC (jF u00 u10 u20 m00 m01 m02)) (jC (jF u01 u11 u21 m00 m01 m02)) (jC (jF u02 u12 u22 m00 m01 m02))) (A3.mk (jC (jF u00 u10 u20 m10 m11 m12)) (jC (jF u01 u11 u21 m10 m11 m12)) (jC (jF u02 u12 u22 m10 m11 m12))) (A3.mk (jC (jF u00 u10 u20 m20 m21 m22)) (jC (jF u01 u11 u21 m20 m21 m22)) (jC (jF u02 u12 u22 m20 m21 m22))))))) (d := (qH (A3.mk (A3.mk (jC (jF u00 u10 u20 m00 m01 m02)) (jC (jF u01 u11 u21 m00 m01 m02)) (jC (jF u02 u12 u22 m00 m01 m02))) (A3.mk (jC (jF u00 u10 u20 m10 m11 m12)) (jC (jF u01 u11 u21 m10 m11 m12)) (jC (jF u02 u12 u22 m10 m11 m12))) (A3.mk (jC (jF u00 u10 u20 m20 m21 m22)) (jC (jF u01 u11 u21 m20 m21 m22)) (jC (jF u02 u12 u22 m20 m21 m22)))))) rfl rfl gS rfl rfl .nil), ?_⟩
 rfl
theorem qs_back (m00 m01 m02 m10 m11 m12 m20 m21 m22 : Rat) (hm00 : QL m00 10000000) (hm01 : QL m01 10000000) (hm02 : QL m02 10000000) (hm10 : QL m10 10000000) (hm11 : QL m11 10000000) (hm12 : QL m12 10000000) (hm20 : QL m20 10000000) (hm21 : QL m21 10000000) (hm22 : QL m22 10000000) (v0 v1 v2 : Rat) (hv0 : QL v0 10000000) (hv1 : QL v1 10000000) (hv2 : QL v2 10000000) : kD Tryz.prog 90 [(cD (A3.mk (A3.mk (jC m00) (jC m01) (jC m02)) (A3.mk (jC m10) (jC m11) (jC m12)) (A3.mk (jC m20) (jC m21) (jC m22)))), (jN (A3.mk (jC v0) (jC v1) (jC v2)))] (jN (A3.mk (jC (((m00 * v0) + (m10 * v1)) + (m20 * v2))) (jC (((m01 * v0) + (m11 * v1)) + (m21 * v2))) (jC (((m02 * v0) + (m12 * v1)) + (m22 * v2))))) := by
 refine jK Tryz.func90 rfl cb90 rfl ?_
 show uY _ _ _ _ ⟨[(0, (.d (cD (A3.mk (A3.mk (jC m00) (jC m01) (jC m02)) (A3.mk (jC m10) (jC m11) (jC m12)) (A3.mk (jC m20) (jC m21) (jC m22)))))), (1, (.d (jN (A3.mk (jC v0) (jC v1) (jC v2)))))], []⟩
 refine jA <| kx [(2, (.ref 0 0)), (3, (.ref 1 0)), (4, (.ref 2 0))] [(0, some (bx (cD (A3.mk (A3.mk (jC m00) (jC m01) (jC m02)) (A3.mk (jC m10) (jC m11) (jC m12)) (A3.mk (jC m20) (jC m21) (jC m22)))))), (1, some (bx (jN (A3.mk (jC v0) (jC v1) (jC v2))))), (2, some (bx (jN (A3.mk (jV.mk (jG.mk false []) (jG.mk false [])) (jV.mk (jG.mk false []) (jG.mk false [])) (jV.mk (jG.mk false []) (jG.mk false []))))))] (zN (vN 0) <| zN (vN 1) <| zN (qP 2 fN fP) <| zZ) ?_
 refine jA ?_
 have bn1 : QL ((m00 * v0) + (m10 * v1)) 40000001 := (uF (k := 40000001) (jI (k := 20000000) hm00 hv0 (by decide)) (jI (k := 20000000) hm10 hv1 (by decide)) (by decide))
 have bn2 : QL ((m01 * v0) + (m11 * v1)) 40000001 := (uF (k := 40000001) (jI (k := 20000000) hm01 hv0 (by decide)) (jI (k := 20000000) hm11 hv1 (by decide)) (by decide))
 have bn3 : QL ((m02 * v0) + (m12 * v1)) 40000001 := (uF (k := 40000001) (jI (k := 20000000) hm02 hv0 (by decide)) (jI (k := 20000000) hm12 hv1 (by decide)) (by decide))
 have bn4 : QL (((m00 * v0) + (m10 * v1)) + (m20 * v2)) 60000002 := (uF (k := 60000002) bn1 (jI (k := 20000000) hm20 hv2 (by decide)) (by decide))
 have bn5 : QL (((m01 * v0) + (m11 * v1)) + (m21 * v2)) 60000002 := (uF (k := 60000002) bn2 (jI (k := 20000000) hm21 hv2 (by decide)) (by decide))
 have bn6 : QL (((m02 * v0) + (m12 * v1)) + (m22 * v2)) 60000002 := (uF (k := 60000002) bn3 (jI (k := 20000000) hm22 hv2 (by decide)) (by decide))
 refine kd [] [(2, some (bx (jN (A3.mk (jC (((m00 * v0) + (m10 * v1)) + (m20 * v2))) (jC (((m01 * v0) + (m11 * v1)) + (m21 * v2))) (jC (((m02 * v0) + (m12 * v1)) + (m22 * v2)))))))] mo (wE (vM ar45 0) <| wR (jZ xJ) <| wE (vM yE 0) <| wR (jZ jR) <| wE (jX (gP m00 m01 m02 (qu hm00) (qu hm01) (qu hm02) v0 (qu hv0))) <| wE (vM ar45 1) <| wR (jZ xJ) <| wE (vM yE 1) <| wR (jZ jR) <| wE (jX (gP m10 m11 m12 (qu hm10) (qu hm11) (qu hm12) v1 (qu hv1))) <| wE (jX (qs_sum (m00 * v0) (m01 * v0) (m02 * v0) (qS (jI (k := 20000000) hm00 hv0 (by decide)) (by decide)) (qS (jI (k := 20000000) hm01 hv0 (by decide)) (by decide)) (qS (jI (k := 20000000) hm02 hv0 (by decide)) (by decide)) (m10 * v1) (m11 * v1) (m12 * v1) (qS (jI (k := 20000000) hm10 hv1 (by decide)) (by decide)) (qS (jI (k := 20000000) hm11 hv1 (by decide)) (by decide)) (qS (jI (k := 20000000) hm12 hv1 (by decide)) (by decide)))) <| wE (vM ar45 2) <| wR (jZ xJ) <| wE (vM yE 2) <| wR (jZ jR) <| wE (jX (gP m20 m21 m22 (qu hm20) (qu hm21) (qu hm22) v2 (qu hv2))) <| wE (jX (qs_sum ((m00 * v0) + (m10 * v1)) ((m01 * v0) + (m11 * v1)) ((m02 * v0) + (m12 * v1)) (qu bn1) (qu bn2) (qu bn3) (m20 * v2) (m21 * v2) (m22 * v2) (qS (jI (k := 20000000) hm20 hv2 (by decide)) (by decide)) (qS (jI (k := 20000000) hm21 hv2 (by decide)) (by decide)) (qS (jI (k := 20000000) hm22 hv2 (by decide)) (by decide)))) <| wT (kU xJ) <| wZ) ?_
 refine jH ⟨_, (kZ (cs := (bx (jN (A3.mk (jC (((m00 * v0) + (m10 * v1)) + (m20 * v2))) (jC (((m01 * v0) + (m11 * v1)) + (m21 * v2))) (jC (((m02 * v0) + (m12 * v1)) + (m22 * v2))))))) (d := (jN (A3.mk (jC (((m00 * v0) + (m10 * v1)) + (m20 * v2))) (jC (((m01 * v0) + (m11 * v1)) + (m21 * v2))) (jC (((m02 * v0) + (m12 * v1)) + (m22 * v2)))))) rfl rfl xJ rfl rfl .nil), ?_⟩
 rfl
end Go.Proofs.YtbecgnplakngdaaGreat
