/- Part 26 of a proof: rules, plain facts, and functions walked. -/
import Derived.Test.YtnajallgoaiahaaGreatDoorM25
namespace Go.Fid
set_option linter.unusedVariables false
set_option linter.unusedSimpArgs false
open Go.RowKit (Below)
abbrev VBlk := Nat × List SV × List kA
inductive VArgs (bl : List VBlk) : List Nat → List (List kA) → Prop
  | nil : VArgs bl [] []
  | cons {k : Nat} {c : List SV} {cs : List kA} {ks : List Nat} {css : List (List kA)} (hk : (k, c, cs) ∈ bl) (h : VArgs bl ks css) : VArgs bl (k :: ks) (cs :: css)
theorem VArgs.len {bl : List VBlk} {ks : List Nat} {css : List (List kA)} (h : VArgs bl ks css) : ks.length = css.length := by
  induction h with
  | nil => rfl
  | cons hk h ih => simp [ih]
theorem VArgs.get {bl : List VBlk} {ks : List Nat} {css : List (List kA)} (h : VArgs bl ks css) : ∀ (i : Nat) k cs, ks[i]? = some k → css[i]? = some cs → ∃ c, (k, c, cs) ∈ bl := by
  induction h with
  | nil => intro i k cs h; simp at h
  | cons hk h ih =>
    intro i k cs h1 h2
    rcases i with _ | i
    · simp at h1 h2; subst h1; subst h2; exact ⟨_, hk⟩
    · exact ih i k cs (by simpa using h1) (by simpa using h2)
inductive See (bl : List VBlk) (E : TypeId) : SV → kA → Prop
  | d {x : kA} : See bl E (.d x) x
  | r {k o : Nat} {c : List SV} {cs : List kA} (hk : (k, c, cs) ∈ bl) : See bl E (.ref k o) (.cptr E cs o)
  | s {k n s : Nat} {t : TypeId} {c : List SV} {cs es : List kA} (hk : (k, c, cs) ∈ bl) (hes : ∀ e ∈ es, e.cells.length = s) (hl : es.length = n) (hc : cs.take (n * s) = flat es) : See bl E (.own k t s n) (.sl E s es)
  | x {k o b : Nat} {c : List SV} {cs : List kA} (hk : (k, c, cs) ∈ bl) : See bl E (.refx k o b) (.cptr E cs o)
  | f {g : FuncId} {ks : List Nat} {css : List (List kA)} (hk : VArgs bl ks css) : See bl E (.clo g ks) (.clo g (css.map fun cs => .cptr E cs 0))
inductive Sees (bl : List VBlk) (E : TypeId) : List SV → List kA → Prop
  | nil : Sees bl E [] []
  | cons {x : SV} {d : kA} {c : List SV} {cs : List kA} (h : See bl E x d) (hr : Sees bl E c cs) : Sees bl E (x :: c) (d :: cs)
  | all {c : List SV} {cs : List kA} (h : c = cs.map SV.d) : Sees bl E c cs
theorem Sees.len {bl : List VBlk} {E : TypeId} {c : List SV} {cs : List kA} (h : Sees bl E c cs) : c.length = cs.length := by
  induction h with
  | nil => rfl
  | cons h hr ih => simp [ih]
  | all h => subst h; simp
theorem Sees.get {bl : List VBlk} {E : TypeId} {c : List SV} {cs : List kA} (h : Sees bl E c cs) : ∀ (i : Nat) x d, c[i]? = some x → cs[i]? = some d → See bl E x d := by
  induction h with
  | nil => intro i x d h; simp at h
  | cons h hr ih =>
    intro i x d h1 h2
    rcases i with _ | i
    · simp at h1 h2; subst h1; subst h2; exact h
    · exact ih i x d (by simpa using h1) (by simpa using h2)
  | all h =>
    intro i x d h1 h2
    subst h
    rw [List.getElem?_map, h2] at h1
    simp at h1; subst h1; exact .d
theorem fL {α : Type} {bl : List VBlk} {E k s n : Nat} {t : TypeId} {c : List SV} {F : α → kA} {L : List α} (hk : (k, c, flat (L.map F)) ∈ bl) (hF : ∀ x, (F x).cells.length = s) (hl : L.length = n) : See bl E (.own k t s n) (.sl E s (L.map F)) :=
  .s hk (map_celllen F hF L) (by simpa using hl) (by
    refine List.take_of_length_le ?_
    rw [nE F hF, hl]
    exact Nat.le_refl _)
theorem sees_bm {α : Type} {bl : List VBlk} {E : TypeId} {F : α → kA} {L : List α} (hF : ∀ x, (F x).cells = [F x]) : Sees bl E (L.map fun g => SV.d (F g)) (flat (L.map F)) := by
  refine .all ?_
  induction L with
  | nil => rfl
  | cons x L ih => simp only [List.map_cons, cR, hF, List.singleton_append, ih]
inductive VBlks (E : TypeId) : List VBlk → Prop
  | nil : VBlks E []
  | cons {k : Nat} {c : List SV} {cs : List kA} {bl : List VBlk} (h : Sees bl E c cs) (hr : VBlks E bl) : VBlks E ((k, c, cs) :: bl)
def SeenB (w : World) (D' : qJ) (β : qE) (E : TypeId) (p : VBlk) : Prop :=
  (β p.1 = none → p.2.2 = []) ∧ ∀ b, β p.1 = some b → (∀ i, D' E b i) ∧ ∃ us T', w.heap[b]? = some (.cells us T' (0, 0)) ∧ ∀ (j : Nat) d, p.2.2[j]? = some d → ∃ u, us[j]? = some u ∧ u.oneCell' = true ∧ uY w D' u d
section
variable {w : World} {D D' : qJ} {β : qE} {bl : List VBlk} {E : TypeId}
theorem seen_ptr {k o : Nat} {c : List SV} {cs : List kA} {v : Value} (hb : SeenB w D' β E (k, c, cs)) (hv : qG w D β v (.ref k o)) : uY w D' v (.cptr E cs o) := by
  obtain ⟨b, h1, h2⟩ := hv
  obtain ⟨hD, us, T', g2, g4⟩ := hb.2 b h1
  rw [h2]
  have hcell : ∀ i, w.cell? ⟨b, i, none⟩ = us[i]? := fun i => cell_of_row w b i us T' (0, 0) g2
  have hp := uY.cptr (w := w) (D := D') (t := E) (cs := cs) (off := o) b 0 (fun i => us.getD i undef) (fun i hi => hD _) (fun i hi => by
    obtain ⟨x, q1, q2, q3⟩ := g4 i _ (List.getElem?_eq_getElem hi)
    rw [Nat.zero_add, hcell, Array.getD_eq_getD_getElem?, q1]; rfl) (fun i hi => by
    obtain ⟨x, q1, q2, q3⟩ := g4 i _ (List.getElem?_eq_getElem hi)
    rw [Array.getD_eq_getD_getElem?, q1]; exact q2) (fun i d hd => by
    obtain ⟨x, q1, q2, q3⟩ := g4 i d hd
    rw [Array.getD_eq_getD_getElem?, q1]
    exact q3)
  rw [Nat.zero_add] at hp
  exact hp
theorem see_rep (hm : ∀ t g i, D t g i → D' t g i) (hB : ∀ p ∈ bl, SeenB w D' β E p) {x : SV} {d : kA} (h : See bl E x d) {v : Value} (hv : qG w D β v x) : uY w D' v d := by
  cases h with
  | d => exact uY.mono (fun t g i hd => ⟨hm _ _ _ hd, rfl⟩) hv
  | r hk => exact seen_ptr (hB _ hk) hv
  | x hk => exact seen_ptr (D := D) (hB _ hk) ⟨_, hv.1, hv.2⟩
  | s hk hes hl hc =>
    rename_i k n s t c cs es
    rcases hv with ⟨h1, h2, h3⟩ | ⟨b, cap, vs, h1, h2, h3, h4, h5, h6⟩
    · have hn : es = [] := List.eq_nil_of_length_eq_zero (by rw [hl, h2])
      subst hn
      rw [h3]; exact fK w D' E s
    · obtain ⟨hD, us, T', g2, g4⟩ := (hB _ hk).2 b h1
      rw [h2]
      have hfl := vI hes
      have hcell : ∀ i, w.cell? ⟨b, i, none⟩ = us[i]? := fun i => cell_of_row w b i us T' (0, 0) g2
      have key : ∀ (i : Nat) d, (flat es)[i]? = some d → ∃ u, us[0 + i]? = some u ∧ u.oneCell' = true ∧ uY w D' u d := fun i d hd => by
        have hi : i < n * s := by
          have := (List.getElem?_eq_some_iff.1 hd).1
          rw [hfl, hl] at this; exact this
        have e1 : cs[i]? = some d := by
          rw [← hc, List.getElem?_take_of_lt hi] at hd
          exact hd
        rw [Nat.zero_add]
        exact g4 _ d e1
      refine uY.sl b 0 (fun i => us.getD (0 + i) undef) hl.symm h5 h6 hes (fun _ => rfl) (fun i hi => hD _) (fun i hi => ?_) (fun i hi => ?_) (fun i d hd => ?_)
      · obtain ⟨x, q1, q2, q3⟩ := key i _ (List.getElem?_eq_getElem hi)
        rw [hcell, Array.getD_eq_getD_getElem?, q1]; rfl
      · obtain ⟨x, q1, q2, q3⟩ := key i _ (List.getElem?_eq_getElem hi)
        rw [Array.getD_eq_getD_getElem?, q1]; exact q2
      · obtain ⟨x, q1, q2, q3⟩ := key i d hd
        rw [Array.getD_eq_getD_getElem?, q1]
        exact q3
  | f hk =>
    obtain ⟨us, e1, e2, e3⟩ := hv
    rw [e1]
    refine .clo us (by rw [e2, hk.len, List.length_map]) fun j u d hu hd => ?_
    rw [List.getElem?_map, Option.map_eq_some_iff] at hd
    obtain ⟨cs, hcs, rfl⟩ := hd
    have hlt : j < _ := (List.getElem?_eq_some_iff.1 hcs).1
    rw [← hk.len] at hlt
    obtain ⟨b, g1, g2⟩ := e3 j _ (List.getElem?_eq_getElem hlt)
    rw [hu] at g2
    injection g2 with g2
    obtain ⟨c, hc⟩ := hk.get j _ cs (List.getElem?_eq_getElem hlt) hcs
    exact seen_ptr (D := D) (o := 0) (hB _ hc) ⟨b, g1, g2⟩
theorem blks_seen (hm : ∀ t g i, D t g i → D' t g i) (hX : ∀ p ∈ bl, ∀ b, β p.1 = some b → ∀ i, D' E b i) (hbl : ∀ p ∈ bl, vC w D β p.1 p.2.1) (h : VBlks E bl) : ∀ p ∈ bl, SeenB w D' β E p := by
  induction h with
  | nil => intro p hp; simp at hp
  | @cons k c cs bl h hr ih =>
    have ih' := ih (fun p hp => hX p (.tail _ hp)) (fun p hp => hbl p (.tail _ hp))
    intro p hp
    rcases List.mem_cons.1 hp with rfl | hp
    · rcases hbl (k, c, cs) (.head _) with ⟨g1, g2⟩ | ⟨b, us, T', g1, g2, g3, g4, g5⟩
      · refine ⟨fun _ => ?_, fun b hb => ?_⟩
        · have := h.len
          have g2 : c = [] := g2
          rw [g2] at this
          exact List.eq_nil_of_length_eq_zero this.symm
        · rw [show β k = none from g1] at hb; cases hb
      · refine ⟨fun hn => absurd hn (by rw [show β k = some b from g1]; simp), fun b' hb => ?_⟩
        obtain rfl : b = b' := by rw [show β k = some b from g1] at hb; injection hb
        refine ⟨hX _ (.head _) _ hb, us, T', g2, fun j d hd => ?_⟩
        have hlt : j < c.length := by rw [h.len]; exact (List.getElem?_eq_some_iff.1 hd).1
        obtain ⟨u, e1, e2, e3⟩ := g4 j _ (List.getElem?_eq_getElem hlt)
        exact ⟨u, e1, e2, see_rep hm ih' (h.get j _ d (List.getElem?_eq_getElem hlt) hd) e3⟩
    · exact ih' p hp
end
section
variable {P : Program} {o : Oper} {S : Nat → SV}
theorem fnv_run {w : World} {D : qJ} {β : qE} {a : Act} {y : Operand} {args : List Operand} {ats : Array TypeId} {ex : List SV} {f : FuncId} (hop : ∀ q ∈ o.op.operands, qG w D β (a.eval q) (ev S q)) (ho : o.op = .call { callee := .value y, args := args.toArray, argTypes := ats })
    (hm : callB P f = true) (hy : FnV S y f ex) : ∃ us : List Value, (execOp a.eval o).run P w = .ok (.enter f (args.map a.eval ++ us).toArray) w ∧ us.length = ex.length ∧ ∀ (i : Nat) v x, us[i]? = some v → ex[i]? = some x → qG w D β v x := by
  have hyv := hop y (by simp [ho, Op.operands, Call.operands])
  cases hy with
  | fn h =>
    rw [h] at hyv
    have hv := vM hyv
    refine ⟨[], ?_, rfl, fun i v x h => by simp at h⟩
    simp only [execOp, ho, resolve, Deferred.ofValue, hv, Sem.run_bind, Sem.run_pure, Result.andThen_ok, invoke, Array.empty_append, Array.append_empty]
    rw [vA hm]
    simp
  | @clo kk _ h he =>
    rw [h] at hyv
    obtain ⟨vs, hv1, hv2, hv3⟩ := hyv
    refine ⟨vs, ?_, by rw [← he]; simpa using hv2, fun i v x hvi hxi => ?_⟩
    · simp only [execOp, ho, resolve, Deferred.ofValue, hv1, Sem.run_bind, Sem.run_pure, Result.andThen_ok, invoke, Array.empty_append]
      rw [vA hm]
      simp
    · rw [← he, List.getElem?_map, Option.map_eq_some_iff] at hxi
      obtain ⟨k, hk, rfl⟩ := hxi
      obtain ⟨b, g1, g2⟩ := hv3 i k hk
      rw [hvi] at g2
      injection g2 with g2
      exact ⟨b, g1, g2⟩
  | @dat caps _ h he =>
    rw [h] at hyv
    generalize hq : a.eval y = q at hyv
    cases hyv with
    | clo vs hl hr =>
      refine ⟨vs, ?_, by rw [← he]; simpa using hl, fun i v x hvi hxi => ?_⟩
      · simp only [execOp, ho, resolve, Deferred.ofValue, hq, Sem.run_bind, Sem.run_pure, Result.andThen_ok, invoke, Array.empty_append]
        rw [vA hm]
        simp
      · rw [← he, List.getElem?_map, Option.map_eq_some_iff] at hxi
        obtain ⟨k, hk, rfl⟩ := hxi
        exact hr i v k hvi hk
theorem e_clh {y : Operand} {xs : List Operand} {ats : Array TypeId} {f : FuncId} {ds : List kA} {r : kA} {zs ex : List SV} {E : TypeId} {bl : List VBlk} (hf : jT P f ds r) (ho : o.op = .call { callee := .value y, args := xs.toArray, argTypes := ats }) (hy : FnV S y f ex)
    (hx : xs.map (ev S) ++ ex = zs) (hz : Sees bl E zs ds) (hb : VBlks E bl) (ha : zD E r) : uT P o S (bl.map fun p => (p.1, p.2.1)) (.d r) :=
  fun a w D β Q hop hrd hD => by
    obtain ⟨us, hrun, hul, hur⟩ := fnv_run hop ho hf.may hy
    have qZ : (xs.map a.eval ++ us).length = zs.length := by
      rw [← hx]; simp [hul]
    have hrep : ∀ (i : Nat) v x, (xs.map a.eval ++ us)[i]? = some v → zs[i]? = some x → qG w D β v x := fun i v x hv hz' => by
      rw [← hx] at hz'
      by_cases hlt : i < xs.length
      · rw [List.getElem?_append_left (by simpa using hlt)] at hv hz'
        rw [List.getElem?_map, Option.map_eq_some_iff] at hv
        obtain ⟨p, hqi, rfl⟩ := hv
        have hm := hop p (by simp [ho, Op.operands, Call.operands, List.mem_of_getElem? hqi])
        rw [List.getElem?_map, hqi, Option.map_some, Option.some.injEq] at hz'
        rw [← hz']; exact hm
      · rw [List.getElem?_append_right (by simpa using hlt)] at hv hz'
        simp only [List.length_map] at hv hz'
        exact hur _ v _ hv hz'
    have hbl : ∀ p ∈ bl, vC w D β p.1 p.2.1 := fun p hp => hrd (p.1, p.2.1) (List.mem_map_of_mem (f := fun p : VBlk => (p.1, p.2.1)) hp)
    let X : TypeId → Nat → Nat → Prop := fun t g _ => t = E ∧ ∃ p ∈ bl, β p.1 = some g
    have hXp : ∀ t g i, X t g i → t = E ∧ ∀ t' i', ¬ D t' g i' := fun t g i ⟨h1, p, hp, hb⟩ => by
      rcases hbl p hp with ⟨g1, _⟩ | ⟨b', us, T', g1, g2, g3, g4, g5⟩
      · rw [hb] at g1; cases g1
      · obtain rfl : g = b' := by rw [hb] at g1; injection g1
        exact ⟨h1, g5⟩
    have hD' : DOk (fun t g i => D t g i ∨ X t g i) w := fun t g i hd => by
      rcases hd with hd | ⟨_, p, hp, hb⟩
      · exact hD _ _ _ hd
      · obtain ⟨vs, T, f', hh⟩ := aZ (hbl p hp) hb
        exact uP hh
    have hm : ∀ t g i, D t g i → (D t g i ∨ X t g i) := fun t g i hd => .inl hd
    have hseen := blks_seen (D' := fun t g i => D t g i ∨ X t g i) hm (fun p hp b hb i => .inr ⟨rfl, p, hp, hb⟩) hbl hb
    have hargs : Args w (fun t g i => D t g i ∨ X t g i) (xs.map a.eval ++ us) ds := ⟨qZ.trans hz.len, fun i v d hv hd => by
      have hlt : i < zs.length := by rw [hz.len]; exact (List.getElem?_eq_some_iff.1 hd).1
      exact see_rep hm hseen (hz.get i _ d (List.getElem?_eq_getElem hlt) hd) (hrep i v _ hv (List.getElem?_eq_getElem hlt))⟩
    refine nB hrun ((hf.run w _ _ hD' hargs).mono fun e w' h => ?_)
    obtain ⟨v, D2, he, h1, h2, h3⟩ := h
    refine ⟨v, he, v, fun t g i => D2 t g i ∧ ¬ X t g i, rfl, h1, ⟨fun t g i hd => ⟨h2.up _ _ _ (.inl hd), fun hx' => (hXp t g i hx').2 t i hd⟩, fun t g i hd => ?_⟩, ?_⟩
    · rcases h2.new t g i hd.1 with h | h
      · rcases h with h | h
        · exact .inl h
        · exact absurd h hd.2
      · exact .inr h
    · exact ha.rep (fun t g i hne hd => ⟨hd, fun hx' => hne (hXp t g i hx').1⟩) h3
end
theorem oCh {P : Program} {o : Oper} {S : SL} {B : BS} {y : Operand} {xs : List Operand} {ats : Array TypeId} {f : FuncId} {ds : List kA} {r : kA} {ex : List SV} (bl : List VBlk) (zs : List SV) (hf : jT P f ds r) (hz : Sees bl 1000000 zs ds) (hv : VBlks 1000000 bl) (ha : zD 1000000 r)
    (ho : o.op = .call { callee := .value y, args := xs.toArray, argTypes := ats } := by exact rfl) (hy : FnV (kG S) y f ex := by first | exact .fn (by kernel_rfl) | exact .clo (by kernel_rfl) (by kernel_rfl) | exact .dat (by kernel_rfl) (by kernel_rfl)) (hx : xs.map (ev (kG S)) ++ ex = zs := by kernel_rfl)
    (hb : bl.map (fun p => kF B p.1) = bl.map (fun p => some p.2.1) := by kernel_rfl) {ks : List Nat} (hks : bl.map (·.1) = ks := by exact rfl) : RKs P o S B ks (.d r) := by
  refine ⟨bl.map fun p => (p.1, p.2.1), by rw [List.map_map]; exact hks, e_clh hf ho hy hx hz hv ha, fun p hp => ?_⟩
  obtain ⟨q, hq, rfl⟩ := List.mem_map.1 hp
  exact List.map_inj_left.1 hb q hq
section
variable {P : Program} {n : Fr} {ops : Array Oper} {K : SL → BS → Prop} {S : SL} {B : BS} {l : List Oper} {o : Oper} {news : List Nat} {acc0 : List (List Nat × List Nat)}
end
section
variable {P : Program} {n : Fr} {ops : Array Oper} {K : SL → BS → Prop} {S : SL} {B : BS} {l : List Oper} {o : Oper} {α : Type} {T E t' : TypeId} {x y : Operand} {k s m bytes : Nat} {zv : List Value}
variable {news : List Nat} {acc0 : List (List Nat × List Nat)}
theorem wAS (k' : Nat) (F : α → kA) (L L' : List α) (hL : L.length = m) (hT : uZ P T = some (E, s)) (hz : xH P E = some zv) (hby : xW P E = some bytes) (r : DK P n ops K (k' :: news) (acc0 ++ [([k], [k', k])]) ((dO o, .own k' E s (L ++ L').length) :: S) ((k', some (qQ F (L ++ L'))) :: (k, none) :: B) l)
    (ho : o.op = .call { callee := .builtin .append, args := #[x, y], argTypes := #[T, T] } := by exact rfl) (g : goK n ops S o = true := by kernel_rfl) (hx : ev (kG S) x = .own k E s m := by exact rfl) (hb : kF B k = some (qQ F L) := by kernel_rfl) (hy : ev (kG S) y = .d (.sl t' s (L'.map F)) := by exact rfl) (hF : ∀ g, (F g).cells.length = s := by intro g; kernel_rfl) (hzl : zv.length = s := by kernel_rfl)
    (hpos : Nat.blt 0 L'.length = true := by kernel_rfl) (hbig : m + L'.length ≤ maxLen := by first | (simp only [List.length_cons, List.length_nil, maxLen]; omega) | (simp [maxLen]; omega)) (hbig' : (m + L'.length) * bytes ≤ 140737488355328 := by first | omega | (simp only [List.length_cons, List.length_nil]; omega) | (simp; omega))
    (hne : Nat.beq k k' = false := by kernel_rfl) (h1 : (S.all fun p => !p.2.names k') = true := by kernel_rfl)
    (h2 : FrB k' B := by repeat first | exact frb_nil _ | refine frb_map rfl ?_ | refine frb_d rfl ?_ | refine frb_cs rfl rfl ?_ | refine bF rfl ?_) (hn : clear1 news (.own k' E s 0) = true := by kernel_rfl) : DK P n ops K news acc0 S B (o :: l) := by
  obtain ⟨st1, acc, r1, r0, r2⟩ := r
  obtain ⟨hd, hg, hdB⟩ := zJ g
  have h := app_local (P := P) (o := o) (S := kG S) (k := k) (k' := k') (cs := qQ F L) (es' := L'.map F) ho hT hz hzl hby hx (zY k' id _) (by rw [List.length_map, nE F hF, hL]) hy (by rw [List.length_map]; exact Nat.le_of_ble_eq_true hpos) (by simpa using hbig) (by simpa using hbig')
  have e1 : qQ F L ++ (flat (L'.map F)).map .d = qQ F (L ++ L') := by
    show (flat (L.map F)).map SV.d ++ (flat (L'.map F)).map SV.d = (flat ((L ++ L').map F)).map SV.d
    rw [List.map_append, fR, List.map_append]
  have e2 : m + (L'.map F).length = (L ++ L').length := by rw [List.length_map, List.length_append, hL]
  rw [e1, e2] at h
  have hs := nH.a (P := P) (n := n) (ops := ops) (news := news) (st := ⟨S, B⟩) (o := o) h hg (by rw [hd]; exact hdB) hb (eK h1 h2) (cB hne) hn (clearL_map _ id _)
  rw [hd] at hs
  exact ⟨st1, ([k], [k', k]) :: acc, .cons hs r1, by simpa using r0, r2⟩
end
def xn (p q j : Nat) : Nat := if j = p then q else if j = q then p else j
theorem xn_xn (p q j : Nat) : xn p q (xn p q j) = j := by
  unfold xn
  by_cases h1 : j = p
  · subst h1
    by_cases h2 : q = j
    · subst h2; simp
    · simp [h2]
  · by_cases h2 : j = q
    · subst h2
      simp [h1]
    · simp [h1, h2]
theorem takesS_ren {P : Program} {f : FuncId} {xs : List SV} {B : BS} {r : SV} {B' B2 : BS} (p q : Nat) (h : gB P f xs B r B') (hB : B2.map (fun e => (e.1, e.2.map fun c => c.map (SV.ren (xn p q)))) = B'.map (fun e => (xn p q e.1, e.2))) (hr : r.ren (xn p q) = r) (hx : (xs.all fun x => !x.pins p && !x.pins q) = true) : gB P f xs B r B2 :=
  ⟨h.may, fun w D β vs hD hm hl ha => (h.run w D β vs hD hm hl ha).mono fun e w' ⟨v, D', β', he, s⟩ => by
    have hinv : (fun j => (fun k => β' (xn p q k)) (xn p q j)) = β' := funext fun j => by show β' (xn p q (xn p q j)) = β' j; rw [xn_xn]
    -- a block of B2 is a block of B' under the other number
    have key : ∀ {l l' : BS}, l.map (fun e => (e.1, e.2.map fun c => c.map (SV.ren (xn p q)))) = l'.map (fun e => (xn p q e.1, e.2)) → ∀ {k c}, kF l k = some c → kF l' (xn p q k) = some (c.map (SV.ren (xn p q))) := by
      intro l
      induction l with
      | nil => intro l' _ k c h; simp [kF] at h
      | cons e l ih =>
        intro l' hl k c hk
        obtain ⟨j, x⟩ := e
        cases l' with
        | nil => simp at hl
        | cons e' l' =>
          obtain ⟨j', x'⟩ := e'
          simp only [List.map_cons, List.cons.injEq, Prod.mk.injEq] at hl
          obtain ⟨⟨h1, h2⟩, h3⟩ := hl
          rw [jL] at hk
          rw [jL]
          split at hk
          · rename_i ejk
            subst ejk
            rw [if_pos (by rw [h1, xn_xn]), ← h2, hk]; rfl
          · rename_i hne
            rw [if_neg (fun e => hne (by rw [h1, e, xn_xn]))]
            exact ih h3 hk
    have hmem : ∀ {k c}, kF B2 k = some c → kF B' (xn p q k) = some (c.map (SV.ren (xn p q))) := key hB
    refine ⟨v, D', fun k => β' (xn p q k), he, s.below, s.keep, s.oth, s.up, s.new, s.dok, ⟨fun k c hk => ?_, fun k1 k2 c1 c2 q1 q2 b e1 e2 => ?_⟩, fun k c hk b hb => s.high _ _ (hmem hk) b hb, fun i x hi k hk => ?_, ?_⟩
    · have := s.mem.ok _ _ (hmem hk)
      exact (blk_ren (xn p q)).1 this
    · have := s.mem.inj _ _ _ _ (hmem q1) (hmem q2) b e1 e2
      rw [← xn_xn p q k1, this, xn_xn]
    · have hall := List.all_eq_true.1 hx x (List.mem_of_getElem? hi)
      rw [Bool.and_eq_true, Bool.not_eq_true', Bool.not_eq_true'] at hall
      have h1 : k ≠ p := fun e => by subst e; rw [hk] at hall; cases hall.1
      have h2 : k ≠ q := fun e => by subst e; rw [hk] at hall; cases hall.2
      show β' (xn p q k) = β k
      rw [show xn p q k = k by unfold xn; rw [if_neg h1, if_neg h2]]
      exact s.same i x hi k hk
    · have := s.res
      rw [← hr] at this
      exact (repS_ren (xn p q)).1 this⟩
section
variable {P : Program} {N : Fr} {c : Code} {Q : Exit → PS → Prop} {S : SL} {B : BS}
end
section
variable {P : Program} {n : Fr} {ops : Array Oper} {K : SL → BS → Prop} {S : SL} {l : List Oper} {o : Oper}
def SV.isD : SV → Bool
  | .d _ => true
  | _ => false
end
section
variable {P : Program} {n : Fr} {ops : Array Oper} {K : SL → BS → Prop} {S S0 S1 : SL} {B B0 B1 : BS} {l : List Oper} {o : Oper} {news : List Nat} {acc0 : List (List Nat × List Nat)}
end
end Go.Fid
