/- Part 11 of a proof: rules, plain facts, and functions walked. -/
import Derived.Test.YtihgdjljnaekmaaGreatM8
import Derived.Test.YtihgdjljnaekmaaGreatM10
namespace Go.Fid
open Go.RowKit (Below)
theorem sim_put {C : Ctx} {a : Act} {w : World} {S : SL} {B : BS} {D : DSet} {β : BMap} {t : Tmp} {v : Value} {x : SV} (h : SimAt C a w ⟨S, B⟩ D β) (hd : dstB C.n (some t) = true) (hx : RepS w D β v x) : SimAt C (a.put (some t) v) w ⟨(t, x) :: S, B⟩ D β :=
  ⟨h.base.put hd _, h.mem, h.high, fun u => by
    show RepS w D β ((a.put (some t) v).tmps.getD u undef) (sget ((t, x) :: S) u)
    rw [put_getD h.base.size hd, sget_cons]
    by_cases e : t = u
    · rw [if_pos e, if_pos (by rw [e])]; exact hx
    · rw [if_neg e, if_neg (fun e' => e (by injection e'))]; exact h.slots u⟩
theorem pwp_nilq {P : Program} {n : Fr} {S : SL} {B : BS} {Q : Exit → PS → Prop} {id : Nat} {o1 o2 : Oper} {t0 ta tb : Tmp} {T T' E t : TypeId} {s s' : Nat} {es : List Dat}
    (h1 : o1.op = .move (.tmp t0)) (h1d : o1.dst = some ta) (h1g : o1.guard = none) (h2 : o2.op = .binOp .eql T (.tmp ta) (.const (.slice none 0 0)) T') (h2d : o2.dst = some tb) (h2g : o2.guard = none)
    (hT : elemB P T = some (E, s)) (hda : dstB n (some ta) = true) (hdb : dstB n (some tb) = true) (hx : sget S t0 = .d (.sl t s' es))
    (hq : ∀ b : Bool, (b = true → es = []) → Q .normal ⟨(tb, .d (.val (.bool b))) :: (ta, .d (.sl t s' es)) :: S, B⟩) : PWp P n (.region id #[o1, o2] false) Q ⟨S, B⟩ := fun C a w N hn hs => by
  subst hn
  obtain ⟨D, β, hs⟩ := hs
  have hv := hs.slots t0
  have hv' : RepS w D β (a.tmps.getD t0 undef) (sget S t0) := hv
  rw [hx] at hv'
  have hev : a.eval (.tmp t0) = a.tmps.getD t0 undef := rfl
  generalize a.tmps.getD t0 undef = v at hv' hev
  have hv'' : Rep w D v (.sl t s' es) := hv'
  obtain ⟨i, f1, f2, f3⟩ := elem_of hT
  cases hv'' with
  | sl g off u hnn hcc hmm hss ha hD hu hone hrr =>
  rename_i ad len cap
  subst hnn
  have hp1 : plainB o1 = true := by simp [plainB, h1]
  have hp2 : plainB o2 = true := by simp [plainB, h2]
  have hs1 := sim_put hs hda hv'
  have hs2 := sim_put (v := .bool ad.isNone) hs1 hdb (x := .d (.val (.bool ad.isNone))) (Rep.val _)
  refine wpIn_region_lit (wpListIn_plain h1g fun K1 hK1 => op_lift hp1 (wp_value (v := .slice ad es.length cap) (w' := w) ?_ (hK1 _ _ (wpListIn_plain h2g fun K2 hK2 => op_lift hp2 (wp_value (v := .bool ad.isNone) (w' := w) ?_ (hK2 _ _ (wpListIn_nil ?_)))))))
  · simp only [execOp, h1, hev, Sem.run_pure]
  · have hta : (a.put o1.dst (Value.slice ad es.length cap)).eval (.tmp ta) = .slice ad es.length cap := by
      show (a.put o1.dst (Value.slice ad es.length cap)).tmps.getD ta undef = _
      rw [h1d, put_getD hs.base.size hda, if_pos rfl]
    have hce : (a.put o1.dst (Value.slice ad es.length cap)).eval (.const (.slice none 0 0)) = .slice none 0 0 := rfl
    have heq : ∀ d : Nat, (Op.equalIn (d + 1) T (.slice ad es.length cap) (.slice none 0 0)).run P w = .ok ad.isNone w := fun d => by
      cases ad <;> simp [Op.equalIn, run_underlying f1]
    have heq' : (Op.equal T (.slice ad es.length cap) (.slice none 0 0)).run P w = .ok ad.isNone w := heq 9999
    simp only [execOp, h2, hta, hce]
    simp [eqGuard, binOp, heq']
  · rw [h1d, h2d]
    refine ⟨_, ⟨D, β, hs2⟩, hq _ fun hb => ?_⟩
    cases ad with
    | none =>
      refine List.eq_nil_of_length_eq_zero ?_
      rcases Nat.eq_zero_or_pos es.length with h | h
      · exact h
      · have := ha h; cases this
    | some x => cases hb
end Go.Fid
namespace Go.Fid
set_option linter.unusedVariables false
set_option linter.unusedSimpArgs false
open Go.RowKit (Below)
theorem publish_core {C : Ctx} {a : Act} {w : World} {st : PS} {D : DSet} {β : BMap} {k s m : Nat} {T : TypeId} {cs : List SV} {es : List Dat} (h : SimAt C a w st D β) (hb : bget st.bs k = some cs) (hes : ∀ e ∈ es, e.cells.length = s) (hl : es.length = m) (hc : cs.take (m * s) = (flat es).map .d) :
    ∃ D', SimAt C a w ⟨st.sl, (k, none) :: st.bs⟩ D' β ∧ ∀ v D2, RepS w D2 β v (.own k T s m) → Rep w D' v (.sl T s es) := by
  have hfl := flat_length hes
  have hbs : ∀ {j : Nat} {c : List SV}, bget ((k, none) :: st.bs) j = some c → j ≠ k ∧ bget st.bs j = some c := fun {j c} hj => by
    rw [bget_cons] at hj
    split at hj
    · cases hj
    · rename_i e; exact ⟨fun e' => e e'.symm, hj⟩
  rcases h.mem.ok k cs hb with ⟨g1, hcs⟩ | ⟨b, vs, T', g1, g2, g3, g4, g5⟩
  · refine ⟨D, ⟨h.base, ⟨fun j c hj => h.mem.ok j c (hbs hj).2, fun j1 j2 c1 c2 q1 q2 => h.mem.inj j1 j2 c1 c2 (hbs q1).2 (hbs q2).2⟩, fun j c hj => h.high j c (hbs hj).2, h.slots⟩, fun v D2 hv => ?_⟩
    rcases hv with ⟨_, e2, e3⟩ | ⟨b, cap, vs, h1, _⟩
    · rw [e2] at hl
      have hn : es = [] := List.eq_nil_of_length_eq_zero hl
      subst hn
      rw [e3]; exact rep_nil w D T s
    · rw [h1] at g1; cases g1
  · have hlt := heap_lt g2
    have hmono : ∀ t' g o, D t' g o → (D t' g o ∨ (t' = T ∧ g = b ∧ o < m * s)) ∧ w.cell? ⟨g, o, none⟩ = w.cell? ⟨g, o, none⟩ := fun t' g o hd => ⟨.inl hd, rfl⟩
    have hS : ∀ {v x}, RepS w D β v x → RepS w (fun t' g o => D t' g o ∨ (t' = T ∧ g = b ∧ o < m * s)) β v x := fun {v x} hr => by
      cases x with
      | d x => exact Rep.mono hmono hr
      | ref k o => exact hr
      | own k t s n => exact hr
      | clo f ks => exact hr
      | emp => exact hr
      | view k o n => exact hr
      | hob u b ob => exact hr
      | pr k t s n x => obtain ⟨v1, v2, e, h1, h2⟩ := hr; exact ⟨v1, v2, e, h1, Rep.mono hmono h2⟩
      | junk => trivial
    refine ⟨fun t' g o => D t' g o ∨ (t' = T ∧ g = b ∧ o < m * s), ⟨⟨h.base.defers, h.base.size, h.base.keep, h.base.oth, h.base.pin, h.base.below, fun t' g o hd => .inl (h.base.dmono _ _ _ hd), fun t' g o hd => ?_, fun t' g o hd => ?_⟩, ⟨fun j c hj => ?_, fun j1 j2 c1 c2 q1 q2 => h.mem.inj j1 j2 c1 c2 (hbs q1).2 (hbs q2).2⟩, fun j c hj => h.high j c (hbs hj).2, fun u => hS (h.slots u)⟩, fun v D2 hv => ?_⟩
    · rcases hd with hd | ⟨_, e, _⟩
      · exact h.base.dnew _ _ _ hd
      · subst e; exact .inr (h.high k cs hb g g1)
    · rcases hd with hd | ⟨_, e, _⟩
      · exact h.base.dok _ _ _ hd
      · subst e; exact hlt
    · obtain ⟨hne, hj'⟩ := hbs hj
      rcases h.mem.ok j c hj' with q | ⟨b2, vs2, T2, q1, q2, q3, q4, q5⟩
      · exact .inl q
      · refine .inr ⟨b2, vs2, T2, q1, q2, q3, fun i x hx => ?_, fun t' o hd => ?_⟩
        · obtain ⟨u, e1, e2, e3⟩ := q4 i x hx
          exact ⟨u, e1, e2, hS e3⟩
        · rcases hd with hd | ⟨_, e, _⟩
          · exact q5 _ _ hd
          · subst e; exact hne (h.mem.inj j k _ _ hj' hb b2 q1 g1)
    · rcases hv with ⟨e1, _, _⟩ | ⟨b2, cap, vs2, h1, h2, h3, h4, h5, h6⟩
      · rw [e1] at g1; cases g1
      · obtain rfl : b = b2 := by rw [h1] at g1; injection g1 with g1; exact g1.symm
        rw [h3] at g2
        injection g2 with g2
        injection g2 with g2 gT
        subst g2; subst gT
        rw [h2]
        have key : ∀ (i : Nat) d, (flat es)[i]? = some d → ∃ u, vs2[i]? = some u ∧ u.oneCell' = true ∧ Rep w D u d := fun i d hd => by
          have hi : i < m * s := by
            have := (List.getElem?_eq_some_iff.1 hd).1
            rw [hfl, hl] at this; exact this
          have e1 : cs[i]? = some (.d d) := by
            have : (cs.take (m * s))[i]? = some (.d d) := by rw [hc]; simp [hd]
            rwa [List.getElem?_take_of_lt hi] at this
          exact g4 i _ e1
        have hcell : ∀ i, w.cell? ⟨b, i, none⟩ = vs2[i]? := fun i => cell_of_row w b i vs2 T (0, 0) h3
        refine Rep.sl b 0 (fun i => vs2.getD i undef) hl.symm h5 h6 hes (fun _ => rfl) (fun i hi => .inr ⟨rfl, rfl, by rw [Nat.zero_add, ← hl, ← hfl]; exact hi⟩) (fun i hi => ?_) (fun i hi => ?_) (fun i d hd => ?_)
        · obtain ⟨x, q1, q2, q3⟩ := key i _ (List.getElem?_eq_getElem hi)
          rw [Nat.zero_add, hcell, Array.getD_eq_getD_getElem?, q1]; rfl
        · obtain ⟨x, q1, q2, q3⟩ := key i _ (List.getElem?_eq_getElem hi)
          rw [Array.getD_eq_getD_getElem?, q1]; exact q2
        · obtain ⟨x, q1, q2, q3⟩ := key i d hd
          rw [Array.getD_eq_getD_getElem?, q1]
          exact Rep.mono hmono q3
theorem publishB {st : PS} {j k s m : Nat} {T : TypeId} {cs : List SV} {es : List Dat} (hj : bget st.bs j = some [.own k T s m]) (hjk : Nat.beq k j = false) (hb : bget st.bs k = some cs) (hes : ∀ e ∈ es, e.cells.length = s) (hl : es.length = m) (hc : cs.take (m * s) = (flat es).map .d) :
    SimImp st ⟨st.sl, (j, some [.d (.sl T s es)]) :: (k, none) :: st.bs⟩ := fun C a w ⟨D, β, h⟩ => by
  obtain ⟨D', h', hown⟩ := publish_core (T := T) h hb hes hl hc
  have hne : k ≠ j := beq_false_ne hjk
  have hj2 : bget ((k, none) :: st.bs) j = some [.own k T s m] := by rw [bget_cons, if_neg hne]; exact hj
  refine ⟨D', β, h'.base, ⟨fun i c hi => ?_, fun i1 i2 c1 c2 q1 q2 => ?_⟩, fun i c hi => ?_, h'.slots⟩
  · rw [bget_cons] at hi
    split at hi
    · rename_i e; subst e
      injection hi with hi; subst hi
      rcases h'.mem.ok j _ hj2 with ⟨_, q⟩ | ⟨b, vs, T2, q1, q2, q3, q4, q5⟩
      · cases q
      · refine .inr ⟨b, vs, T2, q1, q2, by simpa using q3, fun i x hx => ?_, q5⟩
        rcases i with _ | i
        · obtain ⟨u, e1, e2, e3⟩ := q4 0 _ rfl
          simp at hx; subst hx
          exact ⟨u, e1, e2, hown u D' e3⟩
        · simp at hx
    · exact h'.mem.ok i c hi
  · have conv : ∀ {i c}, bget ((j, some [SV.d (.sl T s es)]) :: (k, none) :: st.bs) i = some c → ∃ c', bget ((k, none) :: st.bs) i = some c' := fun {i c} hi => by
      rw [bget_cons] at hi
      split at hi
      · rename_i e; subst e; exact ⟨_, hj2⟩
      · exact ⟨c, hi⟩
    obtain ⟨c1', r1⟩ := conv q1
    obtain ⟨c2', r2⟩ := conv q2
    exact h'.mem.inj i1 i2 c1' c2' r1 r2
  · rw [bget_cons] at hi
    split at hi
    · rename_i e; subst e; exact h'.high j _ hj2
    · exact h'.high i c hi
section
variable {P : Program} {o : Oper} {S : Nat → SV}
theorem t_sto {T : TypeId} {x y : Operand} {k j E s n : Nat} {u : SV} (ho : o.op = .store T x y) (hx : ev S x = .ref k 0) (hy : ev S y = .own j E s n) (hs : shapeB P T = some (false, 1)) : TOk P o S k [u] [.own j E s n] :=
  t_store (old := [u]) ho hx hy hs (.inr ⟨⟨j, E, s, n, rfl⟩, rfl⟩) rfl (Nat.le_refl _)
inductive OwnArgs (k : Nat) (T : TypeId) (s m : Nat) (es : List Dat) : List SV → List Dat → Prop
  | nil : OwnArgs k T s m es [] []
  | d {x : Dat} {zs : List SV} {ds : List Dat} (h : OwnArgs k T s m es zs ds) : OwnArgs k T s m es (.d x :: zs) (x :: ds)
  | o {zs : List SV} {ds : List Dat} (h : OwnArgs k T s m es zs ds) : OwnArgs k T s m es (.own k T s m :: zs) (.sl T s es :: ds)
theorem OwnArgs.len {k : Nat} {T : TypeId} {s m : Nat} {es : List Dat} {zs : List SV} {ds : List Dat} (h : OwnArgs k T s m es zs ds) : zs.length = ds.length := by
  induction h with
  | nil => rfl
  | d h ih => simp [ih]
  | o h ih => simp [ih]
theorem OwnArgs.rep {k : Nat} {T : TypeId} {s m : Nat} {es : List Dat} {w : World} {D D' : DSet} {β : BMap} (h1 : ∀ v x, Rep w D v x → Rep w D' v x) (h2 : ∀ v, RepS w D β v (.own k T s m) → Rep w D' v (.sl T s es)) {zs : List SV} {ds : List Dat} (h : OwnArgs k T s m es zs ds) :
    ∀ {vs : List Value}, vs.length = zs.length → (∀ (i : Nat) v x, vs[i]? = some v → zs[i]? = some x → RepS w D β v x) → ∀ (i : Nat) v d, vs[i]? = some v → ds[i]? = some d → Rep w D' v d := by
  induction h with
  | nil => intro vs _ _ i v d _ hd; simp at hd
  | d h ih =>
    rename_i x zs ds
    intro vs hl hr i v d' hv hd
    rcases vs with _ | ⟨v0, vs⟩
    · simp at hl
    · rcases i with _ | i
      · simp at hv hd; subst hv; subst hd; exact h1 _ _ (hr 0 _ _ rfl rfl)
      · exact ih (by simpa using hl) (fun i v x h3 h4 => hr (i + 1) v x (by simpa using h3) (by simpa using h4)) i v d' (by simpa using hv) (by simpa using hd)
  | o h ih =>
    intro vs hl hr i v d' hv hd
    rcases vs with _ | ⟨v0, vs⟩
    · simp at hl
    · rcases i with _ | i
      · simp at hv hd; subst hv; subst hd; exact h2 _ (hr 0 _ _ rfl rfl)
      · exact ih (by simpa using hl) (fun i v x h3 h4 => hr (i + 1) v x (by simpa using h3) (by simpa using h4)) i v d' (by simpa using hv) (by simpa using hd)
theorem e_clo {y : Operand} {xs : List Operand} {ats : Array TypeId} {f : FuncId} {ds es : List Dat} {u : Value} {zs : List SV} {cs : List SV} {k T s m : Nat} (hf : Takes P f ds (.val u)) (ho : o.op = .call { callee := .value y, args := xs.toArray, argTypes := ats }) (hy : ev S y = .d (.val (.func (.func f) #[] #[]))) (hx : xs.map (ev S) = zs)
    (hz : OwnArgs k T s m es zs ds) (hes : ∀ e ∈ es, e.cells.length = s) (hl : es.length = m) (hc : cs.take (m * s) = (flat es).map .d) : EOk P o S [(k, cs)] (.d (.val u)) :=
  fun a w D β Q hop hrd hD => by
    have hyv := hop y (by simp [ho, Op.operands, Call.operands])
    rw [hy] at hyv
    have hyv' := rep_val hyv
    have hrep : ∀ (i : Nat) v x, (xs.map a.eval)[i]? = some v → zs[i]? = some x → RepS w D β v x := fun i v x hv hz' => by
      rw [List.getElem?_map, Option.map_eq_some_iff] at hv
      obtain ⟨q, hqi, rfl⟩ := hv
      have hm := hop q (by simp [ho, Op.operands, Call.operands, List.mem_of_getElem? hqi])
      have hi := congrArg (fun l : List SV => l[i]?) hx
      simp only [List.getElem?_map, hqi, hz', Option.map_some, Option.some.injEq] at hi
      rw [hi] at hm
      exact hm
    have hlen : (xs.map a.eval).length = zs.length := by rw [← hx]; simp
    have hrun : (execOp a.eval o).run P w = .ok (.enter f (xs.map a.eval).toArray) w := by
      simp only [execOp, ho, resolve, Deferred.ofValue, hyv', Sem.run_bind, Sem.run_pure, Result.andThen_ok, invoke, Array.empty_append, Array.append_empty]
      rw [run_callFunc hf.may]
      simp
    have hfl := flat_length hes
    have hblk := hrd (k, cs) (by simp)
    have key : ∃ D', DOk D' w ∧ (∀ v x, Rep w D v x → Rep w D' v x) ∧ (∀ v, RepS w D β v (.own k T s m) → Rep w D' v (.sl T s es)) := by
      rcases hblk with ⟨g1, hcs⟩ | ⟨b, vs, T', g1, g2, g3, g4, g5⟩
      · refine ⟨D, hD, fun _ _ h => h, fun v hv => ?_⟩
        rcases hv with ⟨_, e2, e3⟩ | ⟨b, cap, vs, h1, _⟩
        · rw [e2] at hl
          have hn : es = [] := List.eq_nil_of_length_eq_zero hl
          subst hn
          rw [e3]; exact rep_nil w D T s
        · rw [h1] at g1; cases g1
      · have hmono : ∀ t' g o, D t' g o → (D t' g o ∨ (t' = T ∧ g = b ∧ o < m * s)) ∧ w.cell? ⟨g, o, none⟩ = w.cell? ⟨g, o, none⟩ := fun t' g o hd => ⟨.inl hd, rfl⟩
        refine ⟨fun t' g o => D t' g o ∨ (t' = T ∧ g = b ∧ o < m * s), fun t' g o hd => ?_, fun v x hr => Rep.mono hmono hr, fun v hv => ?_⟩
        · rcases hd with hd | ⟨_, e, _⟩
          · exact hD _ _ _ hd
          · subst e; exact heap_lt g2
        · rcases hv with ⟨e1, _, _⟩ | ⟨b2, cap, vs2, h1, h2, h3, h4, h5, h6⟩
          · rw [e1] at g1; cases g1
          · obtain rfl : b = b2 := by rw [h1] at g1; injection g1 with g1; exact g1.symm
            rw [h3] at g2
            injection g2 with g2
            injection g2 with g2 gT
            subst g2; subst gT
            rw [h2]
            have key : ∀ (i : Nat) d, (flat es)[i]? = some d → ∃ u, vs2[i]? = some u ∧ u.oneCell' = true ∧ Rep w D u d := fun i d hd => by
              have hi : i < m * s := by
                have := (List.getElem?_eq_some_iff.1 hd).1
                rw [hfl, hl] at this; exact this
              have e1 : cs[i]? = some (.d d) := by
                have : (cs.take (m * s))[i]? = some (.d d) := by rw [hc]; simp [hd]
                rwa [List.getElem?_take_of_lt hi] at this
              exact g4 i _ e1
            have hcell : ∀ i, w.cell? ⟨b, i, none⟩ = vs2[i]? := fun i => cell_of_row w b i vs2 T (0, 0) h3
            refine Rep.sl b 0 (fun i => vs2.getD i undef) hl.symm h5 h6 hes (fun _ => rfl) (fun i hi => .inr ⟨rfl, rfl, by rw [Nat.zero_add, ← hl, ← hfl]; exact hi⟩) (fun i hi => ?_) (fun i hi => ?_) (fun i d hd => ?_)
            · obtain ⟨x, q1, q2, q3⟩ := key i _ (List.getElem?_eq_getElem hi)
              rw [Nat.zero_add, hcell, Array.getD_eq_getD_getElem?, q1]; rfl
            · obtain ⟨x, q1, q2, q3⟩ := key i _ (List.getElem?_eq_getElem hi)
              rw [Array.getD_eq_getD_getElem?, q1]; exact q2
            · obtain ⟨x, q1, q2, q3⟩ := key i d hd
              rw [Array.getD_eq_getD_getElem?, q1]
              exact Rep.mono hmono q3
    obtain ⟨D', hD', hm1, hm2⟩ := key
    have hargs : Args w D' (xs.map a.eval) ds := ⟨hlen.trans hz.len, hz.rep hm1 hm2 hlen hrep⟩
    refine wp_enter hrun ((hf.run w D' _ hD' hargs).mono fun e w' h => ?_)
    obtain ⟨v, D2, he, h1, h2, h3⟩ := h
    refine ⟨v, he, v, D, rfl, h1, ⟨fun _ _ _ h => h, fun _ _ _ h => .inl h⟩, ?_⟩
    rw [rep_val h3]
    exact .val u
def OPost (w : World) (D : DSet) (T s n : Nat) (es : List Dat) (e : Ending) (w' : World) : Prop :=
  ∃ v D' b cap vs, e = .returned v ∧ Below w.heap.size w w' ∧ DUp D D' w w' ∧ w.heap.size ≤ b ∧ (∀ t o, ¬ D' t b o) ∧ v = .slice (some ⟨b, 0, none⟩) n cap ∧ w'.heap[b]? = some (.cells vs T (0, 0)) ∧ vs.size = cap * s ∧ n ≤ cap ∧ cap ≤ maxLen ∧ es.length ≤ vs.size ∧
    (∀ (i : Nat) d, es[i]? = some d → ∃ u, vs[i]? = some u ∧ u.oneCell' = true ∧ Rep w' D' u d)
structure TakesO (P : Program) (f : FuncId) (ds : List Dat) (T s n : Nat) (es : List Dat) : Prop where
  may : callB P f = true
  run : ∀ (w : World) (D : DSet) (vs : List Value), DOk D w → Args w D vs ds → Calls P f vs.toArray w (OPost w D T s n es)
theorem n_own {y : Operand} {xs : List Operand} {ats : Array TypeId} {f : FuncId} {ds es : List Dat} {T s n : Nat} {cs : List SV} (k : Nat) (hf : TakesO P f ds T s n es) (ho : o.op = .call { callee := .value y, args := xs.toArray, argTypes := ats }) (hy : ev S y = .d (.val (.func (.func f) #[] #[]))) (hx : xs.map (ev S) = ds.map .d) (hc : es.map .d = cs) : NOk P o S k cs (.own k T s n) :=
  fun a w D β Q hop hD => by
    subst hc
    have hyv := hop y (by simp [ho, Op.operands, Call.operands])
    rw [hy] at hyv
    have hyv' := rep_val hyv
    have hargs : Args w D (xs.map a.eval) ds := by
      have hl : xs.length = ds.length := by simpa using congrArg List.length hx
      refine ⟨by simpa using hl, fun i v d hv hd => ?_⟩
      rw [List.getElem?_map, Option.map_eq_some_iff] at hv
      obtain ⟨x, hxi, rfl⟩ := hv
      have hm := hop x (by simp [ho, Op.operands, Call.operands, List.mem_of_getElem? hxi])
      have hi := congrArg (fun l : List SV => l[i]?) hx
      simp only [List.getElem?_map, hxi, hd, Option.map_some, Option.some.injEq] at hi
      rw [hi] at hm
      exact hm
    have hrun : (execOp a.eval o).run P w = .ok (.enter f (xs.map a.eval).toArray) w := by
      simp only [execOp, ho, resolve, Deferred.ofValue, hyv', Sem.run_bind, Sem.run_pure, Result.andThen_ok, invoke, Array.empty_append, Array.append_empty]
      rw [run_callFunc hf.may]
      simp
    refine wp_enter hrun ((hf.run w D _ hD hargs).mono fun e w' h => ?_)
    obtain ⟨v, D', b, cap, vs, he, h1, h2, h3, h4, h5, h6, h7, h8, h9, h10, h11⟩ := h
    have hβ : β.set k b k = some b := by simp [BMap.set]
    refine ⟨v, he, v, D', b, rfl, h1, h2, h3, heap_lt h6, h4, .inr ⟨b, vs, T, hβ, h6, by simpa using h10, fun i x hx => ?_, h4⟩, .inr ⟨b, cap, vs, hβ, h5, h6, h7, h8, h9⟩⟩
    rw [List.getElem?_map, Option.map_eq_some_iff] at hx
    obtain ⟨d, hd, rfl⟩ := hx
    exact h11 i d hd
theorem leaves_own {a : Act} {v : Value} {w w0 : World} {fn : Func} {D D' : DSet} {T s n b cap : Nat} {es : List Dat} {vs : Array Value} {ds : List Deferred} (hd : DfOk w0.heap.size w ds) (hres : ∀ w', (results fn a.tmps).run P w' = .ok v w')
    (hbel : Below w0.heap.size w0 w) (hup : ∀ t g o, D t g o → D' t g o) (hnew : ∀ t g o, D' t g o → D t g o ∨ w0.heap.size ≤ g) (hdok : DOk D' w) (h3 : w0.heap.size ≤ b) (h4 : ∀ t o, ¬ D' t b o) (h5 : v = .slice (some ⟨b, 0, none⟩) n cap)
    (h6 : w.heap[b]? = some (.cells vs T (0, 0))) (h7 : vs.size = cap * s) (h8 : n ≤ cap) (h9 : cap ≤ maxLen) (h10 : es.length ≤ vs.size) (h11 : ∀ (i : Nat) d, es[i]? = some d → ∃ u, vs[i]? = some u ∧ u.oneCell' = true ∧ Rep w D' u d) :
    LeavesInM Fence.wide 0 P fn a.tmps (OPost w0 D T s n es) ds .returning w := by
  induction ds generalizing w with
  | nil =>
    refine ⟨v, hres w, v, D', b, cap, vs, rfl, hbel, ⟨hup, fun t g o hd => ?_⟩, h3, h4, h5, h6, h7, h8, h9, h10, h11⟩
    rcases hnew t g o hd with q | q
    · exact .inl q
    · exact .inr ⟨q, hdok _ _ _ hd⟩
  | cons d ds ih =>
    cases hd with
    | cons hqb hqh h3' hr =>
      rename_i q
      have hne : b ≠ q := fun e => by subst e; rw [h6] at hqh; cases hqh
      refine ⟨by simp, .inl ⟨q, _, rfl, run_takeDeferred hqh, ih (hr.keep fun q' hq' ⟨d, hd, e⟩ => ?_) (turned_below hbel hqb) (fun t g o hd => by simpa [World.putObj] using hdok t g o hd) ((World.putObj_heap_other hne).trans h6) (fun i d hd => ?_)⟩⟩
      · have hne : q' ≠ q := fun e' => h3' d hd (e' ▸ e)
        exact (World.putObj_heap_other hne).trans hq'
      · obtain ⟨u, e1, e2, e3⟩ := h11 i d hd
        exact ⟨u, e1, e2, turned_rep (β := fun _ => none) (x := .d d) hqh rfl rfl rfl e3⟩
def RetO (rs : List ResultVar) (T s n : Nat) (es : List Dat) : Exit → PS → Prop
  | .ret, st => ∃ t k, rs = [.tmp t] ∧ sget st.sl t = .own k T s n ∧ ∃ cs, bget st.bs k = some cs ∧ es.length ≤ cs.length ∧ ∀ (i : Nat) d, es[i]? = some d → cs[i]? = some (.d d)
  | .normal, st => ∃ t k, rs = [.tmp t] ∧ sget st.sl t = .own k T s n ∧ ∃ cs, bget st.bs k = some cs ∧ es.length ≤ cs.length ∧ ∀ (i : Nat) d, es[i]? = some d → cs[i]? = some (.d d)
  | _, _ => False
theorem own_prefix {α : Type} (F : α → Dat) {L L' : List α} {j : Nat} (h : L = L'.take j) : (L.map F).length ≤ (L'.map (fun g => SV.d (F g))).length ∧ ∀ (i : Nat) d, (L.map F)[i]? = some d → (L'.map (fun g => SV.d (F g)))[i]? = some (.d d) := by
  subst h
  refine ⟨by simp; omega, fun i d hd => ?_⟩
  rw [List.getElem?_map, Option.map_eq_some_iff] at hd
  obtain ⟨g, hg, rfl⟩ := hd
  have hi : i < (L'.take j).length := (List.getElem?_eq_some_iff.1 hg).1
  rw [List.length_take] at hi
  rw [List.getElem?_take_of_lt (by omega)] at hg
  rw [List.getElem?_map, hg]
  rfl
theorem fn_introO {f : FuncId} {fn : Func} {c : Code} {ds : List Dat} {T s n : Nat} {es : List Dat} (hf : P.funcs[f]? = some fn) (hb : fn.body = some c) (hc : callB P f = true) (hn : Nat.ble ds.length fn.ntmps = true) (hpos : 0 < n)
    (h : PWp P ⟨0, fn.ntmps, none⟩ c (RetO fn.results.toList T s n es) ⟨initSl ds 0, []⟩) : TakesO P f ds T s n es :=
  ⟨hc, fun w D vs hD hargs => by
    refine (callsIn_wide (n := 0)).1 (callsIn_of_wp_marks hf hb trivial ?_)
    have hle : ds.length ≤ fn.ntmps := Nat.le_of_ble_eq_true hn
    have hvl := hargs.1
    have hsim : Sim ⟨w, D, w, #[], ⟨0, fn.ntmps, none⟩, fun _ => False⟩ { tmps := vs.toArray ++ Array.replicate (fn.ntmps - vs.toArray.size) undef, defers := [] } w ⟨initSl ds 0, []⟩ := by
      refine ⟨D, fun _ => none, ⟨.nil, by simp; omega, fun _ _ _ _ => rfl, fun _ _ h _ => h, fun t ht => absurd ht (Nat.not_lt_zero t), .of (Below.refl _ _), fun _ _ _ h => h, fun _ _ _ h => .inl h, hD⟩, ⟨fun k cs hk => by simp [bget] at hk, fun k1 k2 c1 c2 h1 => by simp [bget] at h1⟩, fun k c hk => by simp [bget] at hk, fun t => ?_⟩
      show RepS w D _ _ (sget (initSl ds 0) t)
      rw [sget_init]
      simp only [Nat.zero_le, if_true, Nat.sub_zero]
      cases hd : ds[t]? with
      | none => trivial
      | some d =>
        have ht : t < vs.length := by rw [hvl]; exact (List.getElem?_eq_some_iff.1 hd).1
        refine hargs.2 t _ d ?_ hd
        rw [Array.getD_eq_getD_getElem?, Array.getElem?_append_left (by simpa using ht)]
        simp [ht]
    refine wpIn_mono (h _ _ w 0 rfl hsim) fun e a w' ⟨st, ⟨D', β, hs⟩, hq⟩ => ?_
    have fin : (∃ t k, fn.results.toList = [.tmp t] ∧ sget st.sl t = .own k T s n ∧ ∃ cs, bget st.bs k = some cs ∧ es.length ≤ cs.length ∧ ∀ (i : Nat) d, es[i]? = some d → cs[i]? = some (.d d)) → LeavesInM Fence.wide 0 P fn a.tmps (OPost w D T s n es) a.defers .returning w' := fun ⟨t, k, h1, h2, cs, h3, h3l, h3c⟩ => by
      have ht := hs.slots t
      rw [h2] at ht
      rcases ht with ⟨_, q, _⟩ | ⟨b, cap, vs', g1, g2, g3, g4, g5, g6⟩
      · omega
      · rcases hs.mem.ok k _ h3 with ⟨q, _⟩ | ⟨b', vs2, T2, q1, q2, q3, q4, q5⟩
        · rw [g1] at q; cases q
        · obtain rfl : b = b' := by rw [g1] at q1; injection q1
          rw [g3] at q2
          injection q2 with q2
          injection q2 with q2 qT
          subst q2; subst qT
          have hr : fn.results = #[.tmp t] := by rw [← Array.toList_inj, h1]
          refine leaves_own (a := a) hs.base.defers (fun w2 => ?_) hs.base.below.plain hs.base.dmono (fun t g o hd => (hs.base.dnew t g o hd).imp id (fun h => h.elim id False.elim)) hs.base.dok ((hs.high k _ h3 b g1).elim id False.elim) q5 g2 g3 g4 g5 g6 (by omega) (fun i d hd => q4 i (.d d) (h3c i d hd))
          rw [results_eq, hr]
          simp [resF]
    cases e with
    | normal => exact fin hq
    | ret => exact fin hq
    | exit id => exact hq.elim
    | goto l => exact hq.elim
    | panic ch => exact hq.elim
    | outgrown => exact hq.elim⟩
end
def FrB (k : Nat) (B : BS) : Prop := (B.all fun p => (!(Nat.beq p.1 k)) && match p.2 with
    | some cs => !(namesAny k cs)
    | none => true) = true
theorem frb_nil (k : Nat) : FrB k [] := rfl
theorem frb_none {k j : Nat} {B : BS} (h : Nat.beq j k = false) (hB : FrB k B) : FrB k ((j, none) :: B) := by
  unfold FrB at *
  rw [List.all_cons, hB, h]; rfl
theorem frb_cs {k j : Nat} {cs : List SV} {B : BS} (h : Nat.beq j k = false) (hc : namesAny k cs = false) (hB : FrB k B) : FrB k ((j, some cs) :: B) := by
  unfold FrB at *
  rw [List.all_cons, hB, h]; simp [hc]
theorem frb_map {α : Type} {k j : Nat} {f : α → Dat} {l : List α} {B : BS} (h : Nat.beq j k = false) (hB : FrB k B) : FrB k ((j, some (l.map (fun g => SV.d (f g)))) :: B) := frb_cs h (namesAny_map k f l) hB
theorem frb_d {k j : Nat} {l : List Dat} {B : BS} (h : Nat.beq j k = false) (hB : FrB k B) : FrB k ((j, some (l.map SV.d)) :: B) := frb_cs h (namesAny_map k id l) hB
theorem freshB_of {k : Nat} {S : SL} {B : BS} (h1 : (S.all fun p => !p.2.names k) = true) (h2 : FrB k B) : freshB k ⟨S, B⟩ = true := by
  unfold freshB
  unfold FrB at h2
  rw [h1]
  exact h2
def PJoin {α : Type} (id : Nat) (St : α → PS) (I : α → Prop) (Q : Exit → PS → Prop) : Exit → PS → Prop
  | .normal, s => ∃ y, SimImp s (St y) ∧ I y
  | .exit i, s => if i = id then ∃ y, SimImp s (St y) ∧ I y else Q (.exit i) s
  | e, s => Q e s
theorem pjoin_exit {α : Type} {id : Nat} {St : α → PS} {I : α → Prop} {Q : Exit → PS → Prop} {s : PS} (h : ∃ y, SimImp s (St y) ∧ I y) : PJoin id St I Q (.exit id) s := by
  show (if id = id then _ else _)
  rw [if_pos rfl]; exact h
theorem pwp_seqjoin {P : Program} {n : Fr} {Q : Exit → PS → Prop} {st : PS} {α : Type} {id : Nat} {c d : Code} (St : α → PS) (I : α → Prop) (h1 : PWp P n c (PJoin id St I Q) st) (h2 : ∀ y, I y → PWp P n d Q (St y)) : PWp P n (.seq (.block id c) d) Q st := by
  refine pwp_seq (pwp_block (pwp_mono h1 ?_))
  rintro e s h
  cases e with
  | normal =>
    obtain ⟨y, q1, q2⟩ := h
    exact pwp_sim q1 (h2 y q2)
  | exit i =>
    have h' : if i = id then ∃ y, SimImp s (St y) ∧ I y else Q (.exit i) s := h
    show if i = id then _ else _
    split
    · rename_i e; rw [if_pos e] at h'
      obtain ⟨y, q1, q2⟩ := h'
      exact pwp_sim q1 (h2 y q2)
    · rename_i e; rw [if_neg e] at h'; exact h'
  | ret => exact h
  | goto l => exact h
  | panic ch => exact h
  | outgrown => exact h
theorem e_pkfo {P : Program} {o : Oper} {S : Nat → SV} {c x y : Operand} {q : Bool} (ho : o.op = .pick c x y) (hc : ev S c = .d (.val (.bool false))) (hy : ev S y = .d (.val (.bool q))) : EOk P o S [] (.d (.val (.bool (false || q)))) := by
  rw [Bool.false_or]; exact e_pkf ho hc hy
theorem e_pkta {P : Program} {o : Oper} {S : Nat → SV} {c x y : Operand} {q : Bool} (ho : o.op = .pick c x y) (hc : ev S c = .d (.val (.bool true))) (hx : ev S x = .d (.val (.bool q))) : EOk P o S [] (.d (.val (.bool (true && q)))) := by
  rw [Bool.true_and]; exact e_pkt ho hc hx
section
variable {P : Program} {o : Oper} {S : Nat → SV}
theorem e_bse {T E : TypeId} {s : Nat} (ho : o.op = .buildSlice T 0 #[]) (hT : elemB P T = some (E, s)) : EOk P o S [] .emp :=
  fun a w D β Q hop _ hD => by
    obtain ⟨j, e1, e2, e3⟩ := elem_of hT
    have hrun : (execOp a.eval o).run P w = .ok (.value (.slice (some ⟨w.heap.size, 0, none⟩) 0 0)) (w.alloc (.cells #[] E)) := by
      simp only [execOp, ho, Instr.buildSlice, Sem.run_bind, run_underlying e1, Result.andThen_ok, run_sizeOf e2, Nat.zero_mul, if_true, Sem.run_pure]
      rw [if_neg (by omega)]
      simp [newRow, run_newObj, Array.range_zero', Instr.fill]
    exact wp_value hrun ⟨_, D, rfl, ⟨rfl, rfl, rfl, by simp, fun q hq => heap_alloc_old w _ hq⟩, DUp.of_same D, ⟨_, rfl⟩⟩
theorem e_appe {T E t' : TypeId} {x y : Operand} {s bytes : Nat} {zv : List Value} {es' : List Dat} (ho : o.op = .call { callee := .builtin .append, args := #[x, y], argTypes := #[T, T] })
    (hT : elemB P T = some (E, s)) (hz : zeroB P E = some zv) (hzl : zv.length = s) (hby : bytesB P E = some bytes) (hx : ev S x = .emp) (hy : ev S y = .d (.sl t' s es')) (hbig : es'.length ≤ maxLen) (hbig' : es'.length * bytes ≤ 140737488355328) :
    EOk P o S [] (.d (.sl t' s es')) := fun a w D β Q hop _ hD => by
  have h1 := hop x (by simp [ho, Op.operands, Call.operands])
  have h2 := hop y (by simp [ho, Op.operands, Call.operands])
  rw [hx] at h1
  rw [hy] at h2
  obtain ⟨ao0, hv⟩ := h1
  obtain ⟨ao, c, us, hyv, hcc, hul, hfl', hone, hrep, had⟩ := rep_sl_cells h2
  obtain ⟨i, z, z1, z2, z3⟩ := zero_of hz
  obtain ⟨j, f1, f2, f3⟩ := elem_of hT
  have hij : i = j := by rw [z1] at f2; injection f2
  subst hij
  have hbi : i.bytes = bytes := by
    unfold bytesB at hby
    rw [z1] at hby
    simpa using hby
  subst hbi
  have hzs : z.cells.size = s := by rw [z3]; simpa using hzl
  have hml : (maxLen : Int) ≤ 9223372036854775807 := by decide
  have hsl : ∀ e ∈ es', e.cells.length = s := (fun v (h : Rep w D v (.sl t' s es')) => by
    cases h with
    | sl g off u hn hc hm hs ha hD hu h1 hr => exact hs : ∀ v, Rep w D v (.sl t' s es') → ∀ e ∈ es', e.cells.length = s) _ h2
  by_cases hm0 : es'.length = 0
  · have hnil : es' = [] := List.eq_nil_of_length_eq_zero hm0
    subst hnil
    have hrun : (Builtin.append_ #[T, T] o.type #[a.eval x, a.eval y]).run P w = .ok (a.eval x) w := by
      rw [hyv]
      have e0 : ([] : List Dat).length = 0 := rfl
      have hu0 : us = [] := List.eq_nil_of_length_eq_zero (by simpa using hul)
      rw [hv, e0]
      cases ao0 <;> cases ao with
      | none => simp [Builtin.append_, run_underlying f1, sizeOf, typeInfo, z1, Builtin.lenOf, Builtin.firstCells, storeCells]
      | some ad => simp [Builtin.append_, run_underlying f1, sizeOf, typeInfo, z1, Builtin.lenOf, Builtin.firstCells, loadCells, loadCellsFrom, storeCells]
    have hR : RepS w D β (a.eval x) (.d (.sl t' s [])) := by
      rw [hv]
      exact Rep.sl 0 0 (fun _ => undef) rfl (Nat.le_refl _) (Nat.zero_le _) (by simp) (fun h => absurd h (Nat.lt_irrefl 0)) (by simp [flat]) (by simp [flat]) (by simp [flat]) (by simp [flat])
    unfold Oper.wp execOp
    simp only [ho, resolve, invoke, builtin, Sem.run_bind, Sem.run_pure, Result.andThen_ok, List.map_toArray, List.map_cons, List.map_nil, hrun]
    exact ⟨_, D, rfl, Below.refl _ _, DUp.of_same D, hR⟩
  · obtain ⟨ad, rfl, hcell⟩ := had (by omega)
    have key : ∃ (G : Nat) (arr : List Value) (w' : World), (Builtin.append_ #[T, T] o.type #[a.eval x, a.eval y]).run P w = .ok (.slice (some ⟨w.heap.size, 0, none⟩) es'.length G) w' ∧ w' = w.drew.alloc (.cells (us ++ arr).toArray E) ∧ es'.length ≤ G ∧ G ≤ maxLen := by
      cases ao0 with
      | none =>
        have hbytes : es'.length * i.bytes ≤ 281474976710656 := by omega
        have hr := run_append_nil (P := P) w T o.type E i z f1 z1 z2 ad es'.length c us (by rw [hul, f3]) hcell (by omega) (by omega) hbytes
        have hge := grownCap_ge w es'.length 0 E
        have hcm := grownCap_le_maxLen w es'.length 0 E (by omega)
        generalize grownCap w es'.length 0 E = G at hr hge hcm
        exact ⟨G, (Builtin.zeroCells z.cells (G - es'.length)).toList, _, by rw [hv, hyv]; exact hr, by congr 2; apply Array.ext'; simp, hge, hcm⟩
      | some b0 =>
        have hr := run_append_grow (P := P) w T o.type E i z f1 z1 z2 b0 0 0 [] (by simp) (by simp) ad es'.length c us (by rw [hul, f3]) hcell (by omega) (by omega) (growslice_fits (by omega) (by rw [Nat.zero_add]; exact hbig'))
        rw [Nat.zero_add] at hr
        have hge := grownCap_ge w es'.length 0 E
        have hcm := grownCap_le_maxLen w es'.length 0 E (by omega)
        generalize grownCap w es'.length 0 E = G at hr hge hcm
        exact ⟨G, (Builtin.zeroCells z.cells (G - es'.length)).toList, _, by rw [hv, hyv]; exact hr, by congr 2; apply Array.ext'; simp, hge, hcm⟩
    obtain ⟨G, arr, w', hrun, hw', hge, hcm⟩ := key
    have hfl := flat_length hsl
    have hbel : Below w.heap.size w w' := by subst hw'; exact ⟨rfl, rfl, rfl, by simp, fun q hq => heap_alloc_old w.drew _ hq⟩
    have hrow : w'.heap[w.heap.size]? = some (.cells (us ++ arr).toArray E (0, 0)) := by subst hw'; exact heap_alloc_new w.drew _
    have hcells : ∀ q, w'.cell? ⟨w.heap.size, q, none⟩ = (us ++ arr)[q]? := fun q => by rw [cell_of_row w' w.heap.size q _ E (0, 0) hrow]; simp
    have hsz : w'.heap.size = w.heap.size + 1 := by subst hw'; simp
    have hmono : ∀ t g q, D t g q → (D t g q ∨ (t = t' ∧ g = w.heap.size ∧ q < us.length)) ∧ w'.cell? ⟨g, q, none⟩ = w.cell? ⟨g, q, none⟩ := fun t g q hd => ⟨.inl hd, cell_below hbel (hD t g q hd)⟩
    have hul2 : us.length = (flat es').length := by rw [hul, hfl]
    unfold Oper.wp execOp
    simp only [ho, resolve, invoke, builtin, Sem.run_bind, Sem.run_pure, Result.andThen_ok, List.map_toArray, List.map_cons, List.map_nil, hrun]
    refine ⟨_, fun t g q => D t g q ∨ (t = t' ∧ g = w.heap.size ∧ q < us.length), rfl, hbel, ⟨fun t g q h => .inl h, fun t g q h => ?_⟩, ?_⟩
    · rcases h with h | ⟨_, h, _⟩
      · exact .inl h
      · exact .inr ⟨by omega, by omega⟩
    · refine Rep.sl w.heap.size 0 (fun q => (us ++ arr).getD q undef) rfl hge hcm hsl (fun _ => rfl) (fun q hq => .inr ⟨rfl, rfl, by omega⟩) (fun q hq => ?_) (fun q hq => ?_) (fun q d hq => ?_)
      · rw [Nat.zero_add, hcells, List.getElem?_append_left (by omega)]
        simp [List.getD, List.getElem?_append_left (by omega : q < us.length), List.getElem?_eq_getElem (by omega : q < us.length)]
      · rw [List.getD, List.getElem?_append_left (by omega), List.getElem?_eq_getElem (by omega : q < us.length)]
        exact hone _ (by simp)
      · have hq' := (List.getElem?_eq_some_iff.1 hq).1
        rw [List.getD, List.getElem?_append_left (by omega), List.getElem?_eq_getElem (by omega : q < us.length)]
        exact Rep.mono hmono (hrep q _ d (List.getElem?_eq_getElem (by omega)) hq)
end
abbrev bxs {α : Type} (F : α → Dat) (L : List α) : List SV := (flat (L.map F)).map SV.d
theorem flat_maplen {α : Type} (F : α → Dat) {s : Nat} (hF : ∀ g, (F g).cells.length = s) (L : List α) : (flat (L.map F)).length = L.length * s := by
  rw [flat_length (s := s) (fun e he => by
    rw [List.mem_map] at he
    obtain ⟨g, _, rfl⟩ := he
    exact hF g), List.length_map]
theorem map_celllen {α : Type} (F : α → Dat) {s : Nat} (hF : ∀ g, (F g).cells.length = s) (L : List α) : ∀ e ∈ L.map F, e.cells.length = s := fun e he => by
  rw [List.mem_map] at he
  obtain ⟨g, _, rfl⟩ := he
  exact hF g
section
variable {P : Program} {n : Fr} {ops : Array Oper} {S S' : SL} {B B' : BS} {l : List Oper} {o : Oper}
theorem appP_sem {α : Type} {d : Tmp} {T E t' : TypeId} {x y : Operand} {k s m bytes : Nat} {zv : List Value} (F : α → Dat) (L L' : List α) (hF : ∀ g, (F g).cells.length = s) (ho : o.op = .call { callee := .builtin .append, args := #[x, y], argTypes := #[T, T] }) (hdst : o.dst = some d) (hd : dstB n (some d) = true)
    (hT : elemB P T = some (E, s)) (hz : zeroB P E = some zv) (hzl : zv.length = s) (hby : bytesB P E = some bytes) (hx : ev (sget S) x = .own k E s m) (hb : bget B k = some (bxs F L)) (hL : L.length = m) (hy : ev (sget S) y = .d (.sl t' s (L'.map F)))
    (hbig : m + L'.length ≤ maxLen) (hbig' : (m + L'.length) * bytes ≤ 140737488355328) (hB : Clr k B) (C : Ctx) (a : Act) (w : World) (Q : Exit → Act → World → Prop) (hn : C.n = n) (hs : Sim C a w ⟨S, B⟩) : o.wp P a w (fun a' w' => Sim C a' w' ⟨(d, .d (.sl E s ((L ++ L').map F))) :: forget k S, (k, none) :: B⟩) Q := by
  have h0 := app_sound (st := ⟨S, B⟩) (N := n) (es := L.map F) (es' := L'.map F) ho (by rw [hdst]; exact hd) hT hz hzl hby hx hb rfl (by rw [flat_maplen F hF, hL]) hy (by simpa using hbig) (by simpa using hbig') hB C a w Q hn hs
  rw [hdst] at h0
  refine Oper.wp_mono (fun a' w' h1 => ?_) h0
  have h2 := publish (st := ⟨(d, .own k E s (m + (L'.map F).length)) :: forget k S, (k, some ((flat (L.map F ++ L'.map F)).map .d)) :: B⟩) (t := d) (k := k) (s := s) (m := m + (L'.map F).length) (T := E) (cs := (flat (L.map F ++ L'.map F)).map .d) (es := (L ++ L').map F)
    (by simp [sget_cons]) (by simp [bget_cons]) (map_celllen F hF _) (by simp [hL]) (by rw [← List.map_append]; rw [List.take_of_length_le]; rw [List.length_map, flat_maplen F hF, List.length_append, hL, List.length_map]; exact Nat.le_refl _)
  obtain ⟨D, β, h3⟩ := h2 C a' w' h1
  refine ⟨D, β, h3.base, ⟨fun j c hj => ?_, fun j1 j2 c1 c2 q1 q2 => ?_⟩, fun j c hj => ?_, fun t => ?_⟩
  · rw [bget_cons] at hj
    split at hj
    · cases hj
    · rename_i e; exact h3.mem.ok j c (by rw [bget_cons, if_neg e, bget_cons, if_neg e]; exact hj)
  · have conv : ∀ {j : Nat} {c : List SV}, bget ((k, none) :: B) j = some c → bget ((k, none) :: (k, some ((flat (L.map F ++ L'.map F)).map .d)) :: B) j = some c := fun {j c} hj => by
      rw [bget_cons] at hj
      split at hj
      · cases hj
      · rename_i e; rw [bget_cons, if_neg e, bget_cons, if_neg e]; exact hj
    exact h3.mem.inj j1 j2 c1 c2 (conv q1) (conv q2)
  · rw [bget_cons] at hj
    split at hj
    · cases hj
    · rename_i e; exact h3.high j c (by rw [bget_cons, if_neg e, bget_cons, if_neg e]; exact hj)
  · have h4 := h3.slots t
    have e1 : sget ((d, SV.d (.sl E s ((L ++ L').map F))) :: forget k S) t = sget ((d, SV.d (.sl E s ((L ++ L').map F))) :: (d, .own k E s (m + (L'.map F).length)) :: forget k S) t := by
      rw [sget_cons, sget_cons, sget_cons]
      split
      · rfl
      · rfl
    show RepS w' D β _ (sget ((d, SV.d (.sl E s ((L ++ L').map F))) :: forget k S) t)
    rw [e1]
    exact h4
theorem bxs_one {α : Type} (F : α → Dat) (hF : ∀ g, (F g).cells = [F g]) (L : List α) : bxs F L = L.map (fun g => SV.d (F g)) := by
  unfold bxs; rw [flat_one F hF, List.map_map]; rfl
end
end Go.Fid
namespace Go.Fid
end Go.Fid
namespace Go.Fid
def rotC (a b c d : Int) : Nat := if a = 0 ∧ b = 0 ∧ c = 0 ∧ d = 0 then 1 else if (-1048576 ≤ a ∧ a ≤ 1048576) ∧ (-1048576 ≤ b ∧ b ≤ 1048576) ∧ (-1048576 ≤ c ∧ c ≤ 1048576) ∧ (-1048576 ≤ d ∧ d ≤ 1048576) then 0 else 3
theorem rotC_z {a b c d : Int} (h : a = 0 ∧ b = 0 ∧ c = 0 ∧ d = 0) : rotC a b c d = 1 := if_pos h
theorem rotC_l {a b c d : Int} (h : ¬ (a = 0 ∧ b = 0 ∧ c = 0 ∧ d = 0)) (h2 : ¬ ((-1048576 ≤ a ∧ a ≤ 1048576) ∧ (-1048576 ≤ b ∧ b ≤ 1048576) ∧ (-1048576 ≤ c ∧ c ≤ 1048576) ∧ (-1048576 ≤ d ∧ d ≤ 1048576))) : rotC a b c d = 3 := by unfold rotC; rw [if_neg h, if_neg h2]
theorem rotC_0 {a b c d : Int} (h : ¬ (a = 0 ∧ b = 0 ∧ c = 0 ∧ d = 0)) (h2 : (-1048576 ≤ a ∧ a ≤ 1048576) ∧ (-1048576 ≤ b ∧ b ≤ 1048576) ∧ (-1048576 ≤ c ∧ c ≤ 1048576) ∧ (-1048576 ≤ d ∧ d ≤ 1048576)) : rotC a b c d = 0 := by unfold rotC; rw [if_neg h, if_pos h2]
def stnP (x y z u v f : Int) : Prop := (-1048576 ≤ x ∧ x ≤ 1048576) ∧ (-1048576 ≤ y ∧ y ≤ 1048576) ∧ (-1048576 ≤ z ∧ z ≤ 1048576) ∧ (-1048576 ≤ u ∧ u ≤ 1048576) ∧ (-1048576 ≤ v ∧ v ≤ 1048576) ∧ (1 ≤ f ∧ f ≤ 1048576)
instance {x y z u v f : Int} : Decidable (stnP x y z u v f) := by unfold stnP; infer_instance
theorem sq_b {a b : Int} (ha : -1048576 ≤ a ∧ a ≤ 1048576) (hb : -1048576 ≤ b ∧ b ≤ 1048576) : -1099511627776 ≤ a * b ∧ a * b ≤ 1099511627776 := by
  have h1 : (a * b).natAbs ≤ 1048576 * 1048576 := by
    rw [Int.natAbs_mul]; exact Nat.mul_le_mul (by omega) (by omega)
  omega
end Go.Fid
set_option linter.unusedVariables false
set_option linter.unusedSimpArgs false
namespace Go.Fid
def nq (a b c d : Int) : Int := (((a * a) + (b * b)) + (c * c)) + (d * d)
def N4 (a b c d : Int) : Rat := ((nq a b c d : Int) : Rat)
def r02 (a b c d : Int) : Int := 2 * ((b * d) + (a * c))
def R02 (a b c d : Int) : Rat := ((r02 a b c d : Int) : Rat)
def r12 (a b c d : Int) : Int := 2 * ((c * d) - (a * b))
def R12 (a b c d : Int) : Rat := ((r12 a b c d : Int) : Rat)
def r22 (a b c d : Int) : Int := (((a * a) - (b * b)) - (c * c)) + (d * d)
def R22 (a b c d : Int) : Rat := ((r22 a b c d : Int) : Rat)
def gcd3 (a b c : Rat) : Int := ((Int.gcd a.num ((Int.gcd b.num c.num : Nat) : Int) : Nat) : Int)
def redK (a b c : Rat) : Rat := Rat.divInt 1 (gcd3 a b c)
def dq0 (a b c d p q r s : Int) : Rat := (R02 a b c d * N4 p q r s) + (R02 p q r s * N4 a b c d)
def dq1 (a b c d p q r s : Int) : Rat := (R12 a b c d * N4 p q r s) + (R12 p q r s * N4 a b c d)
def dq2 (a b c d p q r s : Int) : Rat := (R22 a b c d * N4 p q r s) + (R22 p q r s * N4 a b c d)
def RFr (lx ly lz la lb lc ld rx ry rz ra rb rc rd : Int) (b0 b1 b2 e00 e01 e02 e10 e11 e12 e20 e21 e22 : Rat) : Prop :=
  (((rx - lx) : Int) : Rat) = b0 ∧
  (((ry - ly) : Int) : Rat) = b1 ∧
  (((rz - lz) : Int) : Rat) = b2 ∧
  b0 * redK b0 b1 b2 = e00 ∧
  b1 * redK b0 b1 b2 = e01 ∧
  b2 * redK b0 b1 b2 = e02 ∧
  (((dq1 la lb lc ld ra rb rc rd) * e02) - ((dq2 la lb lc ld ra rb rc rd) * e01)) * redK (((dq1 la lb lc ld ra rb rc rd) * e02) - ((dq2 la lb lc ld ra rb rc rd) * e01)) (((dq2 la lb lc ld ra rb rc rd) * e00) - ((dq0 la lb lc ld ra rb rc rd) * e02)) (((dq0 la lb lc ld ra rb rc rd) * e01) - ((dq1 la lb lc ld ra rb rc rd) * e00)) = e10 ∧
  (((dq2 la lb lc ld ra rb rc rd) * e00) - ((dq0 la lb lc ld ra rb rc rd) * e02)) * redK (((dq1 la lb lc ld ra rb rc rd) * e02) - ((dq2 la lb lc ld ra rb rc rd) * e01)) (((dq2 la lb lc ld ra rb rc rd) * e00) - ((dq0 la lb lc ld ra rb rc rd) * e02)) (((dq0 la lb lc ld ra rb rc rd) * e01) - ((dq1 la lb lc ld ra rb rc rd) * e00)) = e11 ∧
  (((dq0 la lb lc ld ra rb rc rd) * e01) - ((dq1 la lb lc ld ra rb rc rd) * e00)) * redK (((dq1 la lb lc ld ra rb rc rd) * e02) - ((dq2 la lb lc ld ra rb rc rd) * e01)) (((dq2 la lb lc ld ra rb rc rd) * e00) - ((dq0 la lb lc ld ra rb rc rd) * e02)) (((dq0 la lb lc ld ra rb rc rd) * e01) - ((dq1 la lb lc ld ra rb rc rd) * e00)) = e12 ∧
  ((e01 * e12) - (e02 * e11)) * redK ((e01 * e12) - (e02 * e11)) ((e02 * e10) - (e00 * e12)) ((e00 * e11) - (e01 * e10)) = e20 ∧
  ((e02 * e10) - (e00 * e12)) * redK ((e01 * e12) - (e02 * e11)) ((e02 * e10) - (e00 * e12)) ((e00 * e11) - (e01 * e10)) = e21 ∧
  ((e00 * e11) - (e01 * e10)) * redK ((e01 * e12) - (e02 * e11)) ((e02 * e10) - (e00 * e12)) ((e00 * e11) - (e01 * e10)) = e22
instance {lx ly lz la lb lc ld rx ry rz ra rb rc rd : Int} {b0 b1 b2 e00 e01 e02 e10 e11 e12 e20 e21 e22 : Rat} : Decidable (RFr lx ly lz la lb lc ld rx ry rz ra rb rc rd b0 b1 b2 e00 e01 e02 e10 e11 e12 e20 e21 e22) := by unfold RFr; infer_instance
section
variable {lx ly lz la lb lc ld rx ry rz ra rb rc rd : Int} {b0 b1 b2 e00 e01 e02 e10 e11 e12 e20 e21 e22 : Rat}
end
end Go.Fid
set_option linter.unusedVariables false
set_option linter.unusedSimpArgs false
namespace Go.Fid
end Go.Fid
set_option linter.unusedVariables false
set_option linter.unusedSimpArgs false
namespace Go.Fid
section
variable {lx ly lz la lb lc ld rx ry rz ra rb rc rd : Int} {b0 b1 b2 e00 e01 e02 e10 e11 e12 e20 e21 e22 : Rat}
end
section
variable {lx ly lz la lb lc ld rx ry rz ra rb rc rd : Int} {b0 b1 b2 e00 e01 e02 e10 e11 e12 e20 e21 e22 : Rat}
end
end Go.Fid
set_option linter.unusedVariables false
set_option linter.unusedSimpArgs false
namespace Go.Fid
def IsZ (q : Rat) : Prop := ∃ z : Int, q = (z : Rat)
theorem IsZ.of (z : Int) : IsZ (z : Rat) := ⟨z, rfl⟩
theorem IsZ.mul {p q : Rat} (h : IsZ p) (h2 : IsZ q) : IsZ (p * q) := by
  obtain ⟨a, rfl⟩ := h; obtain ⟨b, rfl⟩ := h2; exact ⟨a * b, (Rat.intCast_mul a b).symm⟩
theorem IsZ.add {p q : Rat} (h : IsZ p) (h2 : IsZ q) : IsZ (p + q) := by
  obtain ⟨a, rfl⟩ := h; obtain ⟨b, rfl⟩ := h2; exact ⟨a + b, (Rat.intCast_add a b).symm⟩
theorem IsZ.sub {p q : Rat} (h : IsZ p) (h2 : IsZ q) : IsZ (p - q) := by
  obtain ⟨a, rfl⟩ := h; obtain ⟨b, rfl⟩ := h2; exact ⟨a - b, (Rat.intCast_sub a b).symm⟩
section
variable {lx ly lz la lb lc ld rx ry rz ra rb rc rd : Int} {b0 b1 b2 e00 e01 e02 e10 e11 e12 e20 e21 e22 : Rat}
end
end Go.Fid
set_option linter.unusedVariables false
set_option linter.unusedSimpArgs false
namespace Go.Fid
section
variable {lx ly lz la lb lc ld rx ry rz ra rb rc rd : Int} {b0 b1 b2 e00 e01 e02 e10 e11 e12 e20 e21 e22 : Rat}
end
end Go.Fid
