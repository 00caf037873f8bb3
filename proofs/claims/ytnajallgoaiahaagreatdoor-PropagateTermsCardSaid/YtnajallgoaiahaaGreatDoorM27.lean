/- Part 27 of a proof: rules, plain facts, and functions walked. -/
import Derived.Test.YtnajallgoaiahaaGreatDoorM26
namespace Go.Fid
set_option linter.unusedVariables false
set_option linter.unusedSimpArgs false
open Go.RowKit (Below)
theorem e_bnd {P : Program} {o : Oper} {S : Nat → SV} {f : FuncId} {x : Operand} {k q : Nat} (ho : o.op = .makeFunc (.func f) #[x] #[]) (hx : ev S x = .ref k q) : uT P o S [] (.bnd f k q) :=
  fun a w D β Q hop _ _ => by
    have hv := hop x (by simp [ho, Op.operands])
    rw [hx] at hv
    obtain ⟨b, h1, h2⟩ := hv
    refine nW (v := .func (.func f) #[a.eval x] #[]) (w' := w) ?_ ⟨_, D, rfl, Below.refl _ _, bG.of_same D, b, h1, by rw [h2]⟩
    simp only [execOp, ho, Instr.makeFunc, Array.map_empty, List.map_toArray, Sem.run_bind, Sem.run_pure, Result.andThen_ok]
    simp
theorem oMb {P : Program} {o : Oper} {S : SL} {f : FuncId} {x : Operand} (k q : Nat) (ho : o.op = .makeFunc (.func f) #[x] #[] := by exact rfl) (hx : ev (kG S) x = .ref k q := by exact rfl) : uT P o (kG S) [] (.bnd f k q) := e_bnd ho hx
def rn (ks : List Nat) : SV → Option SV
  | .ref k o => (ks[k]?).map fun j => .ref j o
  | .own k t s n => (ks[k]?).map fun j => .own j t s n
  | .clo f l => (l.mapM fun k => ks[k]?).map fun l' => .clo f l'
  | .view k o n => (ks[k]?).map fun j => .view j o n
  | .pr k t s n x => (ks[k]?).map fun j => .pr j t s n x
  | .refx k o b => (ks[k]?).map fun j => .refx j o b
  | .bnd f k o => (ks[k]?).map fun j => .bnd f j o
  | .ownx k t s n u => (ks[k]?).map fun j => .ownx j t s n u
  | x => some x
def rnL (ks : List Nat) : List SV → Option (List SV)
  | [] => some []
  | x :: l => match rn ks x, rnL ks l with
    | some y, some l' => some (y :: l')
    | _, _ => none
theorem yB (ks : List Nat) : ∀ ds : List kA, rnL ks (ds.map SV.d) = some (ds.map SV.d)
  | [] => rfl
  | x :: L => by rw [List.map_cons, rnL, yB ks L]; rfl
theorem rnL_get {ks : List Nat} : ∀ {c c2 : List SV}, rnL ks c = some c2 → c2.length = c.length ∧ ∀ i : Nat, (∀ x, c[i]? = some x → ∃ y, c2[i]? = some y ∧ rn ks x = some y) ∧ ∀ y, c2[i]? = some y → ∃ x, c[i]? = some x ∧ rn ks x = some y
  | [], c2, h => by
    injection h with h; subst h
    exact ⟨rfl, fun i => ⟨fun x hx => by simp at hx, fun y hy => by simp at hy⟩⟩
  | x :: l, c2, h => by
    unfold rnL at h
    split at h
    · rename_i y l' hy hl
      injection h with h; subst h
      obtain ⟨h1, h2⟩ := rnL_get hl
      refine ⟨by simp [h1], fun i => ?_⟩
      cases i with
      | zero => exact ⟨fun z hz => by simp at hz; subst hz; exact ⟨y, rfl, hy⟩, fun z hz => by simp at hz; subst hz; exact ⟨x, rfl, hy⟩⟩
      | succ i => exact ⟨fun z hz => (h2 i).1 z (by simpa using hz), fun z hz => (h2 i).2 z (by simpa using hz)⟩
    · cases h
theorem mapM_get {ks : List Nat} : ∀ {l l' : List Nat}, (l.mapM fun k => ks[k]?) = some l' → l'.length = l.length ∧ ∀ (i k : Nat), l[i]? = some k → ∃ j, l'[i]? = some j ∧ ks[k]? = some j
  | [], l', h => by
    simp at h; subst h
    exact ⟨rfl, fun i k hk => by simp at hk⟩
  | k :: l, l', h => by
    rw [List.mapM_cons] at h
    cases h1 : ks[k]? with
    | none => rw [h1] at h; cases h
    | some j =>
      cases h2 : l.mapM (fun k => ks[k]?) with
      | none => rw [h1, h2] at h; cases h
      | some m =>
        rw [h1, h2] at h
        injection h with h; subst h
        obtain ⟨g1, g2⟩ := mapM_get h2
        refine ⟨by simp [g1], fun i q hq => ?_⟩
        cases i with
        | zero => simp at hq; subst hq; exact ⟨j, rfl, h1⟩
        | succ i => exact g2 i q (by simpa using hq)
theorem rep_rn {w : World} {D : qJ} {β γ : qE} {ks : List Nat} {v : Value} {x y : SV} (h : rn ks x = some y) (hg : ∀ k j, ks[k]? = some j → γ k = β j) : qG w D γ v x ↔ qG w D β v y := by
  cases x with
  | d x => injection h with h; subst h; exact Iff.rfl
  | emp => injection h with h; subst h; exact Iff.rfl
  | junk => injection h with h; subst h; exact Iff.rfl
  | hob u b ob => injection h with h; subst h; exact Iff.rfl
  | clo f l =>
    unfold rn at h
    rw [Option.map_eq_some_iff] at h
    obtain ⟨l', hl, rfl⟩ := h
    obtain ⟨g1, g2⟩ := mapM_get hl
    constructor
    · rintro ⟨vs, h1, h2, h3⟩
      refine ⟨vs, h1, h2.trans g1.symm, fun i j hj => ?_⟩
      have hlt : i < l.length := by rw [← g1]; exact (List.getElem?_eq_some_iff.1 hj).1
      obtain ⟨q, e1, e2⟩ := g2 i _ (List.getElem?_eq_getElem hlt)
      rw [hj] at e1
      injection e1 with e1; subst e1
      rw [← hg _ _ e2]
      exact h3 i _ (List.getElem?_eq_getElem hlt)
    · rintro ⟨vs, h1, h2, h3⟩
      refine ⟨vs, h1, h2.trans g1, fun i k hk => ?_⟩
      obtain ⟨q, e1, e2⟩ := g2 i k hk
      rw [hg _ _ e2]
      exact h3 i q e1
  | ref k o | own k t s n | view k o n | pr k t s n x | refx k o b | bnd f k o | ownx k t s n u =>
    unfold rn at h
    rw [Option.map_eq_some_iff] at h
    obtain ⟨j, hj, rfl⟩ := h
    simp only [qG, hg k j hj]
theorem blk_rn {w : World} {D : qJ} {β γ : qE} {ks : List Nat} {k j : Nat} {c c2 : List SV} (h : rnL ks c = some c2) (hk : ks[k]? = some j) (hg : ∀ k j, ks[k]? = some j → γ k = β j) : vC w D γ k c ↔ vC w D β j c2 := by
  obtain ⟨h1, h2⟩ := rnL_get h
  have e := hg k j hk
  constructor
  · rintro (⟨g1, g2⟩ | ⟨b, vs, T, g1, g2, g3, g4, g5⟩)
    · subst g2
      exact .inl ⟨e.symm.trans g1, List.eq_nil_of_length_eq_zero (by simpa using h1)⟩
    · refine .inr ⟨b, vs, T, e.symm.trans g1, g2, by omega, fun i y hy => ?_, g5⟩
      obtain ⟨x, e1, e2⟩ := (h2 i).2 y hy
      obtain ⟨u, f1, f2, f3⟩ := g4 i x e1
      exact ⟨u, f1, f2, (rep_rn e2 hg).1 f3⟩
  · rintro (⟨g1, g2⟩ | ⟨b, vs, T, g1, g2, g3, g4, g5⟩)
    · subst g2
      exact .inl ⟨e.trans g1, List.eq_nil_of_length_eq_zero (by simpa using h1.symm)⟩
    · refine .inr ⟨b, vs, T, e.trans g1, g2, by omega, fun i x hx => ?_, g5⟩
      obtain ⟨y, e1, e2⟩ := (h2 i).1 x hx
      obtain ⟨u, f1, f2, f3⟩ := g4 i y e1
      exact ⟨u, f1, f2, (rep_rn e2 hg).2 f3⟩
inductive RBi (ks : List Nat) : BS → BS → Prop
  | nil : RBi ks [] []
  | cons {k j : Nat} {c c2 : List SV} {B B2 : BS} (hk : ks[k]? = some j) (hc : rnL ks c = some c2) (h : RBi ks B B2) : RBi ks ((k, some c) :: B) ((j, some c2) :: B2)
def ndI : List Nat → Bool
  | [] => true
  | k :: ks => !(mmB ks k) && ndI ks
theorem ndI_inj : ∀ {ks : List Nat}, ndI ks = true → ∀ {k q j : Nat}, ks[k]? = some j → ks[q]? = some j → k = q
  | [], _, k, q, j, h1, _ => by simp at h1
  | p :: ks, h, k, q, j, h1, h2 => by
    simp only [ndI, Bool.and_eq_true, Bool.not_eq_true'] at h
    have hno : ∀ i : Nat, ks[i]? ≠ some p := fun i e => by
      have := hP.2 (List.mem_of_getElem? e); rw [h.1] at this; cases this
    cases k with
    | zero =>
      cases q with
      | zero => rfl
      | succ q => simp at h1 h2; subst h1; exact absurd h2 (hno q)
    | succ k =>
      cases q with
      | zero => simp at h1 h2; subst h2; exact absurd h1 (hno k)
      | succ q => simp at h1 h2; rw [ndI_inj h.2 h1 h2]
theorem RBi.to {ks : List Nat} (hn : ndI ks = true) {B B2 : BS} (h : RBi ks B B2) : ∀ {k : Nat} {c : List SV}, kF B k = some c → ∃ j c2, ks[k]? = some j ∧ kF B2 j = some c2 ∧ rnL ks c = some c2 := by
  induction h with
  | nil => intro k c hk; simp [kF] at hk
  | @cons q j c1 c2 B B2 hk hc h ih =>
    intro k c hg
    rw [jL] at hg
    split at hg
    · rename_i e; subst e
      injection hg with hg; subst hg
      exact ⟨j, c2, hk, by rw [jL, if_pos rfl], hc⟩
    · rename_i hne
      obtain ⟨j', d, h1, h2, h3⟩ := ih hg
      exact ⟨j', d, h1, by rw [jL, if_neg (fun e => by subst e; exact hne (ndI_inj hn hk h1)), h2], h3⟩
theorem RBi.back {ks : List Nat} (hn : ndI ks = true) {B B2 : BS} (h : RBi ks B B2) : ∀ {j : Nat} {c2 : List SV}, kF B2 j = some c2 → ∃ k c, ks[k]? = some j ∧ kF B k = some c ∧ rnL ks c = some c2 := by
  induction h with
  | nil => intro k c hk; simp [kF] at hk
  | @cons q j c1 c2 B B2 hk hc h ih =>
    intro i d hg
    rw [jL] at hg
    split at hg
    · rename_i e; subst e
      injection hg with hg; subst hg
      exact ⟨q, c1, hk, by rw [jL, if_pos rfl], hc⟩
    · rename_i hne
      obtain ⟨k, c, h1, h2, h3⟩ := ih hg
      exact ⟨k, c, h1, by rw [jL, if_neg (fun e => by subst e; rw [hk] at h1; injection h1 with h1; exact hne h1), h2], h3⟩
theorem RBi.some {ks : List Nat} {B B2 : BS} (h : RBi ks B B2) : ∀ p ∈ B2, ∃ c, p.2 = .some c := by
  induction h with
  | nil => intro p hp; cases hp
  | cons hk hc h ih =>
    intro p hp
    rcases List.mem_cons.1 hp with e | e
    · subst e; exact ⟨_, rfl⟩
    · exact ih p e
def pinI (ks : List Nat) (j : Nat) : SV → Bool
  | .ref k _ => decide (ks[k]? = some j)
  | .clo _ l => l.any fun k => decide (ks[k]? = some j) && !Nat.beq k 9
  | _ => false
inductive FixI (ks : List Nat) (B B' : BS) : List Nat → Prop
  | nil : FixI ks B B' []
  | cons {k q o b j : Nat} {G : List Nat} (hj : ks[k]? = some j) (h1 : kF B q = some [.refx k o b]) (h2 : kF B' q = some [.refx k o b]) (h : FixI ks B B' G) : FixI ks B B' (j :: G)
theorem FixI.at {ks : List Nat} {B B' : BS} {G : List Nat} (h : FixI ks B B' G) {j : Nat} (hj : j ∈ G) : ∃ k q o b, ks[k]? = some j ∧ kF B q = some [.refx k o b] ∧ kF B' q = some [.refx k o b] := by
  induction h with
  | nil => cases hj
  | cons e h1 h2 h ih =>
    rcases List.mem_cons.1 hj with rfl | hj
    · exact ⟨_, _, _, _, e, h1, h2⟩
    · exact ih hj
section
variable {P : Program}
theorem effI {xs : List SV} {B B2 : BS} {r x : SV} {B' B2' : BS} {ks mv G : List Nat} {w w' : World} {D D' : qJ} {β β' : qE} {v : Value} (hn : ndI ks = true) (hB : RBi ks B B2) (hB' : RBi ks B' B2') (hr : rn ks r = some x)
    (hG : FixI ks B B' G) (hmv : (ks.all fun j => mmB mv j || (xs.any (pinI ks j)) || mmB G j) = true) (γ : qE) (hγ : ∀ k j, ks[k]? = some j → γ k = β j) (hp : SPost w D γ xs B r B' v w' D' β') (hmem : Mem w D γ B) : ∃ βn, SEff w D β B2 B2' mv v x w' D' βn := by
  obtain ⟨βn, hβ1, hβ2⟩ : ∃ βn : qE, (∀ k j, ks[k]? = some j → β' k = βn j) ∧ ∀ j, j ∉ ks → βn j = β j := by
    classical
    refine ⟨fun j => if h : ∃ k, ks[k]? = some j then β' h.choose else β j, fun k j hk => ?_, fun j h1 => ?_⟩
    · have hx : ∃ q, ks[q]? = some j := ⟨k, hk⟩
      show β' k = (if h : ∃ q, ks[q]? = some j then β' h.choose else β j)
      rw [dif_pos hx, ndI_inj hn hx.choose_spec hk]
    · show (if h : ∃ q, ks[q]? = some j then β' h.choose else β j) = β j
      rw [dif_neg]
      rintro ⟨k, hk⟩
      exact h1 (List.mem_of_getElem? hk)
  have hmine : ∀ b, gJ γ B b → gJ β B2 b := fun b ⟨k, c, h1, h2⟩ => by
    obtain ⟨j, c2, e1, e2, _⟩ := hB.to hn h1
    exact ⟨j, c2, e2, (hγ _ _ e1).symm.trans h2⟩
  refine ⟨βn, ⟨⟨hp.below.os, hp.below.tape, hp.below.output, hp.below.size, fun k hk hm => hp.below.block k hk fun h => hm (hmine k h), hp.below.shape⟩, hp.keep, hp.oth, hp.up, fun t g o hd => ?_, hp.dok, ⟨fun j c hj => ?_, fun j1 j2 c1 c2 q1 q2 b e1 e2 => ?_⟩, fun j c hj b hb => ?_, fun j hj => ?_, (rep_rn hr hβ1).1 hp.res⟩⟩
  · rcases hp.new t g o hd with h | h | h
    · exact .inl h
    · exact .inr (.inl h)
    · exact .inr (.inr (hmine g h))
  · obtain ⟨k, c0, e1, e2, e3⟩ := hB'.back hn hj
    exact (blk_rn e3 e1 hβ1).1 (hp.mem.ok k c0 e2)
  · obtain ⟨k1, d1, f1, f2, _⟩ := hB'.back hn q1
    obtain ⟨k2, d2, g1, g2, _⟩ := hB'.back hn q2
    rw [← hβ1 _ _ f1] at e1
    rw [← hβ1 _ _ g1] at e2
    have := hp.mem.inj k1 k2 d1 d2 f2 g2 b e1 e2
    subst this
    rw [f1] at g1
    injection g1
  · obtain ⟨k, d, f1, f2, _⟩ := hB'.back hn hj
    rw [← hβ1 _ _ f1] at hb
    rcases hp.high k d f2 b hb with h | h
    · exact .inl h
    · exact .inr (hmine b h)
  · by_cases hjk : j ∈ ks
    · have h1 := List.all_eq_true.1 hmv j hjk
      rw [Bool.or_eq_true, Bool.or_eq_true] at h1
      rcases h1 with (h1 | h1) | h1
      · exact absurd (hP.1 h1) hj
      · obtain ⟨y, hy, e⟩ := List.any_eq_true.1 h1
        obtain ⟨i, hi⟩ := List.getElem?_of_mem hy
        cases y with
        | ref q o =>
          have e := of_decide_eq_true e
          rw [← hβ1 _ _ e, ← hγ _ _ e]
          exact hp.same i _ hi q (by simp [SV.pins])
        | clo g js =>
          obtain ⟨q, hq, e⟩ := List.any_eq_true.1 e
          rw [Bool.and_eq_true] at e
          have e1 := of_decide_eq_true e.1
          rw [← hβ1 _ _ e1, ← hγ _ _ e1]
          exact hp.same i _ hi q (List.any_eq_true.2 ⟨q, hq, by rw [e.2]; simp⟩)
        | _ => cases e
      · obtain ⟨k, q, o, b, e, g1, g2⟩ := hG.at (hP.1 h1)
        have e1 := refx_at hmem g1
        have e2 := refx_at hp.mem g2
        rw [← hβ1 _ _ e, ← hγ _ _ e, e2]
        exact e1.symm
    · exact hβ2 j hjk
def CallV (P : Program) (o : Oper) (S : Nat → SV) (f : FuncId) (ys : List SV) : Prop :=
  callB P f = true → ∀ (a : Act) (w : World) (D : qJ) (β : qE), (∀ q ∈ o.op.operands, qG w D β (a.eval q) (ev S q)) →
    ∃ us : List Value, (execOp a.eval o).run P w = .ok (.enter f us.toArray) w ∧ us.length = ys.length ∧ ∀ (i : Nat) v x, us[i]? = some v → ys[i]? = some x → qG w D β v x
theorem callV_fn {o : Oper} {S : Nat → SV} {y : Operand} {args : List Operand} {ats : Array TypeId} {ex : List SV} {f : FuncId} {ys : List SV} (ho : o.op = .call { callee := .value y, args := args.toArray, argTypes := ats }) (hy : FnV S y f ex) (hx : args.map (ev S) ++ ex = ys) : CallV P o S f ys := fun hm a w D β hop => by
  obtain ⟨us, hrun, hul, hur⟩ := fnv_run hop ho hm hy
  refine ⟨args.map a.eval ++ us, hrun, by rw [← hx]; simp [hul], fun i v z hv e1 => ?_⟩
  rw [← hx] at e1
  by_cases hlt : i < args.length
  · rw [List.getElem?_append_left (by simpa using hlt)] at hv e1
    rw [List.getElem?_map, Option.map_eq_some_iff] at hv
    obtain ⟨p, hqi, rfl⟩ := hv
    have hm := hop p (by simp [ho, Op.operands, Call.operands, List.mem_of_getElem? hqi])
    rw [List.getElem?_map, hqi, Option.map_some, Option.some.injEq] at e1
    rw [← e1]; exact hm
  · rw [List.getElem?_append_right (by simpa using hlt)] at hv e1
    simp only [List.length_map] at hv e1
    exact hur _ v _ hv e1
theorem callV_bnd {o : Oper} {S : Nat → SV} {y : Operand} {args : List Operand} {ats : Array TypeId} {f k q : Nat} {ys : List SV} (ho : o.op = .call { callee := .value y, args := args.toArray, argTypes := ats }) (hy : ev S y = .bnd f k q) (hx : SV.ref k q :: args.map (ev S) = ys) : CallV P o S f ys := fun hm a w D β hop => by
  have hyv := hop y (by simp [ho, Op.operands, Call.operands])
  rw [hy] at hyv
  obtain ⟨b, h1, h2⟩ := hyv
  refine ⟨.pointer (some ⟨b, q, none⟩) :: args.map a.eval, ?_, by rw [← hx]; simp, fun i v z hv e1 => ?_⟩
  · simp only [execOp, ho, resolve, Deferred.ofValue, h2, Sem.run_bind, Sem.run_pure, Result.andThen_ok, invoke]
    rw [vA hm]
    simp
  · rw [← hx] at e1
    cases i with
    | zero =>
      simp at hv e1
      rw [← hv, ← e1]
      exact ⟨b, h1, rfl⟩
    | succ i =>
      simp only [List.getElem?_cons_succ] at hv e1
      rw [List.getElem?_map, Option.map_eq_some_iff] at hv
      obtain ⟨p, hqi, rfl⟩ := hv
      have hm := hop p (by simp [ho, Op.operands, Call.operands, List.mem_of_getElem? hqi])
      rw [List.getElem?_map, hqi, Option.map_some, Option.some.injEq] at e1
      rw [← e1]; exact hm
theorem sok_of {o : Oper} {S : Nat → SV} {f : FuncId} {xs ys : List SV} {B B2 : BS} {r x : SV} {B' B2' : BS} {ks mv G : List Nat}
    (hf : gB P f xs B r B') (hc : CallV P o S f ys) (hxs : rnL ks xs = some ys) (hn : ndI ks = true)
    (hB : RBi ks B B2) (hB' : RBi ks B' B2') (hr : rn ks r = some x) (hG : FixI ks B B' G) (hmv : (ks.all fun j => mmB mv j || (xs.any (pinI ks j)) || mmB G j) = true) : SOk P o S B2 B2' mv x := fun a w D β Q hop hmem2 hD => by
  obtain ⟨us, hrun, hul, hur⟩ := hc hf.may a w D β hop
  obtain ⟨γ, hγ⟩ : ∃ γ : qE, ∀ k j, ks[k]? = some j → γ k = β j := ⟨fun k => (ks[k]?).bind β, fun k j hk => by show (ks[k]?).bind β = β j; rw [hk]; rfl⟩
  have hmem : Mem w D γ B := ⟨fun k c hk => by
    obtain ⟨j, c2, e1, e2, e3⟩ := hB.to hn hk
    exact (blk_rn e3 e1 hγ).2 (hmem2.ok j c2 e2), fun k1 k2 c1 c2 q1 q2 b e1 e2 => by
    obtain ⟨j1, d1, f1, f2, _⟩ := hB.to hn q1
    obtain ⟨j2, d2, g1, g2, _⟩ := hB.to hn q2
    rw [hγ _ _ f1] at e1
    rw [hγ _ _ g1] at e2
    have := hmem2.inj j1 j2 d1 d2 f2 g2 b e1 e2
    subst this
    exact ndI_inj hn f1 g1⟩
  obtain ⟨hl1, hl2⟩ := rnL_get hxs
  have qZ : us.length = xs.length := hul.trans hl1
  have hrep : ∀ (i : Nat) v z, us[i]? = some v → xs[i]? = some z → qG w D γ v z := fun i v z hv hz => by
    obtain ⟨y', e1, e2⟩ := (hl2 i).1 z hz
    exact (rep_rn e2 hγ).2 (hur i v y' hv e1)
  refine nB hrun ((hf.run w D γ _ hD hmem qZ hrep).mono fun e w' h => ?_)
  obtain ⟨v, D', β', he, hp⟩ := h
  obtain ⟨βn, hE⟩ := effI hn hB hB' hr hG hmv γ hγ hp hmem
  exact ⟨v, he, v, D', βn, rfl, hE⟩
end
inductive FrM (ks mv : List Nat) : BS → Prop
  | nil : FrM ks mv []
  | hid {k : Nat} {x : Option (List SV)} {B : BS} (hk : mmB ks k = true) (h : FrM ks mv B) : FrM ks mv ((k, x) :: B)
  | none {k : Nat} {B : BS} (h : FrM ks mv B) : FrM ks mv ((k, .none) :: B)
  | dat {k : Nat} {ds : List kA} {B : BS} (h : FrM ks mv B) : FrM ks mv ((k, some (ds.map SV.d)) :: B)
  | map {α : Type} {k : Nat} {G : α → kA} {L : List α} {B : BS} (h : FrM ks mv B) : FrM ks mv ((k, some (L.map fun g => SV.d (G g))) :: B)
  | cells {k : Nat} {c : List SV} {B : BS} (hc : (mv.all fun q => !(qI q c)) = true) (h : FrM ks mv B) : FrM ks mv ((k, some c) :: B)
theorem namesAny_dat (k : Nat) (ds : List kA) : qI k (ds.map SV.d) = false := by
  unfold qI
  rw [List.any_eq_false]
  intro x hx
  obtain ⟨d, _, rfl⟩ := List.mem_map.1 hx
  simp [SV.names]
theorem namesAny_mapd {α : Type} (k : Nat) (G : α → kA) (L : List α) : qI k (L.map fun g => SV.d (G g)) = false := by
  unfold qI
  rw [List.any_eq_false]
  intro x hx
  obtain ⟨d, _, rfl⟩ := List.mem_map.1 hx
  simp [SV.names]
theorem FrM.ok {ks mv : List Nat} {B : BS} (h : FrM ks mv B) {k : Nat} (hk : k ∈ mv) : ∀ p ∈ B, p.1 ∈ ks ∨ ∀ c, p.2 = some c → qI k c = false := by
  induction h with
  | nil => intro p hp; cases hp
  | hid hk' h ih => intro p hp; rcases List.mem_cons.1 hp with e | e; · subst e; exact .inl (hP.1 hk')
                    · exact ih p e
  | none h ih => intro p hp; rcases List.mem_cons.1 hp with e | e; · subst e; exact .inr fun c hc => by cases hc
                 · exact ih p e
  | dat h ih => intro p hp; rcases List.mem_cons.1 hp with e | e; · subst e; exact .inr fun c hc => by injection hc with hc; subst hc; exact namesAny_dat _ _
                · exact ih p e
  | map h ih => intro p hp; rcases List.mem_cons.1 hp with e | e; · subst e; exact .inr fun c hc => by injection hc with hc; subst hc; exact namesAny_mapd _ _ _
                · exact ih p e
  | cells hc h ih => intro p hp; rcases List.mem_cons.1 hp with e | e; · subst e; exact .inr fun c hc' => by injection hc' with hc'; subst hc'; simpa using List.all_eq_true.1 hc k hk
                     · exact ih p e
inductive NmM (news mv : List Nat) : BS → Prop
  | nil : NmM news mv []
  | dat {k : Nat} {ds : List kA} {B : BS} (h : NmM news mv B) : NmM news mv ((k, some (ds.map SV.d)) :: B)
  | map {α : Type} {k : Nat} {G : α → kA} {L : List α} {B : BS} (h : NmM news mv B) : NmM news mv ((k, some (L.map fun g => SV.d (G g))) :: B)
  | cells {k : Nat} {c : List SV} {B : BS} (hc : (news.all fun q => !(qI q c) || mmB mv q) = true) (h : NmM news mv B) : NmM news mv ((k, some c) :: B)
theorem NmM.ok {news mv : List Nat} {B : BS} (h : NmM news mv B) : ∀ p ∈ B, ∀ c, p.2 = some c → ∀ k ∈ news, qI k c = true → k ∈ mv := by
  induction h with
  | nil => intro p hp; cases hp
  | dat h ih => intro p hp; rcases List.mem_cons.1 hp with e | e; · subst e; exact fun c hc k _ hn => by injection hc with hc; subst hc; rw [namesAny_dat] at hn; cases hn
                · exact ih p e
  | map h ih => intro p hp; rcases List.mem_cons.1 hp with e | e; · subst e; exact fun c hc k _ hn => by injection hc with hc; subst hc; rw [namesAny_mapd] at hn; cases hn
                · exact ih p e
  | cells hc h ih => intro p hp; rcases List.mem_cons.1 hp with e | e; · subst e; exact fun c hc' k hk hn => by
                                                                           injection hc' with hc'; subst hc'
                                                                           have := List.all_eq_true.1 hc k hk
                                                                           rw [hn] at this
                                                                           exact hP.1 this
                     · exact ih p e
section
variable {P : Program} {n : Fr} {ops : Array Oper} {K : SL → BS → Prop} {S : SL} {B : BS} {l : List Oper} {o : Oper} {news : List Nat} {acc0 : List (List Nat × List Nat)}
theorem wS {f : FuncId} {xs : List SV} {B1 : BS} {r : SV} {B1' : BS} (ks mv : List Nat) (x : SV) (ys : List SV) (B2 B2' : BS) (hf : gB P f xs B1 r B1') (hB : RBi ks B1 B2) (hB' : RBi ks B1' B2') (hM : FrM (B2.map (·.1)) mv B) (hN : NmM news mv B2')
    (rr : DK P n ops K (mv ++ news) (acc0 ++ [([], B2.map (·.1))]) ((dO o, x) :: S) (B2' ++ B) l) (hc : CallV P o (kG S) f ys := by exact callV_fn (ex := []) (by exact rfl) (.fn (by kernel_rfl)) (by kernel_rfl)) (g : goK n ops S o = true := by kernel_rfl)
    (hxs : rnL ks xs = some ys := by kernel_rfl) (hr : rn ks r = some x := by kernel_rfl) (hn : ndI ks = true := by kernel_rfl) (hb : B2.map (fun p => kF B p.1) = B2.map (·.2) := by kernel_rfl) (hks : B2'.map (·.1) = B2.map (·.1) := by kernel_rfl)
    (hsl : (S.all fun p => mv.all fun k => !p.2.names k) = true := by kernel_rfl) (hin : (mv.all fun k => mmB (B2.map (·.1)) k) = true := by kernel_rfl) (hcl : ((mv ++ news).all fun k => !x.names k) = true := by kernel_rfl)
    (G : List Nat := []) (hG : FixI ks B1 B1' G := by exact .nil) (hmv : (ks.all fun j => mmB mv j || (xs.any (pinI ks j)) || mmB G j) = true := by kernel_rfl) : DK P n ops K news acc0 S B (o :: l) := by
  obtain ⟨st1, acc, r1, r0, r2⟩ := rr
  obtain ⟨hd, hg, hdB⟩ := zJ g
  have hb' : ∀ p ∈ B2, ∃ c, p.2 = some c ∧ kF B p.1 = some c := fun p hp => by
    obtain ⟨c, e⟩ := hB.some p hp
    exact ⟨c, e, (List.map_inj_left.1 hb p hp).trans e⟩
  have hs := nH.s (P := P) (n := n) (ops := ops) (news := news) (st := ⟨S, B⟩) (o := o) (sok_of hf hc hxs hn hB hB' hr hG hmv) hg (by rw [hd]; exact hdB) hb' hks
    (fun k hk => ⟨hP.1 (List.all_eq_true.1 hin k hk), fun p hp => by simpa using List.all_eq_true.1 (List.all_eq_true.1 hsl p hp) k hk, hM.ok hk⟩)
    (fun k hk => by simpa using List.all_eq_true.1 hcl k (List.mem_append.2 hk)) hN.ok
  rw [hd] at hs
  exact ⟨st1, ([], B2.map (·.1)) :: acc, .cons hs r1, by simpa using r0, r2⟩
end
section
variable {P : Program} {n : Fr} {ops : Array Oper} {K : SL → BS → Prop} {S : SL} {B : BS} {l : List Oper} {o : Oper}
end
section
variable {P : Program}
theorem fn_introSl (lo : Nat) {f : FuncId} {fn : Func} {c : Code} {xs : List SV} {B : BS} {r : SV} {B' : BS} (hf : P.funcs[f]? = some fn) (hb : fn.body = some c) (hc : callB P f = true) (hn : Nat.ble xs.length fn.ntmps = true) (hlo : ((xs.drop lo).all fun x => !x.pin) = true)
    (h : qR P ⟨lo, fn.ntmps, none⟩ c (RetS P fn.results.toList xs r B') ⟨initX xs 0, B⟩) : gB P f xs B r B' :=
  ⟨hc, fun w D β vs hD hmem hvl hargs => by
    refine (callsIn_wide (n := 0)).1 (callsIn_of_wp_marks hf hb trivial ?_)
    have hle : xs.length ≤ fn.ntmps := Nat.le_of_ble_eq_true hn
    obtain ⟨a0, ha0⟩ : ∃ a0 : Act, a0 = { tmps := vs.toArray ++ Array.replicate (fn.ntmps - vs.toArray.size) undef, defers := [] } := ⟨_, rfl⟩
    have hsz : a0.tmps.size = fn.ntmps := by rw [ha0]; simp; omega
    have hget : ∀ t, t < vs.length → vs[t]? = some (a0.tmps.getD t undef) := fun t ht => by
      rw [ha0, Array.getD_eq_getD_getElem?, Array.getElem?_append_left (by simpa using ht)]
      simp [ht]
    have hsim : dY ⟨w, D, w, a0.tmps, ⟨lo, fn.ntmps, none⟩, gJ β B⟩ a0 w ⟨initX xs 0, B⟩ D β := by
      refine ⟨⟨by rw [ha0]; exact .nil, hsz, fun _ _ _ _ => rfl, fun _ _ h _ => h, fun t _ => rfl, .of (Below.refl _ _), fun _ _ _ h => h, fun _ _ _ h => .inl h, hD⟩, hmem, fun k c hk b hb => .inr ⟨k, c, hk, hb⟩, fun t => ?_⟩
      show qG w D _ _ (kG (initX xs 0) t)
      rw [sget_initX]
      simp only [Nat.zero_le, if_true, Nat.sub_zero]
      cases hd : xs[t]? with
      | none => trivial
      | some x =>
        have ht : t < vs.length := by rw [hvl]; exact (List.getElem?_eq_some_iff.1 hd).1
        exact hargs t _ x (hget t ht) hd
    rw [← ha0]
    refine wpIn_mono (h _ _ w 0 rfl ⟨D, β, hsim⟩) fun e a w' ⟨st, ⟨D', β', hs⟩, hq⟩ => ?_
    have fin : RetS P fn.results.toList xs r B' .ret st → LeavesInM Fence.wide 0 P fn a.tmps (fun e w' => ∃ v D' β', e = .returned v ∧ SPost w D β xs B r B' v w' D' β') a.defers .returning w' := fun ⟨h1, h2, h3⟩ => by
      refine leaves_S hs.base.defers hs.slots hs.mem hs.base.below hs.base.keep hs.base.oth hs.base.dmono hs.base.dnew hs.base.dok hs.high (fun i x hi k hk => ?_) h1 h3
      have hlt : i < xs.length := (List.getElem?_eq_some_iff.1 hi).1
      have e1 := hs.slots i
      have hil : i < lo := by
        rcases Nat.lt_or_ge i lo with h | h
        · exact h
        · have := List.all_eq_true.1 hlo x (List.mem_of_getElem? (i := i - lo) (by rw [List.getElem?_drop, show lo + (i - lo) = i by omega]; exact hi))
          rw [pins_ptr hk] at this; cases this
      rw [h2 i x hi (pins_ptr hk), hs.base.pin i hil] at e1
      have e2 := hargs i _ _ (hget i (by omega)) hi
      cases x with
      | ref j o =>
        obtain rfl : j = k := yE hk
        obtain ⟨b1, g1, g2⟩ := e1
        obtain ⟨b2, g3, g4⟩ := e2
        rw [g1, g3]
        have e3 := g2.symm.trans g4
        injection e3 with e3
        injection e3 with e3
        injection e3 with e3
        rw [e3]
      | clo g js =>
        obtain ⟨j, hj, e⟩ := List.any_eq_true.1 hk
        rw [Bool.and_eq_true] at e
        obtain rfl : j = k := yE e.1
        obtain ⟨vs1, a1, a2, a3⟩ := e1
        obtain ⟨vs2, b1, b2, b3⟩ := e2
        have e3 := a1.symm.trans b1
        injection e3 with _ _ e3
        have e4 : vs1 = vs2 := by simpa using e3
        subst e4
        obtain ⟨q, hq⟩ := List.getElem?_of_mem hj
        obtain ⟨c1, g1, g2⟩ := a3 q _ hq
        obtain ⟨c2, g3, g4⟩ := b3 q _ hq
        rw [g1, g3]
        rw [g2] at g4
        injection g4 with g4
        injection g4 with g4
        injection g4 with g4
        injection g4 with g4
        rw [g4]
      | _ => cases hk
    cases e with
    | normal => exact fin hq
    | ret => exact fin hq
    | exit id => exact hq.elim
    | goto l => exact hq.elim
    | panic ch => exact hq.elim
    | outgrown => exact hq.elim⟩
end
theorem pwp_bring2 {P : Program} {n : Fr} {Q : Exit → PS → Prop} {st : PS} {α : Type} {A B D : Code} (St : α → PS) (I : α → Prop) (h1 : ∀ y, I y → qR P n D Q (St y)) (h2 : (∀ s, Met St I s → qR P n D Q s) → qR P n (.seq A (.seq B D)) Q st) : qR P n (.seq A (.seq B D)) Q st :=
  h2 fun s ⟨y, g1, g2⟩ => kH g1 (h1 y g2)
end Go.Fid
