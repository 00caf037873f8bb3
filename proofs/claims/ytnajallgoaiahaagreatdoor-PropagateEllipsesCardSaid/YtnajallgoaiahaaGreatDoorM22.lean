/- Part 22 of a proof: rules, plain facts, and functions walked. -/
import Derived.Test.YtnajallgoaiahaaGreatDoorM13
set_option linter.unusedVariables false
set_option linter.unusedSimpArgs false
namespace Go.Fid
open Go.RowKit (Below)
section
variable {P : Program} {o : Oper} {S : Nat → SV}
theorem e_mkf {f : FuncId} {ks : List Nat} {caps : List Operand} (ho : o.op = .makeFunc (.func f) #[] caps.toArray) (hx : caps.map (ev S) = ks.map (fun k => .ref k 0)) : uL P o S [] (.clo f ks) :=
  uL.same fun a w D β hop _ => by
    refine ⟨.func (.func f) #[] (caps.map a.eval).toArray, ?_, caps.map a.eval, rfl, ?_, fun i k hk => ?_⟩
    · simp only [execOp, ho, Instr.makeFunc, Array.map_empty, List.map_toArray, Sem.run_bind, Sem.run_pure, Result.andThen_ok]
      rfl
    · simpa using congrArg List.length hx
    · have hi := congrArg (fun l : List SV => l[i]?) hx
      simp only [List.getElem?_map, hk, Option.map_some, Option.map_eq_some_iff] at hi
      obtain ⟨c, hc, e⟩ := hi
      have hm := hop c (by simp [ho, Op.operands, List.mem_of_getElem? hc])
      rw [e] at hm
      obtain ⟨b, h1, h2⟩ := hm
      exact ⟨b, h1, by rw [List.getElem?_map, hc, Option.map_some, h2]⟩
theorem e_clc {y : Operand} {xs : List Operand} {ats : Array TypeId} {f : FuncId} {ds : List kD} {r : kD} {ks : List Nat} {css : List (List kD)} {E : TypeId} {rd : List (Nat × List SV)}
    (hf : jV P f (ds ++ css.map (fun cs => .cptr E cs 0)) r) (ho : o.op = .call { callee := .value y, args := xs.toArray, argTypes := ats }) (hy : ev S y = .clo f ks) (hx : xs.map (ev S) = ds.map .d)
    (hrk : rd = ks.zip (css.map (fun cs => cs.map SV.d))) (qV : css.length = ks.length) (ha : xX E r) : uL P o S rd (.d r) :=
  fun a w D β Q hop hrd hD => by
    have hyv := hop y (by simp [ho, Op.operands, Call.operands])
    rw [hy] at hyv
    obtain ⟨vs, hv1, hv2, hv3⟩ := hyv
    have hl : xs.length = ds.length := by simpa using congrArg List.length hx
    have hargs0 : Args w D (xs.map a.eval) ds := by
      refine ⟨by simpa using hl, fun i v d hv hd => ?_⟩
      rw [List.getElem?_map, Option.map_eq_some_iff] at hv
      obtain ⟨x, hxi, rfl⟩ := hv
      have hm := hop x (by simp [ho, Op.operands, Call.operands, List.mem_of_getElem? hxi])
      have hi := congrArg (fun l : List SV => l[i]?) hx
      simp only [List.getElem?_map, hxi, hd, Option.map_some, Option.some.injEq] at hi
      rw [hi] at hm
      exact hm
    have hrun : (execOp a.eval o).run P w = .ok (.enter f (xs.map a.eval ++ vs).toArray) w := by
      simp only [execOp, ho, resolve, Deferred.ofValue, hv1, Sem.run_bind, Sem.run_pure, Result.andThen_ok, invoke, Array.empty_append]
      rw [vD hf.may]
      simp
    -- the private variables are published for the time of the call
    let X : TypeId → Nat → Nat → Prop := fun t g _ => t = E ∧ ∃ k ∈ ks, β k = some g
    have hblk : ∀ (i : Nat) k cs, ks[i]? = some k → css[i]? = some cs → vE w D β k (cs.map SV.d) := fun i k cs hk hc => by
      refine hrd (k, cs.map SV.d) ?_
      rw [hrk]
      refine List.mem_of_getElem? (i := i) ?_
      rw [List.getElem?_zip_eq_some]
      exact ⟨hk, by rw [List.getElem?_map, hc]; rfl⟩
    have hcap : ∀ (i : Nat) k cs, ks[i]? = some k → css[i]? = some cs → ∃ b us T', β k = some b ∧ vs[i]? = some (.pointer (some ⟨b, 0, none⟩)) ∧ w.heap[b]? = some (.cells us T' (0, 0)) ∧
        (∀ (j : Nat) x, (cs.map SV.d)[j]? = some x → ∃ u, us[j]? = some u ∧ u.oneCell' = true ∧ qF w D β u x) ∧ ∀ t o, ¬ D t b o := fun i k cs hk hc => by
      obtain ⟨b, h1, h2⟩ := hv3 i k hk
      rcases hblk i k cs hk hc with ⟨g1, _⟩ | ⟨b', us, T', g1, g2, g3, g4, g5⟩
      · rw [h1] at g1; cases g1
      · obtain rfl : b = b' := by rw [h1] at g1; injection g1
        exact ⟨b, us, T', h1, h2, g2, g4, g5⟩
    have hXb : ∀ t g i, X t g i → (∀ t' i', ¬ D t' g i') ∧ g < w.heap.size := fun t g i ⟨_, k, hk, hb⟩ => by
      obtain ⟨i, hi⟩ := List.getElem?_of_mem hk
      have hlt : i < css.length := by rw [qV]; exact (List.getElem?_eq_some_iff.1 hi).1
      obtain ⟨b, us, T', h1, _, h3, _, h5⟩ := hcap i k _ hi (List.getElem?_eq_getElem hlt)
      obtain rfl : g = b := by rw [hb] at h1; injection h1
      exact ⟨fun t' i' => h5 t' i', uS h3⟩
    have hD' : DOk (fun t g i => D t g i ∨ X t g i) w := fun t g i hd => by
      rcases hd with hd | hd
      · exact hD _ _ _ hd
      · exact (hXb t g i hd).2
    have hmono : ∀ t' g i, D t' g i → (D t' g i ∨ X t' g i) ∧ w.cell? ⟨g, i, none⟩ = w.cell? ⟨g, i, none⟩ := fun t' g i hd => ⟨.inl hd, rfl⟩
    have hargs : Args w (fun t g i => D t g i ∨ X t g i) (xs.map a.eval ++ vs) (ds ++ css.map (fun cs => .cptr E cs 0)) := by
      refine ⟨by simp [hl, hv2, qV], fun i v d hv hd => ?_⟩
      by_cases hi : i < xs.length
      · rw [List.getElem?_append_left (by simpa using hi)] at hv
        rw [List.getElem?_append_left (by omega)] at hd
        exact uT.mono hmono (hargs0.2 i v d hv hd)
      · rw [List.getElem?_append_right (by simpa using hi), List.length_map] at hv
        rw [List.getElem?_append_right (by omega), ← hl] at hd
        rw [List.getElem?_map, Option.map_eq_some_iff] at hd
        obtain ⟨cs, hcs, rfl⟩ := hd
        have hlt : i - xs.length < ks.length := by rw [← qV]; exact (List.getElem?_eq_some_iff.1 hcs).1
        obtain ⟨b, us, T', h1, h2, h3, h4, h5⟩ := hcap _ _ cs (List.getElem?_eq_getElem hlt) hcs
        rw [h2] at hv
        injection hv with hv
        subst hv
        have hcell : ∀ j, w.cell? ⟨b, j, none⟩ = us[j]? := fun j => cell_of_row w b j us T' (0, 0) h3
        have hj : ∀ j, j < cs.length → ∃ u, us[j]? = some u ∧ u.oneCell' = true ∧ uT w D u (cs[j]?.getD (.tup [])) := fun j hj => by
          obtain ⟨u, q1, q2, q3⟩ := h4 j (.d cs[j]) (by rw [List.getElem?_map, List.getElem?_eq_getElem hj]; rfl)
          exact ⟨u, q1, q2, by rw [List.getElem?_eq_getElem hj]; exact q3⟩
        refine uT.cptr (off := 0) b 0 (fun j => us.getD j undef) (fun j _ => .inr ⟨rfl, _, List.getElem_mem hlt, h1⟩) (fun j hj' => ?_) (fun j hj' => ?_) (fun j d hd => ?_)
        · obtain ⟨u, q1, _, _⟩ := hj j hj'
          rw [Nat.zero_add, hcell, Array.getD_eq_getD_getElem?, q1]; rfl
        · obtain ⟨u, q1, q2, _⟩ := hj j hj'
          rw [Array.getD_eq_getD_getElem?, q1]; exact q2
        · obtain ⟨u, q1, q2, q3⟩ := hj j (List.getElem?_eq_some_iff.1 hd).1
          rw [Array.getD_eq_getD_getElem?, q1]
          rw [hd] at q3
          exact uT.mono hmono q3
    refine nL hrun ((hf.run w _ _ hD' hargs).mono fun e w' h => ?_)
    obtain ⟨v, D2, he, h1, h2, h3⟩ := h
    refine ⟨v, he, v, fun t g i => D2 t g i ∧ ¬ X t g i, rfl, h1, ⟨fun t g i hd => ⟨h2.up _ _ _ (.inl hd), fun hx' => (hXb t g i hx').1 t i hd⟩, fun t g i hd => ?_⟩, ?_⟩
    · rcases h2.new t g i hd.1 with h | h
      · rcases h with h | h
        · exact .inl h
        · exact absurd h hd.2
      · exact .inr h
    · exact ha.rep (fun t g i hne hd => ⟨hd, fun hx' => hne hx'.1⟩) h3
theorem oMf {f : FuncId} {caps : List Operand} (ks : List Nat) (ho : o.op = .makeFunc (.func f) #[] caps.toArray := by exact rfl) (hx : caps.map (ev S) = ks.map (fun k => .ref k 0) := by kernel_rfl) : uL P o S [] (.clo f ks) := e_mkf ho hx
end
def RKs (P : Program) (o : Oper) (S : SL) (B : BS) (ks : List Nat) (x : SV) : Prop := ∃ rd : List (Nat × List SV), rd.map (·.1) = ks ∧ uL P o (kI S) rd x ∧ ∀ p ∈ rd, kK B p.1 = some p.2
theorem oCc {P : Program} {o : Oper} {S : SL} {B : BS} {y : Operand} {xs : List Operand} {ats : Array TypeId} {f : FuncId} {ds : List kD} {r : kD} (ks : List Nat) (css : List (List kD))
    (hf : jV P f (ds ++ css.map (fun cs => .cptr 1000000 cs 0)) r) (ha : xX 1000000 r) (ho : o.op = .call { callee := .value y, args := xs.toArray, argTypes := ats } := by exact rfl) (hy : ev (kI S) y = .clo f ks := by kernel_rfl) (hx : xs.map (ev (kI S)) = ds.map .d := by kernel_rfl)
    (qV : Nat.beq css.length ks.length = true := by kernel_rfl) (hb : ks.map (fun k => kK B k) = css.map (fun cs => some (cs.map SV.d)) := by kernel_rfl) : RKs P o S B ks (.d r) := by
  have qV := Nat.eq_of_beq_eq_true qV
  refine ⟨ks.zip (css.map (fun cs => cs.map SV.d)), ?_, e_clc hf ho hy hx rfl qV ha, fun p hp => ?_⟩
  · rw [List.map_fst_zip]; simp [qV]
  · obtain ⟨i, hi⟩ := List.getElem?_of_mem hp
    rw [List.getElem?_zip_eq_some] at hi
    have h1 := congrArg (fun l : List (Option (List SV)) => l[i]?) hb
    simp only [List.getElem?_map, hi.1, Option.map_some] at h1
    have h2 := hi.2
    rw [List.getElem?_map, Option.map_eq_some_iff] at h2
    obtain ⟨cs, hc, e⟩ := h2
    rw [hc] at h1
    simp only [Option.map_some, Option.some.injEq] at h1
    rw [h1, e]
section
variable {P : Program} {n : Fr} {ops : Array Oper} {K : SL → BS → Prop} {S : SL} {B : BS} {l : List Oper} {o : Oper} {news : List Nat} {acc0 : List (List Nat × List Nat)}
theorem zC {ks : List Nat} {x : SV} (h : RKs P o S B ks x) (r : SK P n ops K ((dO o, x) :: S) B l) (g : goK n ops S o = true := by kernel_rfl) : SK P n ops K S B (o :: l) := by
  obtain ⟨st1, r1, r2⟩ := r
  obtain ⟨rd, _, h, hbk⟩ := h
  obtain ⟨hd, hg, hb⟩ := yP g
  have hs := Step.e (P := P) (n := n) (ops := ops) (st := ⟨S, B⟩) (o := o) h hg (by rw [hd]; exact hb) hbk
  rw [hd] at hs
  exact ⟨st1, .cons hs r1, r2⟩
theorem wC {ks : List Nat} {x : SV} (h : RKs P o S B ks x) (r : DK P n ops K news (acc0 ++ [(ks, [])]) ((dO o, x) :: S) B l) (g : goK n ops S o = true := by kernel_rfl) (hn : clearR ops S o news x = true := by kernel_rfl) : DK P n ops K news acc0 S B (o :: l) := by
  obtain ⟨st1, acc, r1, r0, r2⟩ := r
  obtain ⟨rd, hk, h, hbk⟩ := h
  obtain ⟨hd, hg, hb⟩ := yP g
  have hs := mH.e (P := P) (n := n) (ops := ops) (news := news) (st := ⟨S, B⟩) (o := o) h hg (by rw [hd]; exact hb) hbk hn
  rw [hd, hk] at hs
  exact ⟨st1, (ks, []) :: acc, .cons hs r1, by simpa using r0, r2⟩
end
end Go.Fid
set_option linter.unusedVariables false
set_option linter.unusedSimpArgs false
namespace Go.Fid
open Go.RowKit (Below)
inductive CArgs (bl : List (Nat × List kD)) : List Nat → List (List kD) → Prop
  | nil : CArgs bl [] []
  | cons {k : Nat} {cs : List kD} {ks : List Nat} {css : List (List kD)} (hk : (k, cs) ∈ bl) (h : CArgs bl ks css) : CArgs bl (k :: ks) (cs :: css)
theorem CArgs.len {bl : List (Nat × List kD)} {ks : List Nat} {css : List (List kD)} (h : CArgs bl ks css) : ks.length = css.length := by
  induction h with
  | nil => rfl
  | cons hk h ih => simp [ih]
theorem CArgs.get {bl : List (Nat × List kD)} {ks : List Nat} {css : List (List kD)} (h : CArgs bl ks css) : ∀ (i : Nat) k cs, ks[i]? = some k → css[i]? = some cs → (k, cs) ∈ bl := by
  induction h with
  | nil => intro i k cs h; simp at h
  | cons hk h ih =>
    intro i k cs h1 h2
    rcases i with _ | i
    · simp at h1 h2; subst h1; subst h2; exact hk
    · exact ih i k cs (by simpa using h1) (by simpa using h2)
inductive dU (bl : List (Nat × List kD)) (E : TypeId) : List SV → List kD → Prop
  | nil : dU bl E [] []
  | d {x : kD} {zs : List SV} {ds : List kD} (h : dU bl E zs ds) : dU bl E (.d x :: zs) (x :: ds)
  | v {k q n s : Nat} {cs es : List kD} {zs : List SV} {ds : List kD} (hk : (k, cs) ∈ bl) (hes : ∀ e ∈ es, e.cells.length = s) (hl : es.length = n) (hc : (cs.drop q).take (n * s) = kV es) (h : dU bl E zs ds) : dU bl E (.view k q n :: zs) (.sl E s es :: ds)
  | p {k o : Nat} {cs : List kD} {zs : List SV} {ds : List kD} (hk : (k, cs) ∈ bl) (h : dU bl E zs ds) : dU bl E (.ref k o :: zs) (.cptr E cs o :: ds)
  | c {f : FuncId} {ks : List Nat} {css : List (List kD)} {zs : List SV} {ds : List kD} (hk : CArgs bl ks css) (h : dU bl E zs ds) : dU bl E (.clo f ks :: zs) (.clo f (css.map fun cs => .cptr E cs 0) :: ds)
theorem dU.len {bl : List (Nat × List kD)} {E : TypeId} {zs : List SV} {ds : List kD} (h : dU bl E zs ds) : zs.length = ds.length := by
  induction h with
  | nil => rfl
  | d h ih => simp [ih]
  | v hk hes hl hc h ih => simp [ih]
  | p hk h ih => simp [ih]
  | c hk h ih => simp [ih]
theorem dU.rep {bl : List (Nat × List kD)} {E : TypeId} {zs : List SV} {ds : List kD} (h : dU bl E zs ds) {w : World} {D D' : qJ} {β : qG} (h1 : ∀ v x, uT w D v x → uT w D' v x)
    (h2 : ∀ (k q n s : Nat) (cs es : List kD) (v : Value), (k, cs) ∈ bl → (∀ e ∈ es, e.cells.length = s) → es.length = n → (cs.drop q).take (n * s) = kV es → qF w D β v (.view k q n) → uT w D' v (.sl E s es))
    (h3 : ∀ (k o : Nat) (cs : List kD) (v : Value), (k, cs) ∈ bl → qF w D β v (.ref k o) → uT w D' v (.cptr E cs o)) :
    ∀ (vs : List Value), vs.length = zs.length → (∀ (i : Nat) v x, vs[i]? = some v → zs[i]? = some x → qF w D β v x) → ∀ (i : Nat) v d, vs[i]? = some v → ds[i]? = some d → uT w D' v d := by
  induction h with
  | nil => intro vs _ _ i v d _ hd; simp at hd
  | d h ih =>
    intro vs hl hr i v d' hv hd
    rcases vs with _ | ⟨v0, vs⟩
    · simp at hl
    · rcases i with _ | i
      · simp at hv hd; subst hv; subst hd; exact h1 _ _ (hr 0 _ _ rfl rfl)
      · exact ih vs (by simpa using hl) (fun i v x h3 h4 => hr (i + 1) v x (by simpa using h3) (by simpa using h4)) i v d' (by simpa using hv) (by simpa using hd)
  | v hk hes hl' hc h ih =>
    intro vs hl hr i v d' hv hd
    rcases vs with _ | ⟨v0, vs⟩
    · simp at hl
    · rcases i with _ | i
      · simp at hv hd; subst hv; subst hd; exact h2 _ _ _ _ _ _ _ hk hes hl' hc (hr 0 _ _ rfl rfl)
      · exact ih vs (by simpa using hl) (fun i v x h3 h4 => hr (i + 1) v x (by simpa using h3) (by simpa using h4)) i v d' (by simpa using hv) (by simpa using hd)
  | p hk h ih =>
    intro vs hl hr i v d' hv hd
    rcases vs with _ | ⟨v0, vs⟩
    · simp at hl
    · rcases i with _ | i
      · simp at hv hd; subst hv; subst hd; exact h3 _ _ _ _ hk (hr 0 _ _ rfl rfl)
      · exact ih vs (by simpa using hl) (fun i v x h3 h4 => hr (i + 1) v x (by simpa using h3) (by simpa using h4)) i v d' (by simpa using hv) (by simpa using hd)
  | c hk h ih =>
    intro vs hl hr i v d' hv hd
    rcases vs with _ | ⟨v0, vs⟩
    · simp at hl
    · rcases i with _ | i
      · simp at hv hd; subst hv; subst hd
        obtain ⟨us, e1, e2, e3⟩ := hr 0 _ _ rfl rfl
        rw [e1]
        refine .clo us (by rw [e2, hk.len, List.length_map]) fun j u d hu hd => ?_
        rw [List.getElem?_map, Option.map_eq_some_iff] at hd
        obtain ⟨cs, hcs, rfl⟩ := hd
        have hlt : j < _ := (List.getElem?_eq_some_iff.1 hcs).1
        rw [← hk.len] at hlt
        obtain ⟨b, g1, g2⟩ := e3 j _ (List.getElem?_eq_getElem hlt)
        rw [hu] at g2
        injection g2 with g2
        exact h3 _ 0 cs u (hk.get j _ cs (List.getElem?_eq_getElem hlt) hcs) ⟨b, g1, g2⟩
      · exact ih vs (by simpa using hl) (fun i v x h3 h4 => hr (i + 1) v x (by simpa using h3) (by simpa using h4)) i v d' (by simpa using hv) (by simpa using hd)
theorem blk_pub {w : World} {D : qJ} {β : qG} {bl : List (Nat × List kD)} {E : TypeId} (hD : DOk D w) (hbl : ∀ p ∈ bl, vE w D β p.1 (p.2.map SV.d)) :
    ∃ X : TypeId → Nat → Nat → Prop, DOk (fun t g i => D t g i ∨ X t g i) w ∧ (∀ t g i, X t g i → t = E ∧ ∀ t' i', ¬ D t' g i') ∧
      (∀ (k q n s : Nat) (cs es : List kD) (v : Value), (k, cs) ∈ bl → (∀ e ∈ es, e.cells.length = s) → es.length = n → (cs.drop q).take (n * s) = kV es → qF w D β v (.view k q n) → uT w (fun t g i => D t g i ∨ X t g i) v (.sl E s es)) ∧
      (∀ (k o : Nat) (cs : List kD) (v : Value), (k, cs) ∈ bl → qF w D β v (.ref k o) → uT w (fun t g i => D t g i ∨ X t g i) v (.cptr E cs o)) := by
  let X : TypeId → Nat → Nat → Prop := fun t g _ => t = E ∧ ∃ p ∈ bl, β p.1 = some g
  have hcap : ∀ p ∈ bl, ∀ b, β p.1 = some b → ∃ us T', w.heap[b]? = some (.cells us T' (0, 0)) ∧ (∀ (j : Nat) x, (p.2.map SV.d)[j]? = some x → ∃ u, us[j]? = some u ∧ u.oneCell' = true ∧ qF w D β u x) ∧ ∀ t o, ¬ D t b o := fun p hp b hb => by
    rcases hbl p hp with ⟨g1, _⟩ | ⟨b', us, T', g1, g2, g3, g4, g5⟩
    · rw [hb] at g1; cases g1
    · obtain rfl : b = b' := by rw [hb] at g1; injection g1
      exact ⟨us, T', g2, g4, g5⟩
  have hmono : ∀ t' g i, D t' g i → (D t' g i ∨ X t' g i) ∧ w.cell? ⟨g, i, none⟩ = w.cell? ⟨g, i, none⟩ := fun t' g i hd => ⟨.inl hd, rfl⟩
  refine ⟨X, fun t g i hd => ?_, fun t g i ⟨h1, p, hp, hb⟩ => ?_, ?_, ?_⟩
  · rcases hd with hd | ⟨_, p, hp, hb⟩
    · exact hD _ _ _ hd
    · obtain ⟨us, T', g2, _, _⟩ := hcap p hp g hb; exact uS g2
  · obtain ⟨us, T', _, _, g5⟩ := hcap p hp g hb
    exact ⟨h1, fun t' i' => g5 t' i'⟩
  · intro k q n s cs es v hk hes hl hc hv
    obtain ⟨b, cap, h1, h2, h5, h6⟩ := hv
    obtain ⟨us, T', g2, g4, g5⟩ := hcap (k, cs) hk b h1
    rw [h2]
    have hfl := uX hes
    have hcell : ∀ i, w.cell? ⟨b, i, none⟩ = us[i]? := fun i => cell_of_row w b i us T' (0, 0) g2
    have key : ∀ (i : Nat) d, (kV es)[i]? = some d → ∃ u, us[q + i]? = some u ∧ u.oneCell' = true ∧ uT w D u d := fun i d hd => by
      have hi : i < n * s := by
        have := (List.getElem?_eq_some_iff.1 hd).1
        rw [hfl, hl] at this; exact this
      have e1 : cs[q + i]? = some d := by
        rw [← hc, List.getElem?_take_of_lt hi, List.getElem?_drop] at hd
        exact hd
      exact g4 _ (.d d) (by rw [List.getElem?_map, e1]; rfl)
    refine uT.sl b q (fun i => us.getD (q + i) undef) hl.symm h5 h6 hes (fun _ => rfl) (fun i hi => .inr ⟨rfl, _, hk, h1⟩) (fun i hi => ?_) (fun i hi => ?_) (fun i d hd => ?_)
    · obtain ⟨x, q1, q2, q3⟩ := key i _ (List.getElem?_eq_getElem hi)
      rw [hcell, Array.getD_eq_getD_getElem?, q1]; rfl
    · obtain ⟨x, q1, q2, q3⟩ := key i _ (List.getElem?_eq_getElem hi)
      rw [Array.getD_eq_getD_getElem?, q1]; exact q2
    · obtain ⟨x, q1, q2, q3⟩ := key i d hd
      rw [Array.getD_eq_getD_getElem?, q1]
      exact uT.mono hmono q3
  · intro k o cs v hk hv
    obtain ⟨b, h1, h2⟩ := hv
    obtain ⟨us, T', g2, g4, g5⟩ := hcap (k, cs) hk b h1
    rw [h2]
    have hcell : ∀ i, w.cell? ⟨b, i, none⟩ = us[i]? := fun i => cell_of_row w b i us T' (0, 0) g2
    have key : ∀ (i : Nat) d, cs[i]? = some d → ∃ u, us[i]? = some u ∧ u.oneCell' = true ∧ uT w D u d := fun i d hd => g4 _ (.d d) (by rw [List.getElem?_map, hd]; rfl)
    have hp := uT.cptr (w := w) (D := fun t g i => D t g i ∨ X t g i) (t := E) (cs := cs) (off := o) b 0 (fun i => us.getD i undef) (fun i hi => .inr ⟨rfl, _, hk, h1⟩) (fun i hi => by
      obtain ⟨x, q1, q2, q3⟩ := key i _ (List.getElem?_eq_getElem hi)
      rw [Nat.zero_add, hcell, Array.getD_eq_getD_getElem?, q1]; rfl) (fun i hi => by
      obtain ⟨x, q1, q2, q3⟩ := key i _ (List.getElem?_eq_getElem hi)
      rw [Array.getD_eq_getD_getElem?, q1]; exact q2) (fun i d hd => by
      obtain ⟨x, q1, q2, q3⟩ := key i d hd
      rw [Array.getD_eq_getD_getElem?, q1]
      exact uT.mono hmono q3)
    rw [Nat.zero_add] at hp
    exact hp
theorem e_clg {P : Program} {o : Oper} {S : Nat → SV} {y : Operand} {xs : List Operand} {ats : Array TypeId} {f : FuncId} {ds : List kD} {r : kD} {zs : List SV} {E : TypeId} {bl : List (Nat × List kD)} (hf : jV P f ds r) (ho : o.op = .call { callee := .value y, args := xs.toArray, argTypes := ats }) (hy : ev S y = .d (.val (.func (.func f) #[] #[])))
    (hx : xs.map (ev S) = zs) (hz : dU bl E zs ds) (ha : xX E r) : uL P o S (bl.map fun p => (p.1, p.2.map SV.d)) (.d r) :=
  fun a w D β Q hop hrd hD => by
    have hyv := hop y (by simp [ho, Op.operands, Call.operands])
    rw [hy] at hyv
    have hyv' := vA hyv
    have hrep : ∀ (i : Nat) v x, (xs.map a.eval)[i]? = some v → zs[i]? = some x → qF w D β v x := fun i v x hv hz' => by
      rw [List.getElem?_map, Option.map_eq_some_iff] at hv
      obtain ⟨p, hqi, rfl⟩ := hv
      have hm := hop p (by simp [ho, Op.operands, Call.operands, List.mem_of_getElem? hqi])
      have hi := congrArg (fun l : List SV => l[i]?) hx
      simp only [List.getElem?_map, hqi, hz', Option.map_some, Option.some.injEq] at hi
      rw [hi] at hm
      exact hm
    have qV : (xs.map a.eval).length = zs.length := by rw [← hx]; simp
    have hrun : (execOp a.eval o).run P w = .ok (.enter f (xs.map a.eval).toArray) w := by
      simp only [execOp, ho, resolve, Deferred.ofValue, hyv', Sem.run_bind, Sem.run_pure, Result.andThen_ok, invoke, Array.empty_append, Array.append_empty]
      rw [vD hf.may]
      simp
    obtain ⟨X, hD', hXp, hv, hp⟩ := blk_pub (E := E) (bl := bl) hD (fun p hp => hrd (p.1, p.2.map SV.d) (List.mem_map_of_mem (f := fun p : Nat × List kD => (p.1, p.2.map SV.d)) hp))
    have hmono : ∀ t' g i, D t' g i → (D t' g i ∨ X t' g i) ∧ w.cell? ⟨g, i, none⟩ = w.cell? ⟨g, i, none⟩ := fun t' g i hd => ⟨.inl hd, rfl⟩
    have hargs : Args w (fun t g i => D t g i ∨ X t g i) (xs.map a.eval) ds := ⟨qV.trans hz.len, hz.rep (fun v x h => uT.mono hmono h) hv hp _ qV hrep⟩
    refine nL hrun ((hf.run w _ _ hD' hargs).mono fun e w' h => ?_)
    obtain ⟨v, D2, he, h1, h2, h3⟩ := h
    refine ⟨v, he, v, fun t g i => D2 t g i ∧ ¬ X t g i, rfl, h1, ⟨fun t g i hd => ⟨h2.up _ _ _ (.inl hd), fun hx' => (hXp t g i hx').2 t i hd⟩, fun t g i hd => ?_⟩, ?_⟩
    · rcases h2.new t g i hd.1 with h | h
      · rcases h with h | h
        · exact .inl h
        · exact absurd h hd.2
      · exact .inr h
    · exact ha.rep (fun t g i hne hd => ⟨hd, fun hx' => hne (hXp t g i hx').1⟩) h3
theorem oCg {P : Program} {o : Oper} {S : SL} {B : BS} {y : Operand} {xs : List Operand} {ats : Array TypeId} {f : FuncId} {ds : List kD} {r : kD} (bl : List (Nat × List kD)) (zs : List SV) (hf : jV P f ds r) (hz : dU bl 1000000 zs ds) (ha : xX 1000000 r)
    (ho : o.op = .call { callee := .value y, args := xs.toArray, argTypes := ats } := by exact rfl) (hy : ev (kI S) y = .d (.val (.func (.func f) #[] #[])) := by kernel_rfl) (hx : xs.map (ev (kI S)) = zs := by kernel_rfl)
    (hb : bl.map (fun p => kK B p.1) = bl.map (fun p => some (p.2.map SV.d)) := by kernel_rfl) {ks : List Nat} (hks : bl.map (·.1) = ks := by exact rfl) : RKs P o S B ks (.d r) := by
  refine ⟨bl.map fun p => (p.1, p.2.map SV.d), by rw [List.map_map]; exact hks, e_clg hf ho hy hx hz ha, fun p hp => ?_⟩
  obtain ⟨q, hq, rfl⟩ := List.mem_map.1 hp
  exact List.map_inj_left.1 hb q hq
end Go.Fid
set_option linter.unusedVariables false
set_option linter.unusedSimpArgs false
namespace Go.Fid
variable {P : Program}
end Go.Fid
set_option linter.unusedVariables false
set_option linter.unusedSimpArgs false
namespace Go.Fid
variable {P : Program} {o : Oper} {S : Nat → SV}
theorem e_nckd {x : Operand} {t : TypeId} {q : Nat} {cs : List kD} (ho : o.op = .nilCheck x) (hx : ev S x = .d (.cptr t cs q)) : uL P o S [] (.d (.cptr t cs q)) :=
  uL.same fun a' w D β hop _ => by
    have hp := hop x (by simp [ho, Op.operands])
    rw [hx] at hp
    generalize hvv : a'.eval x = v at hp
    cases hp with
    | cptr g p u hD hu h1 hr =>
      exact ⟨.pointer (some ⟨g, p + q, none⟩), by simp [execOp, ho, hvv], uT.cptr g p u hD hu h1 hr⟩
theorem oNd {x : Operand} {t : TypeId} {q : Nat} {cs : List kD} (ho : o.op = .nilCheck x := by exact rfl) (hx : ev S x = .d (.cptr t cs q) := by exact rfl) : uL P o S [] (.d (.cptr t cs q)) := e_nckd ho hx
end Go.Fid
set_option linter.unusedVariables false
set_option linter.unusedSimpArgs false
namespace Go.Fid
variable {P : Program} {o : Oper} {S : Nat → SV}
theorem e_cld {y : Operand} {xs : List Operand} {ats : Array TypeId} {f : FuncId} {ds caps : List kD} {r : kD} (hf : jV P f (ds ++ caps) r) (ho : o.op = .call { callee := .value y, args := xs.toArray, argTypes := ats }) (hy : ev S y = .d (.clo f caps)) (hx : xs.map (ev S) = ds.map .d) : uL P o S [] (.d r) :=
  fun a w D β Q hop hrd hD => by
    have hyv := hop y (by simp [ho, Op.operands, Call.operands])
    rw [hy] at hyv
    generalize hvv : a.eval y = v at hyv
    cases hyv with
    | clo vs hl hr =>
      have hlx : xs.length = ds.length := by simpa using congrArg List.length hx
      have hargs : Args w D (xs.map a.eval ++ vs) (ds ++ caps) := by
        refine ⟨by simp [hlx, hl], fun i v d hv hd => ?_⟩
        by_cases hi : i < xs.length
        · rw [List.getElem?_append_left (by simpa using hi), List.getElem?_map, Option.map_eq_some_iff] at hv
          rw [List.getElem?_append_left (by omega)] at hd
          obtain ⟨x, hxi, rfl⟩ := hv
          have hm := hop x (by simp [ho, Op.operands, Call.operands, List.mem_of_getElem? hxi])
          have hi := congrArg (fun l : List SV => l[i]?) hx
          simp only [List.getElem?_map, hxi, hd, Option.map_some, Option.some.injEq] at hi
          rw [hi] at hm
          exact hm
        · rw [List.getElem?_append_right (by simpa using hi), List.length_map] at hv
          rw [List.getElem?_append_right (by omega), ← hlx] at hd
          exact hr _ _ _ hv hd
      have hrun : (execOp a.eval o).run P w = .ok (.enter f (xs.map a.eval ++ vs).toArray) w := by
        simp only [execOp, ho, resolve, Deferred.ofValue, hvv, Sem.run_bind, Sem.run_pure, Result.andThen_ok, invoke, Array.empty_append]
        rw [vD hf.may]
        simp
      refine nL hrun ((hf.run w _ _ hD hargs).mono fun e w' h => ?_)
      obtain ⟨v, D2, he, h1, h2, h3⟩ := h
      exact ⟨v, he, v, D2, rfl, h1, h2, h3⟩
theorem oCd {S : SL} {y : Operand} {xs : List Operand} {ats : Array TypeId} {f : FuncId} {ds caps : List kD} {r : kD} (hf : jV P f (ds ++ caps) r) (ho : o.op = .call { callee := .value y, args := xs.toArray, argTypes := ats } := by exact rfl)
    (hy : ev (kI S) y = .d (.clo f caps) := by exact rfl) (hx : xs.map (ev (kI S)) = ds.map .d := by kernel_rfl) : uL P o (kI S) [] (.d r) := e_cld hf ho hy hx
theorem e_shr {T T' : TypeId} {x y : Operand} {k k' : IntKind} {m : Int} {n : Nat} (r : Int) (ho : o.op = .binOp .shr T x y T' := by exact rfl) (hx : ev S x = .d (.val (.int k m)) := by exact rfl) (hy : ev S y = .d (.val (.int k' ((n : Nat) : Int))) := by exact rfl)
    (hr : m.fdiv (2 ^ (min n k.bits)) = r := by kernel_rfl) : uL P o S [] (.d (.val (.int k r))) :=
  dN ho hx hy (by simp [eqGuard]) fun w => by
    have h0 : ¬ ((n : Nat) : Int) < 0 := by omega
    simp only [binOp, Op.shift, h0, if_false, Int.toNat_natCast, hr, Sem.run_pure]
end Go.Fid
