/- Part 22 of a proof: rules, plain facts, and functions walked. -/
import Derived.Test.YtihgdjljnaekmaaGreatM15
import Derived.Test.YtihgdjljnaekmaaGreatM13
import Derived.Test.YtihgdjljnaekmaaGreatM21
import Derived.Test.YtihgdjljnaekmaaGreatM11
set_option linter.unusedVariables false
set_option linter.unusedSimpArgs false
namespace Go.Fid
open Go.RowKit (Below)
section
variable {P : Program} {o : Oper} {S : Nat → SV}
theorem e_mkf {f : FuncId} {ks : List Nat} {caps : List Operand} (ho : o.op = .makeFunc (.func f) #[] caps.toArray) (hx : caps.map (ev S) = ks.map (fun k => .ref k 0)) : EOk P o S [] (.clo f ks) :=
  EOk.same fun a w D β hop _ => by
    refine ⟨.func (.func f) #[] (caps.map a.eval).toArray, ?_, caps.map a.eval, rfl, ?_, fun i k hk => ?_⟩
    · simp only [execOp, ho, Instr.makeFunc, Array.map_empty, List.map_toArray, Sem.run_bind, Sem.run_pure, Result.andThen_ok]
      rfl
    · simpa using congrArg List.length hx
    · have hi := congrArg (fun l : List SV => l[i]?) hx
      simp only [List.getElem?_map, hk, Option.map_some, Option.map_eq_some_iff] at hi
      obtain ⟨c, hc, e⟩ := hi
      have hm := hop c (by simp [ho, Op.operands, List.mem_of_getElem? hc])
      rw [e] at hm
      obtain ⟨b, h1, h2⟩ := hm
      exact ⟨b, h1, by rw [List.getElem?_map, hc, Option.map_some, h2]⟩
theorem e_clc {y : Operand} {xs : List Operand} {ats : Array TypeId} {f : FuncId} {ds : List Dat} {r : Dat} {ks : List Nat} {css : List (List Dat)} {E : TypeId} {rd : List (Nat × List SV)}
    (hf : Takes P f (ds ++ css.map (fun cs => .cptr E cs 0)) r) (ho : o.op = .call { callee := .value y, args := xs.toArray, argTypes := ats }) (hy : ev S y = .clo f ks) (hx : xs.map (ev S) = ds.map .d)
    (hrk : rd = ks.zip (css.map (fun cs => cs.map SV.d))) (hlen : css.length = ks.length) (ha : Avoids E r) : EOk P o S rd (.d r) :=
  fun a w D β Q hop hrd hD => by
    have hyv := hop y (by simp [ho, Op.operands, Call.operands])
    rw [hy] at hyv
    obtain ⟨vs, hv1, hv2, hv3⟩ := hyv
    have hl : xs.length = ds.length := by simpa using congrArg List.length hx
    have hargs0 : Args w D (xs.map a.eval) ds := by
      refine ⟨by simpa using hl, fun i v d hv hd => ?_⟩
      rw [List.getElem?_map, Option.map_eq_some_iff] at hv
      obtain ⟨x, hxi, rfl⟩ := hv
      have hm := hop x (by simp [ho, Op.operands, Call.operands, List.mem_of_getElem? hxi])
      have hi := congrArg (fun l : List SV => l[i]?) hx
      simp only [List.getElem?_map, hxi, hd, Option.map_some, Option.some.injEq] at hi
      rw [hi] at hm
      exact hm
    have hrun : (execOp a.eval o).run P w = .ok (.enter f (xs.map a.eval ++ vs).toArray) w := by
      simp only [execOp, ho, resolve, Deferred.ofValue, hv1, Sem.run_bind, Sem.run_pure, Result.andThen_ok, invoke, Array.empty_append]
      rw [run_callFunc hf.may]
      simp
    -- the private variables are published for the time of the call
    let X : TypeId → Nat → Nat → Prop := fun t g _ => t = E ∧ ∃ k ∈ ks, β k = some g
    have hblk : ∀ (i : Nat) k cs, ks[i]? = some k → css[i]? = some cs → BlkOk w D β k (cs.map SV.d) := fun i k cs hk hc => by
      refine hrd (k, cs.map SV.d) ?_
      rw [hrk]
      refine List.mem_of_getElem? (i := i) ?_
      rw [List.getElem?_zip_eq_some]
      exact ⟨hk, by rw [List.getElem?_map, hc]; rfl⟩
    have hcap : ∀ (i : Nat) k cs, ks[i]? = some k → css[i]? = some cs → ∃ b us T', β k = some b ∧ vs[i]? = some (.pointer (some ⟨b, 0, none⟩)) ∧ w.heap[b]? = some (.cells us T' (0, 0)) ∧
        (∀ (j : Nat) x, (cs.map SV.d)[j]? = some x → ∃ u, us[j]? = some u ∧ u.oneCell' = true ∧ RepS w D β u x) ∧ ∀ t o, ¬ D t b o := fun i k cs hk hc => by
      obtain ⟨b, h1, h2⟩ := hv3 i k hk
      rcases hblk i k cs hk hc with ⟨g1, _⟩ | ⟨b', us, T', g1, g2, g3, g4, g5⟩
      · rw [h1] at g1; cases g1
      · obtain rfl : b = b' := by rw [h1] at g1; injection g1
        exact ⟨b, us, T', h1, h2, g2, g4, g5⟩
    have hXb : ∀ t g i, X t g i → (∀ t' i', ¬ D t' g i') ∧ g < w.heap.size := fun t g i ⟨_, k, hk, hb⟩ => by
      obtain ⟨i, hi⟩ := List.getElem?_of_mem hk
      have hlt : i < css.length := by rw [hlen]; exact (List.getElem?_eq_some_iff.1 hi).1
      obtain ⟨b, us, T', h1, _, h3, _, h5⟩ := hcap i k _ hi (List.getElem?_eq_getElem hlt)
      obtain rfl : g = b := by rw [hb] at h1; injection h1
      exact ⟨fun t' i' => h5 t' i', heap_lt h3⟩
    have hD' : DOk (fun t g i => D t g i ∨ X t g i) w := fun t g i hd => by
      rcases hd with hd | hd
      · exact hD _ _ _ hd
      · exact (hXb t g i hd).2
    have hmono : ∀ t' g i, D t' g i → (D t' g i ∨ X t' g i) ∧ w.cell? ⟨g, i, none⟩ = w.cell? ⟨g, i, none⟩ := fun t' g i hd => ⟨.inl hd, rfl⟩
    have hargs : Args w (fun t g i => D t g i ∨ X t g i) (xs.map a.eval ++ vs) (ds ++ css.map (fun cs => .cptr E cs 0)) := by
      refine ⟨by simp [hl, hv2, hlen], fun i v d hv hd => ?_⟩
      by_cases hi : i < xs.length
      · rw [List.getElem?_append_left (by simpa using hi)] at hv
        rw [List.getElem?_append_left (by omega)] at hd
        exact Rep.mono hmono (hargs0.2 i v d hv hd)
      · rw [List.getElem?_append_right (by simpa using hi), List.length_map] at hv
        rw [List.getElem?_append_right (by omega), ← hl] at hd
        rw [List.getElem?_map, Option.map_eq_some_iff] at hd
        obtain ⟨cs, hcs, rfl⟩ := hd
        have hlt : i - xs.length < ks.length := by rw [← hlen]; exact (List.getElem?_eq_some_iff.1 hcs).1
        obtain ⟨b, us, T', h1, h2, h3, h4, h5⟩ := hcap _ _ cs (List.getElem?_eq_getElem hlt) hcs
        rw [h2] at hv
        injection hv with hv
        subst hv
        have hcell : ∀ j, w.cell? ⟨b, j, none⟩ = us[j]? := fun j => cell_of_row w b j us T' (0, 0) h3
        have hj : ∀ j, j < cs.length → ∃ u, us[j]? = some u ∧ u.oneCell' = true ∧ Rep w D u (cs[j]?.getD (.tup [])) := fun j hj => by
          obtain ⟨u, q1, q2, q3⟩ := h4 j (.d cs[j]) (by rw [List.getElem?_map, List.getElem?_eq_getElem hj]; rfl)
          exact ⟨u, q1, q2, by rw [List.getElem?_eq_getElem hj]; exact q3⟩
        refine Rep.cptr (off := 0) b 0 (fun j => us.getD j undef) (fun j _ => .inr ⟨rfl, _, List.getElem_mem hlt, h1⟩) (fun j hj' => ?_) (fun j hj' => ?_) (fun j d hd => ?_)
        · obtain ⟨u, q1, _, _⟩ := hj j hj'
          rw [Nat.zero_add, hcell, Array.getD_eq_getD_getElem?, q1]; rfl
        · obtain ⟨u, q1, q2, _⟩ := hj j hj'
          rw [Array.getD_eq_getD_getElem?, q1]; exact q2
        · obtain ⟨u, q1, q2, q3⟩ := hj j (List.getElem?_eq_some_iff.1 hd).1
          rw [Array.getD_eq_getD_getElem?, q1]
          rw [hd] at q3
          exact Rep.mono hmono q3
    refine wp_enter hrun ((hf.run w _ _ hD' hargs).mono fun e w' h => ?_)
    obtain ⟨v, D2, he, h1, h2, h3⟩ := h
    refine ⟨v, he, v, fun t g i => D2 t g i ∧ ¬ X t g i, rfl, h1, ⟨fun t g i hd => ⟨h2.up _ _ _ (.inl hd), fun hx' => (hXb t g i hx').1 t i hd⟩, fun t g i hd => ?_⟩, ?_⟩
    · rcases h2.new t g i hd.1 with h | h
      · rcases h with h | h
        · exact .inl h
        · exact absurd h hd.2
      · exact .inr h
    · exact ha.rep (fun t g i hne hd => ⟨hd, fun hx' => hne hx'.1⟩) h3
theorem oMf {f : FuncId} {caps : List Operand} (ks : List Nat) (ho : o.op = .makeFunc (.func f) #[] caps.toArray := by exact rfl) (hx : caps.map (ev S) = ks.map (fun k => .ref k 0) := by kernel_rfl) : EOk P o S [] (.clo f ks) := e_mkf ho hx
end
def RKs (P : Program) (o : Oper) (S : SL) (B : BS) (ks : List Nat) (x : SV) : Prop := ∃ rd : List (Nat × List SV), rd.map (·.1) = ks ∧ EOk P o (sget S) rd x ∧ ∀ p ∈ rd, bget B p.1 = some p.2
theorem oCc {P : Program} {o : Oper} {S : SL} {B : BS} {y : Operand} {xs : List Operand} {ats : Array TypeId} {f : FuncId} {ds : List Dat} {r : Dat} (ks : List Nat) (css : List (List Dat))
    (hf : Takes P f (ds ++ css.map (fun cs => .cptr 1000000 cs 0)) r) (ha : Avoids 1000000 r) (ho : o.op = .call { callee := .value y, args := xs.toArray, argTypes := ats } := by exact rfl) (hy : ev (sget S) y = .clo f ks := by kernel_rfl) (hx : xs.map (ev (sget S)) = ds.map .d := by kernel_rfl)
    (hlen : Nat.beq css.length ks.length = true := by kernel_rfl) (hb : ks.map (fun k => bget B k) = css.map (fun cs => some (cs.map SV.d)) := by kernel_rfl) : RKs P o S B ks (.d r) := by
  have hlen := Nat.eq_of_beq_eq_true hlen
  refine ⟨ks.zip (css.map (fun cs => cs.map SV.d)), ?_, e_clc hf ho hy hx rfl hlen ha, fun p hp => ?_⟩
  · rw [List.map_fst_zip]; simp [hlen]
  · obtain ⟨i, hi⟩ := List.getElem?_of_mem hp
    rw [List.getElem?_zip_eq_some] at hi
    have h1 := congrArg (fun l : List (Option (List SV)) => l[i]?) hb
    simp only [List.getElem?_map, hi.1, Option.map_some] at h1
    have h2 := hi.2
    rw [List.getElem?_map, Option.map_eq_some_iff] at h2
    obtain ⟨cs, hc, e⟩ := h2
    rw [hc] at h1
    simp only [Option.map_some, Option.some.injEq] at h1
    rw [h1, e]
section
variable {P : Program} {n : Fr} {ops : Array Oper} {K : SL → BS → Prop} {S : SL} {B : BS} {l : List Oper} {o : Oper} {news : List Nat} {acc0 : List (List Nat × List Nat)}
theorem zC {ks : List Nat} {x : SV} (h : RKs P o S B ks x) (r : SK P n ops K ((dO o, x) :: S) B l) (g : goK n ops S o = true := by kernel_rfl) : SK P n ops K S B (o :: l) := by
  obtain ⟨st1, r1, r2⟩ := r
  obtain ⟨rd, _, h, hbk⟩ := h
  obtain ⟨hd, hg, hb⟩ := goK_spec g
  have hs := Step.e (P := P) (n := n) (ops := ops) (st := ⟨S, B⟩) (o := o) h hg (by rw [hd]; exact hb) hbk
  rw [hd] at hs
  exact ⟨st1, .cons hs r1, r2⟩
end
end Go.Fid
set_option linter.unusedVariables false
set_option linter.unusedSimpArgs false
namespace Go.Fid
open Go.RowKit (Below)
inductive CArgs (bl : List (Nat × List Dat)) : List Nat → List (List Dat) → Prop
  | nil : CArgs bl [] []
  | cons {k : Nat} {cs : List Dat} {ks : List Nat} {css : List (List Dat)} (hk : (k, cs) ∈ bl) (h : CArgs bl ks css) : CArgs bl (k :: ks) (cs :: css)
theorem CArgs.len {bl : List (Nat × List Dat)} {ks : List Nat} {css : List (List Dat)} (h : CArgs bl ks css) : ks.length = css.length := by
  induction h with
  | nil => rfl
  | cons hk h ih => simp [ih]
theorem CArgs.get {bl : List (Nat × List Dat)} {ks : List Nat} {css : List (List Dat)} (h : CArgs bl ks css) : ∀ (i : Nat) k cs, ks[i]? = some k → css[i]? = some cs → (k, cs) ∈ bl := by
  induction h with
  | nil => intro i k cs h; simp at h
  | cons hk h ih =>
    intro i k cs h1 h2
    rcases i with _ | i
    · simp at h1 h2; subst h1; subst h2; exact hk
    · exact ih i k cs (by simpa using h1) (by simpa using h2)
inductive MArgs (bl : List (Nat × List Dat)) (E : TypeId) : List SV → List Dat → Prop
  | nil : MArgs bl E [] []
  | d {x : Dat} {zs : List SV} {ds : List Dat} (h : MArgs bl E zs ds) : MArgs bl E (.d x :: zs) (x :: ds)
  | v {k q n s : Nat} {cs es : List Dat} {zs : List SV} {ds : List Dat} (hk : (k, cs) ∈ bl) (hes : ∀ e ∈ es, e.cells.length = s) (hl : es.length = n) (hc : (cs.drop q).take (n * s) = flat es) (h : MArgs bl E zs ds) : MArgs bl E (.view k q n :: zs) (.sl E s es :: ds)
  | p {k o : Nat} {cs : List Dat} {zs : List SV} {ds : List Dat} (hk : (k, cs) ∈ bl) (h : MArgs bl E zs ds) : MArgs bl E (.ref k o :: zs) (.cptr E cs o :: ds)
  | c {f : FuncId} {ks : List Nat} {css : List (List Dat)} {zs : List SV} {ds : List Dat} (hk : CArgs bl ks css) (h : MArgs bl E zs ds) : MArgs bl E (.clo f ks :: zs) (.clo f (css.map fun cs => .cptr E cs 0) :: ds)
theorem MArgs.len {bl : List (Nat × List Dat)} {E : TypeId} {zs : List SV} {ds : List Dat} (h : MArgs bl E zs ds) : zs.length = ds.length := by
  induction h with
  | nil => rfl
  | d h ih => simp [ih]
  | v hk hes hl hc h ih => simp [ih]
  | p hk h ih => simp [ih]
  | c hk h ih => simp [ih]
theorem MArgs.rep {bl : List (Nat × List Dat)} {E : TypeId} {zs : List SV} {ds : List Dat} (h : MArgs bl E zs ds) {w : World} {D D' : DSet} {β : BMap} (h1 : ∀ v x, Rep w D v x → Rep w D' v x)
    (h2 : ∀ (k q n s : Nat) (cs es : List Dat) (v : Value), (k, cs) ∈ bl → (∀ e ∈ es, e.cells.length = s) → es.length = n → (cs.drop q).take (n * s) = flat es → RepS w D β v (.view k q n) → Rep w D' v (.sl E s es))
    (h3 : ∀ (k o : Nat) (cs : List Dat) (v : Value), (k, cs) ∈ bl → RepS w D β v (.ref k o) → Rep w D' v (.cptr E cs o)) :
    ∀ (vs : List Value), vs.length = zs.length → (∀ (i : Nat) v x, vs[i]? = some v → zs[i]? = some x → RepS w D β v x) → ∀ (i : Nat) v d, vs[i]? = some v → ds[i]? = some d → Rep w D' v d := by
  induction h with
  | nil => intro vs _ _ i v d _ hd; simp at hd
  | d h ih =>
    intro vs hl hr i v d' hv hd
    rcases vs with _ | ⟨v0, vs⟩
    · simp at hl
    · rcases i with _ | i
      · simp at hv hd; subst hv; subst hd; exact h1 _ _ (hr 0 _ _ rfl rfl)
      · exact ih vs (by simpa using hl) (fun i v x h3 h4 => hr (i + 1) v x (by simpa using h3) (by simpa using h4)) i v d' (by simpa using hv) (by simpa using hd)
  | v hk hes hl' hc h ih =>
    intro vs hl hr i v d' hv hd
    rcases vs with _ | ⟨v0, vs⟩
    · simp at hl
    · rcases i with _ | i
      · simp at hv hd; subst hv; subst hd; exact h2 _ _ _ _ _ _ _ hk hes hl' hc (hr 0 _ _ rfl rfl)
      · exact ih vs (by simpa using hl) (fun i v x h3 h4 => hr (i + 1) v x (by simpa using h3) (by simpa using h4)) i v d' (by simpa using hv) (by simpa using hd)
  | p hk h ih =>
    intro vs hl hr i v d' hv hd
    rcases vs with _ | ⟨v0, vs⟩
    · simp at hl
    · rcases i with _ | i
      · simp at hv hd; subst hv; subst hd; exact h3 _ _ _ _ hk (hr 0 _ _ rfl rfl)
      · exact ih vs (by simpa using hl) (fun i v x h3 h4 => hr (i + 1) v x (by simpa using h3) (by simpa using h4)) i v d' (by simpa using hv) (by simpa using hd)
  | c hk h ih =>
    intro vs hl hr i v d' hv hd
    rcases vs with _ | ⟨v0, vs⟩
    · simp at hl
    · rcases i with _ | i
      · simp at hv hd; subst hv; subst hd
        obtain ⟨us, e1, e2, e3⟩ := hr 0 _ _ rfl rfl
        rw [e1]
        refine .clo us (by rw [e2, hk.len, List.length_map]) fun j u d hu hd => ?_
        rw [List.getElem?_map, Option.map_eq_some_iff] at hd
        obtain ⟨cs, hcs, rfl⟩ := hd
        have hlt : j < _ := (List.getElem?_eq_some_iff.1 hcs).1
        rw [← hk.len] at hlt
        obtain ⟨b, g1, g2⟩ := e3 j _ (List.getElem?_eq_getElem hlt)
        rw [hu] at g2
        injection g2 with g2
        exact h3 _ 0 cs u (hk.get j _ cs (List.getElem?_eq_getElem hlt) hcs) ⟨b, g1, g2⟩
      · exact ih vs (by simpa using hl) (fun i v x h3 h4 => hr (i + 1) v x (by simpa using h3) (by simpa using h4)) i v d' (by simpa using hv) (by simpa using hd)
end Go.Fid
set_option linter.unusedVariables false
set_option linter.unusedSimpArgs false
namespace Go.Fid
variable {P : Program}
def intFs (P : Program) : List Field → Nat → Bool
  | [], _ => true
  | f :: l, i => (f.name != "_") && (Nat.beq f.offset i && ((match P.underlying f.type with | some (.int _) => true | _ => false) && intFs P l (i + 1)))
def eqsB (P : Program) (T : TypeId) : Option Nat :=
  match P.underlying T with
  | some (.struct fs) => if intFs P fs.toList 0 && (!P.stoodInHeld T && !P.eqGuardType P.depth T) then some fs.size else none
  | _ => none
theorem run_part_int {t : TypeId} {ms : List Int} {i : Nat} {m : Int} {k j : IntKind} (ht : P.underlying t = some (.int j)) (hi : ms[i]? = some m) (w : World) : (part t (ms.map (Value.int k)).toArray i).run P w = .ok (.int k m) w := by
  have h2 : (ms.map (Value.int k))[i]? = some (.int k m) := by rw [List.getElem?_map, hi]; rfl
  simp [part, run_isAgg ht, isAggD, h2]
theorem run_eqInt {t : TypeId} {k j : IntKind} {m n : Int} (ht : P.underlying t = some (.int j)) (d : Nat) (w : World) : (Op.equalIn (d + 1) t (.int k m) (.int k n)).run P w = .ok (m == n) w := by
  simp [Op.equalIn, run_underlying ht]
theorem run_fs (k : IntKind) (d : Nat) (w : World) (ms ns : List Int) : ∀ (l : List Field) (i : Nat), intFs P l i = true → ms.length = i + l.length → ns.length = i + l.length →
    Sem.run P (forIn l ((none, ()) : Option Bool × Unit) fun f _ =>
            if f.name = "_" then pure (ForInStep.yield (none, ()))
            else do
              let a ← part f.type (List.map (Value.int k) ms).toArray f.offset
              let b ← part f.type (List.map (Value.int k) ns).toArray f.offset
              let c ← Op.equalIn (d + 1) f.type a b
              if c = false then pure (ForInStep.done (some false, ())) else pure (ForInStep.yield (none, ()))) w = .ok (if ms.drop i = ns.drop i then (none, ()) else (some false, ())) w
  | [], i, _, h1, h2 => by
    have e1 : ms.drop i = [] := List.drop_eq_nil_of_le (by simp at h1; omega)
    have e2 : ns.drop i = [] := List.drop_eq_nil_of_le (by simp at h2; omega)
    rw [e1, e2]; simp
  | f :: l, i, h, h1, h2 => by
    unfold intFs at h
    simp only [Bool.and_eq_true, bne_iff_ne, ne_eq] at h
    obtain ⟨g1, g2, g3, g4⟩ := h
    have g2 : f.offset = i := Nat.eq_of_beq_eq_true g2
    have hd : ∃ j, P.underlying f.type = some (.int j) := by
      split at g3
      · rename_i j e; exact ⟨j, e⟩
      · cases g3
    obtain ⟨j, hj⟩ := hd
    simp only [List.length_cons] at h1 h2
    have b1 : i < ms.length := by omega
    have b2 : i < ns.length := by omega
    have ih := run_fs k d w ms ns l (i + 1) g4 (by omega) (by omega)
    have e1 := List.drop_eq_getElem_cons b1
    have e2 := List.drop_eq_getElem_cons b2
    simp only [List.forIn_cons, g1, if_false, g2, Sem.run_bind, run_part_int hj (List.getElem?_eq_getElem b1), run_part_int hj (List.getElem?_eq_getElem b2), Result.andThen_ok, run_eqInt hj]
    by_cases he : ms[i] = ns[i]
    · have hx : (ms.drop i = ns.drop i) = (ms.drop (i + 1) = ns.drop (i + 1)) := by
        rw [e1, e2, he]
        exact propext ⟨fun h => (List.cons.inj h).2, fun h => by rw [h]⟩
      simp only [he, beq_self_eq_true, Bool.true_eq_false, if_false, Sem.run_pure, Result.andThen_ok]
      rw [ih]
      simp only [hx]
    · have hx : ¬ ms.drop i = ns.drop i := by
        rw [e1, e2]
        exact fun h => he (List.cons.inj h).1
      have hb : (ms[i] == ns[i]) = false := by simp [he]
      simp only [hb, if_true, Sem.run_pure, Result.andThen_ok, if_neg hx]
theorem run_eqS {T : TypeId} {c : Nat} (h : eqsB P T = some c) (k : IntKind) (ms ns : List Int) (h1 : ms.length = c) (h2 : ns.length = c) (w : World) :
    (Op.equal T (.agg (ms.map (Value.int k)).toArray) (.agg (ns.map (Value.int k)).toArray)).run P w = .ok (decide (ms = ns)) w ∧ P.eqGuardType P.depth T = false := by
  unfold eqsB at h
  split at h
  · rename_i fs hT
    split at h
    · rename_i hq
      simp only [Bool.and_eq_true, Bool.not_eq_true'] at hq
      injection h with h
      refine ⟨?_, hq.2.2⟩
      show (Op.equalIn (9998 + 2) T _ _).run P w = _
      rw [Op.equalIn]
      have hl := run_fs k 9998 w ms ns fs.toList 0 hq.1 (by simp; omega) (by simp; omega)
      rw [Array.forIn_toList] at hl
      simp [run_underlying hT, hq.2.1]
      have hl2 := hl
      simp only [List.drop_zero] at hl2
      rw [hl2]
      by_cases e : ms = ns
      · simp [e]
      · simp [e]
    · cases h
  · cases h
theorem rep_ints {w : World} {D : DSet} {v : Value} {k : IntKind} {ms : List Int} (h : Rep w D v (.agg (ms.map fun m => .val (.int k m)))) : v = .agg (ms.map (Value.int k)).toArray := by
  obtain ⟨vs, rfl, hl, _, hr⟩ := rep_agg h
  have e : vs = ms.map (Value.int k) := by
    refine List.ext_getElem (by simpa using hl) fun i h1 h2 => ?_
    have hi : i < ms.length := by simpa using h2
    have := rep_val (hr i vs[i] (.val (.int k ms[i])) (List.getElem?_eq_getElem h1) (by rw [List.getElem?_map, List.getElem?_eq_getElem hi]; rfl))
    rw [this]; simp
  rw [e]
theorem e_eqs {o : Oper} {S : Nat → SV} {T T' : TypeId} {x y : Operand} {k : IntKind} {ms ns : List Int} {c : Nat} (ho : o.op = .binOp .eql T x y T') (hT : eqsB P T = some c) (hx : ev S x = .d (.agg (ms.map fun m => .val (.int k m)))) (hy : ev S y = .d (.agg (ns.map fun m => .val (.int k m)))) (h1 : ms.length = c) (h2 : ns.length = c) : EOk P o S [] (.d (.val (.bool (decide (ms = ns))))) :=
  EOk.same fun a w D β hop _ => by
    have hx' := hop x (by simp [ho, Op.operands])
    have hy' := hop y (by simp [ho, Op.operands])
    rw [hx] at hx'
    rw [hy] at hy'
    have ex := rep_ints hx'
    have ey := rep_ints hy'
    obtain ⟨g1, g2⟩ := run_eqS hT k ms ns h1 h2 w
    refine ⟨.bool (decide (ms = ns)), ?_, .val _⟩
    simp [execOp, ho, ex, ey, eqGuard, g2, binOp, g1]
theorem oEs {P : Program} {o : Oper} {S : Nat → SV} {T T' : TypeId} {x y : Operand} {c : Nat} (hT : eqsB P T = some c) (k : IntKind) (ms ns : List Int) (ho : o.op = .binOp .eql T x y T' := by exact rfl) (hx : ev S x = .d (.agg (ms.map fun m => .val (.int k m))) := by kernel_rfl) (hy : ev S y = .d (.agg (ns.map fun m => .val (.int k m))) := by kernel_rfl) (h1 : ms.length = c := by exact rfl) (h2 : ns.length = c := by exact rfl) : EOk P o S [] (.d (.val (.bool (decide (ms = ns))))) := e_eqs ho hT hx hy h1 h2
end Go.Fid
set_option linter.unusedVariables false
set_option linter.unusedSimpArgs false
namespace Go.Fid
variable {P : Program} {o : Oper} {S : Nat → SV}
end Go.Fid
namespace Go.Proofs.YtihgdjljnaekmaaGreat
open Go.Fid
theorem avo_encQuat (x : RQuat) : Avoids 1000000 (encQuat x) := .agg (avo_cons (.val _) (avo_cons (.val _) (avo_cons (.val _) (avo_cons (.val _) avo_nil))))
end Go.Proofs.YtihgdjljnaekmaaGreat
namespace Go.Proofs.YtihgdjljnaekmaaGreat
open Go.Fid
set_option maxRecDepth 4000
set_option linter.unusedVariables false
set_option linter.unusedSimpArgs false
theorem ar146 : arrB Tryz.prog 146 = some (4, 3, 1) := by kernel_rfl
theorem cb37 : callB Tryz.prog 37 = true := by kernel_rfl
theorem cb60 : callB Tryz.prog 60 = true := by kernel_rfl
theorem cb88 : callB Tryz.prog 88 = true := by kernel_rfl
theorem cb103 : callB Tryz.prog 103 = true := by kernel_rfl
theorem el60 : elemB Tryz.prog 60 = some (3, 1) := by kernel_rfl
theorem eqs28 : eqsB Tryz.prog 28 = some 4 := by kernel_rfl
theorem fo28_0 : fieldB Tryz.prog 28 0 = some 0 := by kernel_rfl
theorem fo28_1 : fieldB Tryz.prog 28 1 = some 1 := by kernel_rfl
theorem fo28_2 : fieldB Tryz.prog 28 2 = some 2 := by kernel_rfl
theorem fo28_3 : fieldB Tryz.prog 28 3 = some 3 := by kernel_rfl
theorem pl28 : placesB Tryz.prog 28 = some [(0, 1), (1, 1), (2, 1), (3, 1)] := by kernel_rfl
theorem sh28 : shapeB Tryz.prog 28 = some (true, 4) := by kernel_rfl
theorem sh146 : shapeB Tryz.prog 146 = some (true, 4) := by kernel_rfl
theorem ze28 : zeroB Tryz.prog 28 = some [.int .i64 0, .int .i64 0, .int .i64 0, .int .i64 0] := by kernel_rfl
theorem ze146 : zeroB Tryz.prog 146 = some [.int .i64 0, .int .i64 0, .int .i64 0, .int .i64 0] := by kernel_rfl
theorem zo28 : ZOk [.int .i64 0, .int .i64 0, .int .i64 0, .int .i64 0] [.val (.int .i64 0), .val (.int .i64 0), .val (.int .i64 0), .val (.int .i64 0)] := by simp [ZOk, Value.oneCell']
theorem zo146 : ZOk [.int .i64 0, .int .i64 0, .int .i64 0, .int .i64 0] [.val (.int .i64 0), .val (.int .i64 0), .val (.int .i64 0), .val (.int .i64 0)] := by simp [ZOk, Value.oneCell']
theorem q_parts (a b c d : Int) : Takes Tryz.prog 103 [(encQuat (RQuat.mk a b c d))] (encA146 (A4.mk a b c d)) := by
  refine fn_intro Tryz.func103 rfl cb103 rfl ?_
  show PWp _ _ _ _ ⟨[(0, (.d (encQuat (RQuat.mk a b c d))))], []⟩
  refine pwp_seq <| kx [(1, (.ref 0 0)), (2, (.ref 1 0))] [(0, some (bx (encQuat (RQuat.mk a b c d)))), (1, some (bx (encA146 (A4.mk 0 0 0 0))))] (zN (oBx 0) <| zN (oAl 1 ze146 zo146) <| zZ) ?_
  refine pwp_seq <| kx [] [(1, some (bx (encA146 (A4.mk a b c d))))] (zE (oFr fo28_0) <| zR (oL1 sh3) <| zE (oFr fo28_1) <| zR (oL1 sh3) <| zE (oFr fo28_2) <| zR (oL1 sh3) <| zE (oFr fo28_3) <| zR (oL1 sh3) <| zE (oBf ar146 ze146 zo146) <| zT (oSt sh146) <| zZ) ?_
  refine pwp_ret ⟨_, (res_a (cs := (bx (encA146 (A4.mk a b c d)))) (d := (encA146 (A4.mk a b c d))) rfl rfl sh146 rfl rfl .nil), ?_⟩
  rfl
theorem qs_list (a b c d : Int) : Takes Tryz.prog 88 [(encQuat (RQuat.mk a b c d))] (.sl 3 1 (List.map enc_i64 [a, b, c, d])) := by
  refine fn_intro Tryz.func88 rfl cb88 rfl ?_
  show PWp _ _ _ _ ⟨[(0, (.d (encQuat (RQuat.mk a b c d))))], []⟩
  refine pwp_seq <| kx [(1, (.ref 0 0))] [(0, some (bx (encQuat (RQuat.mk a b c d))))] (zN (oBx 0) <| zE (oNl 3 1) <| zZ) ?_
  refine pwp_seq <| kx [(2, (vl 3 1 enc_i64 [a, b, c, d]))] [] (zE (oFr fo28_0) <| zR (oL1 sh3) <| zE (oFr fo28_1) <| zR (oL1 sh3) <| zE (oFr fo28_2) <| zR (oL1 sh3) <| zE (oFr fo28_3) <| zR (oL1 sh3) <| zE (oBs el60 ze3 zo3) <| zM <| zZ) ?_
  refine pwp_ret ⟨_, (.tmp (d := (.sl 3 1 (List.map enc_i64 [a, b, c, d]))) rfl .nil), ?_⟩
  rfl
theorem q_chk (a b c d : Int) : Takes Tryz.prog 60 [(encQuat (RQuat.mk a b c d))] (.val (.int .i64 ((((rotC a b c d) : Nat) : Int)))) := by
  refine fn_intro Tryz.func60 rfl cb60 rfl ?_
  show PWp _ _ _ _ ⟨[(0, (.d (encQuat (RQuat.mk a b c d))))], []⟩
  refine pwp_seq <| kx [(1, (.ref 0 0))] [(0, some (bx (encQuat (RQuat.mk a b c d))))] (zN (oBx 0) <| zM <| zZ) ?_
  refine pwp_seq <| pwp_seq <| kx [(7, (vb (decide ([a, b, c, d] = [0, 0, 0, 0]))))] [] (zR (oLa sh28) <| zE (oBd pl28 ze28 zo28) <| zE (oEs eqs28 .i64 [a, b, c, d] [0, 0, 0, 0]) <| zZ) ?_
  refine pwp_cond (b := (decide ([a, b, c, d] = [0, 0, 0, 0]))) rfl (fun h1 => ?_) (fun h1 => ?_)
  · replace h1 := of_decide_eq_true h1
    refine pwp_seq <| kx [(2, (vin 1))] [] (zM <| zZ) ?_
    refine pwp_ret ⟨_, (.tmp (d := (.val (.int .i64 (((1 : Nat) : Int))))) rfl .nil), ?_⟩
    rw [rotC_z (by simp_all)]; rfl
  · replace h1 := of_decide_eq_false h1
    refine pwp_skip <| pwp_seq <| pwp_seq <| kx [(9, (.d (encA146 (A4.mk a b c d)))), (10, (vin 0))] [] (zR (oLa sh28) <| zE (oCl (q_parts a b c d)) <| zM <| zZ) ?_
    refine pwp_block <| pwp_rounds 20 ?_
    refine pwp_round <| pwp_seq <| kx [(11, (vb true))] [] (zE (oBk true oLt) <| zZ) ?_
    refine pwp_seq <| pwp_cond (b := true) (by kernel_rfl) (fun _ => ?_) (fun h => by cases h)
    refine pwp_skip <| pwp_seq <| pwp_block <| pwp_seq <| kx [(4, (vi a))] [] (zE (oXa ar146 sh3 (fun _ => rfl) 0) <| zM <| zZ) ?_
    refine pwp_seq <| kx [(18, (vb (decide (a < -1048576) || decide (((1048576 : Nat) : Int) < a))))] [] ?_ ?_
    · refine zM <| zE oLt <| zE (oV (vb (decide (a < -1048576))) (mv_ok (by kernel_rfl))) <| ?_
      rcases hb2 : (decide (a < -1048576)) with _ | _
      · replace hb2 := of_decide_eq_false hb2
        exact zM <| zE oGt <| zE oPo <| zZ
      · replace hb2 := of_decide_eq_true hb2
        exact zK <| zK <| zE oPt <| zZ
    refine pwp_cond rfl (fun h3 => ?_) (fun h3 => ?_)
    · refine pwp_seq <| kx [(2, (vin 3))] [] (zM <| zZ) ?_
      refine pwp_ret ⟨_, (.tmp (d := (.val (.int .i64 (((3 : Nat) : Int))))) rfl .nil), ?_⟩
      first | (rw [rotC_l (by simp_all) (by first | (simp_all; done) | (simp_all; omega))]; rfl) | (rw [rotC_0 (by simp_all) (by first | (simp_all; done) | (simp_all; omega))]; rfl)
    · refine pwp_skip <| kx [(10, (vin 1))] [] (zE (oAd 1 (hr := by decide)) <| zM <| zZ) ?_
      refine pwp_again (SimImp.refl _) ?_
      refine pwp_seq <| kx [(11, (vb true))] [] (zE (oBk true oLt) <| zZ) ?_
      refine pwp_seq <| pwp_cond (b := true) (by kernel_rfl) (fun _ => ?_) (fun h => by cases h)
      refine pwp_skip <| pwp_seq <| pwp_block <| pwp_seq <| kx [(4, (vi b))] [] (zE (oXa ar146 sh3 (fun _ => rfl) 1) <| zM <| zZ) ?_
      refine pwp_seq <| kx [(18, (vb (decide (b < -1048576) || decide (((1048576 : Nat) : Int) < b))))] [] ?_ ?_
      · refine zM <| zE oLt <| zE (oV (vb (decide (b < -1048576))) (mv_ok (by kernel_rfl))) <| ?_
        rcases hb4 : (decide (b < -1048576)) with _ | _
        · replace hb4 := of_decide_eq_false hb4
          exact zM <| zE oGt <| zE oPo <| zZ
        · replace hb4 := of_decide_eq_true hb4
          exact zK <| zK <| zE oPt <| zZ
      refine pwp_cond rfl (fun h5 => ?_) (fun h5 => ?_)
      · refine pwp_seq <| kx [(2, (vin 3))] [] (zM <| zZ) ?_
        refine pwp_ret ⟨_, (.tmp (d := (.val (.int .i64 (((3 : Nat) : Int))))) rfl .nil), ?_⟩
        first | (rw [rotC_l (by simp_all) (by first | (simp_all; done) | (simp_all; omega))]; rfl) | (rw [rotC_0 (by simp_all) (by first | (simp_all; done) | (simp_all; omega))]; rfl)
      · refine pwp_skip <| kx [(10, (vin 2))] [] (zE (oAd 2 (hr := by decide)) <| zM <| zZ) ?_
        refine pwp_again (SimImp.refl _) ?_
        refine pwp_seq <| kx [(11, (vb true))] [] (zE (oBk true oLt) <| zZ) ?_
        refine pwp_seq <| pwp_cond (b := true) (by kernel_rfl) (fun _ => ?_) (fun h => by cases h)
        refine pwp_skip <| pwp_seq <| pwp_block <| pwp_seq <| kx [(4, (vi c))] [] (zE (oXa ar146 sh3 (fun _ => rfl) 2) <| zM <| zZ) ?_
        refine pwp_seq <| kx [(18, (vb (decide (c < -1048576) || decide (((1048576 : Nat) : Int) < c))))] [] ?_ ?_
        · refine zM <| zE oLt <| zE (oV (vb (decide (c < -1048576))) (mv_ok (by kernel_rfl))) <| ?_
          rcases hb6 : (decide (c < -1048576)) with _ | _
          · replace hb6 := of_decide_eq_false hb6
            exact zM <| zE oGt <| zE oPo <| zZ
          · replace hb6 := of_decide_eq_true hb6
            exact zK <| zK <| zE oPt <| zZ
        refine pwp_cond rfl (fun h7 => ?_) (fun h7 => ?_)
        · refine pwp_seq <| pwp_sim (wk (l := [(9, (.d (encA146 (A4.mk a b c d)))), (10, (vin 2)), (18, (vb (decide (c < -1048576) || decide (((1048576 : Nat) : Int) < c))))]) (b := [])) ?_
          refine kx [(2, (vin 3))] [] (zM <| zZ) ?_
          refine pwp_ret ⟨_, (.tmp (d := (.val (.int .i64 (((3 : Nat) : Int))))) rfl .nil), ?_⟩
          first | (rw [rotC_l (by simp_all) (by first | (simp_all; done) | (simp_all; omega))]; rfl) | (rw [rotC_0 (by simp_all) (by first | (simp_all; done) | (simp_all; omega))]; rfl)
        · refine pwp_skip <| pwp_sim (wk (l := [(9, (.d (encA146 (A4.mk a b c d)))), (10, (vin 2)), (18, (vb (decide (c < -1048576) || decide (((1048576 : Nat) : Int) < c))))]) (b := [])) ?_
          refine kx [(10, (vin 3))] [] (zE (oAd 3 (hr := by decide)) <| zM <| zZ) ?_
          refine pwp_again (SimImp.refl _) ?_
          refine pwp_seq <| kx [(11, (vb true))] [] (zE (oBk true oLt) <| zZ) ?_
          refine pwp_seq <| pwp_cond (b := true) (by kernel_rfl) (fun _ => ?_) (fun h => by cases h)
          refine pwp_skip <| pwp_seq <| pwp_block <| pwp_seq <| kx [(4, (vi d))] [] (zE (oXa ar146 sh3 (fun _ => rfl) 3) <| zM <| zZ) ?_
          refine pwp_seq <| kx [(18, (vb (decide (d < -1048576) || decide (((1048576 : Nat) : Int) < d))))] [] ?_ ?_
          · refine zM <| zE oLt <| zE (oV (vb (decide (d < -1048576))) (mv_ok (by kernel_rfl))) <| ?_
            rcases hb8 : (decide (d < -1048576)) with _ | _
            · replace hb8 := of_decide_eq_false hb8
              exact zM <| zE oGt <| zE oPo <| zZ
            · replace hb8 := of_decide_eq_true hb8
              exact zK <| zK <| zE oPt <| zZ
          refine pwp_cond rfl (fun h9 => ?_) (fun h9 => ?_)
          · refine pwp_seq <| kx [(2, (vin 3))] [] (zM <| zZ) ?_
            refine pwp_ret ⟨_, (.tmp (d := (.val (.int .i64 (((3 : Nat) : Int))))) rfl .nil), ?_⟩
            first | (rw [rotC_l (by simp_all) (by first | (simp_all; done) | (simp_all; omega))]; rfl) | (rw [rotC_0 (by simp_all) (by first | (simp_all; done) | (simp_all; omega))]; rfl)
          · refine pwp_skip <| kx [(10, (vin 4))] [] (zE (oAd 4 (hr := by decide)) <| zM <| zZ) ?_
            refine pwp_again (SimImp.refl _) ?_
            refine pwp_seq <| kx [(11, (vb false))] [] (zE (oBk false oLt) <| zZ) ?_
            refine pwp_seq <| pwp_cond (b := false) (by kernel_rfl) (fun h => by cases h) (fun _ => ?_)
            refine pwp_exit <| pwp_seq <| kx [(2, (vin 0))] [] (zM <| zZ) ?_
            refine pwp_ret ⟨_, (.tmp (d := (.val (.int .i64 (((0 : Nat) : Int))))) rfl .nil), ?_⟩
            first | (rw [rotC_l (by simp_all) (by first | (simp_all; done) | (simp_all; omega))]; rfl) | (rw [rotC_0 (by simp_all) (by first | (simp_all; done) | (simp_all; omega))]; rfl)
theorem qs_chk (a b c d : Int) : Takes Tryz.prog 37 [(encQuat (RQuat.mk a b c d))] (.val (.int .i64 ((((rotC a b c d) : Nat) : Int)))) := by
  refine fn_intro Tryz.func37 rfl cb37 rfl ?_
  show PWp _ _ _ _ ⟨[(0, (.d (encQuat (RQuat.mk a b c d))))], []⟩
  refine pwp_seq <| kx [(1, (.ref 0 0))] [(0, some (bx (encQuat (RQuat.mk a b c d))))] (zN (oBx 0) <| zM <| zZ) ?_
  refine pwp_seq <| pwp_seq <| kx [(22, (vb ((((a == ((0 : Nat) : Int)) && (b == ((0 : Nat) : Int))) && (c == ((0 : Nat) : Int))) && (d == ((0 : Nat) : Int)))))] [] ?_ ?_
  · refine zE (oFr fo28_0) <| zR (oL1 sh3) <| zE oEq <| zE (oV (vb (a == ((0 : Nat) : Int))) (mv_ok (by kernel_rfl))) <| ?_
    rcases hb1 : (a == ((0 : Nat) : Int)) with _ | _
    · replace hb1 := ne_of_beq_false hb1
      exact zK <| zK <| zK <| zE oPf <| zM <| zK <| zK <| zK <| zE oPf <| zM <| zK <| zK <| zK <| zE oPf <| zZ
    · replace hb1 := eq_of_beq hb1
      refine zE (oFr fo28_1) <| zR (oL1 sh3) <| zE oEq <| zE oPa <| zE (oV (vb (true && (b == ((0 : Nat) : Int)))) (mv_ok (by kernel_rfl))) <| ?_
      rcases hb2 : (true && (b == ((0 : Nat) : Int))) with _ | _
      · exact zK <| zK <| zK <| zE oPf <| zM <| zK <| zK <| zK <| zE oPf <| zZ
      · refine zE (oFr fo28_2) <| zR (oL1 sh3) <| zE oEq <| zE oPa <| zE (oV (vb (true && (c == ((0 : Nat) : Int)))) (mv_ok (by kernel_rfl))) <| ?_
        rcases hb3 : (true && (c == ((0 : Nat) : Int))) with _ | _
        · exact zK <| zK <| zK <| zE oPf <| zZ
        · exact zE (oFr fo28_3) <| zR (oL1 sh3) <| zE oEq <| zE oPa <| zZ
  refine pwp_cond rfl (fun h4 => ?_) (fun h4 => ?_)
  · refine pwp_seq <| kx [(2, (vin 1))] [] (zM <| zZ) ?_
    refine pwp_ret ⟨_, (.tmp (d := (.val (.int .i64 (((1 : Nat) : Int))))) rfl .nil), ?_⟩
    rw [rotC_z (by simp_all)]; rfl
  · refine pwp_skip <| pwp_seq <| kx [(3, (vl 3 1 enc_i64 [a, b, c, d]))] [] (zR (oLa sh28) <| zE (oCl (qs_list a b c d)) <| zM <| zZ) ?_
    refine pwp_seq <| pwp_seq <| kx [(4, (vin 0))] [] (zM <| zZ) ?_
    refine pwp_block <| pwp_rounds 20 ?_
    refine pwp_round <| pwp_seq <| pwp_seq <| kx [(26, (vb true))] [] (zM <| zE (oBk true oLt) <| zZ) ?_
    refine pwp_cond (b := true) (by kernel_rfl) (fun _ => ?_) (fun h => by cases h)
    refine pwp_skip <| pwp_seq <| pwp_block <| pwp_seq <| kx [(40, (vb (decide (((1048576 : Nat) : Int) < a) || decide (a < -1048576))))] [] ?_ ?_
    · refine zM <| zM <| zE (oXs el60 0) <| zE (oC1 sh3) <| zE oGt <| zE (oV (vb (decide (((1048576 : Nat) : Int) < a))) (mv_ok (by kernel_rfl))) <| ?_
      rcases hb5 : (decide (((1048576 : Nat) : Int) < a)) with _ | _
      · replace hb5 := of_decide_eq_false hb5
        exact zM <| zM <| zE (oXs el60 0) <| zE (oC1 sh3) <| zE oLt <| zE oPo <| zZ
      · replace hb5 := of_decide_eq_true hb5
        exact zK <| zK <| zK <| zK <| zK <| zE oPt <| zZ
    refine pwp_cond rfl (fun h6 => ?_) (fun h6 => ?_)
    · refine pwp_seq <| kx [(2, (vin 3))] [] (zM <| zZ) ?_
      refine pwp_ret ⟨_, (.tmp (d := (.val (.int .i64 (((3 : Nat) : Int))))) rfl .nil), ?_⟩
      first | (rw [rotC_l (by simp_all) (by first | (simp_all; done) | (simp_all; omega))]; rfl) | (rw [rotC_0 (by simp_all) (by first | (simp_all; done) | (simp_all; omega))]; rfl)
    · refine pwp_skip <| kx [(4, (vin 1))] [] (zM <| zE (oAd 1 (hr := by decide)) <| zM <| zZ) ?_
      refine pwp_again (SimImp.refl _) ?_
      refine pwp_seq <| pwp_seq <| kx [(26, (vb true))] [] (zM <| zE (oBk true oLt) <| zZ) ?_
      refine pwp_cond (b := true) (by kernel_rfl) (fun _ => ?_) (fun h => by cases h)
      refine pwp_skip <| pwp_seq <| pwp_block <| pwp_seq <| kx [(40, (vb (decide (((1048576 : Nat) : Int) < b) || decide (b < -1048576))))] [] ?_ ?_
      · refine zM <| zM <| zE (oXs el60 1) <| zE (oC1 sh3) <| zE oGt <| zE (oV (vb (decide (((1048576 : Nat) : Int) < b))) (mv_ok (by kernel_rfl))) <| ?_
        rcases hb7 : (decide (((1048576 : Nat) : Int) < b)) with _ | _
        · replace hb7 := of_decide_eq_false hb7
          exact zM <| zM <| zE (oXs el60 1) <| zE (oC1 sh3) <| zE oLt <| zE oPo <| zZ
        · replace hb7 := of_decide_eq_true hb7
          exact zK <| zK <| zK <| zK <| zK <| zE oPt <| zZ
      refine pwp_cond rfl (fun h8 => ?_) (fun h8 => ?_)
      · refine pwp_seq <| kx [(2, (vin 3))] [] (zM <| zZ) ?_
        refine pwp_ret ⟨_, (.tmp (d := (.val (.int .i64 (((3 : Nat) : Int))))) rfl .nil), ?_⟩
        first | (rw [rotC_l (by simp_all) (by first | (simp_all; done) | (simp_all; omega))]; rfl) | (rw [rotC_0 (by simp_all) (by first | (simp_all; done) | (simp_all; omega))]; rfl)
      · refine pwp_skip <| kx [(4, (vin 2))] [] (zM <| zE (oAd 2 (hr := by decide)) <| zM <| zZ) ?_
        refine pwp_again (SimImp.refl _) ?_
        refine pwp_seq <| pwp_seq <| kx [(26, (vb true))] [] (zM <| zE (oBk true oLt) <| zZ) ?_
        refine pwp_cond (b := true) (by kernel_rfl) (fun _ => ?_) (fun h => by cases h)
        refine pwp_skip <| pwp_seq <| pwp_block <| pwp_seq <| kx [(40, (vb (decide (((1048576 : Nat) : Int) < c) || decide (c < -1048576))))] [] ?_ ?_
        · refine zM <| zM <| zE (oXs el60 2) <| zE (oC1 sh3) <| zE oGt <| zE (oV (vb (decide (((1048576 : Nat) : Int) < c))) (mv_ok (by kernel_rfl))) <| ?_
          rcases hb9 : (decide (((1048576 : Nat) : Int) < c)) with _ | _
          · replace hb9 := of_decide_eq_false hb9
            exact zM <| zM <| zE (oXs el60 2) <| zE (oC1 sh3) <| zE oLt <| zE oPo <| zZ
          · replace hb9 := of_decide_eq_true hb9
            exact zK <| zK <| zK <| zK <| zK <| zE oPt <| zZ
        refine pwp_cond rfl (fun h10 => ?_) (fun h10 => ?_)
        · refine pwp_seq <| kx [(2, (vin 3))] [] (zM <| zZ) ?_
          refine pwp_ret ⟨_, (.tmp (d := (.val (.int .i64 (((3 : Nat) : Int))))) rfl .nil), ?_⟩
          first | (rw [rotC_l (by simp_all) (by first | (simp_all; done) | (simp_all; omega))]; rfl) | (rw [rotC_0 (by simp_all) (by first | (simp_all; done) | (simp_all; omega))]; rfl)
        · refine pwp_skip <| kx [(4, (vin 3))] [] (zM <| zE (oAd 3 (hr := by decide)) <| zM <| zZ) ?_
          refine pwp_again (SimImp.refl _) ?_
          refine pwp_seq <| pwp_seq <| kx [(26, (vb true))] [] (zM <| zE (oBk true oLt) <| zZ) ?_
          refine pwp_cond (b := true) (by kernel_rfl) (fun _ => ?_) (fun h => by cases h)
          refine pwp_skip <| pwp_seq <| pwp_block <| pwp_seq <| pwp_sim (wk (l := [(3, (vl 3 1 enc_i64 [a, b, c, d])), (4, (vin 3)), (26, (vb true))]) (b := [])) ?_
          refine kx [(40, (vb (decide (((1048576 : Nat) : Int) < d) || decide (d < -1048576))))] [] ?_ ?_
          · refine zM <| zM <| zE (oXs el60 3) <| zE (oC1 sh3) <| zE oGt <| zE (oV (vb (decide (((1048576 : Nat) : Int) < d))) (mv_ok (by kernel_rfl))) <| ?_
            rcases hb11 : (decide (((1048576 : Nat) : Int) < d)) with _ | _
            · replace hb11 := of_decide_eq_false hb11
              exact zM <| zM <| zE (oXs el60 3) <| zE (oC1 sh3) <| zE oLt <| zE oPo <| zZ
            · replace hb11 := of_decide_eq_true hb11
              exact zK <| zK <| zK <| zK <| zK <| zE oPt <| zZ
          refine pwp_cond rfl (fun h12 => ?_) (fun h12 => ?_)
          · refine pwp_seq <| kx [(2, (vin 3))] [] (zM <| zZ) ?_
            refine pwp_ret ⟨_, (.tmp (d := (.val (.int .i64 (((3 : Nat) : Int))))) rfl .nil), ?_⟩
            first | (rw [rotC_l (by simp_all) (by first | (simp_all; done) | (simp_all; omega))]; rfl) | (rw [rotC_0 (by simp_all) (by first | (simp_all; done) | (simp_all; omega))]; rfl)
          · refine pwp_skip <| kx [(4, (vin 4))] [] (zM <| zE (oAd 4 (hr := by decide)) <| zM <| zZ) ?_
            refine pwp_again (SimImp.refl _) ?_
            refine pwp_seq <| pwp_seq <| kx [(26, (vb false))] [] (zM <| zE (oBk false oLt) <| zZ) ?_
            refine pwp_cond (b := false) (by kernel_rfl) (fun h => by cases h) (fun _ => ?_)
            refine pwp_exit <| pwp_seq <| kx [(2, (vin 0))] [] (zM <| zZ) ?_
            refine pwp_ret ⟨_, (.tmp (d := (.val (.int .i64 (((0 : Nat) : Int))))) rfl .nil), ?_⟩
            first | (rw [rotC_l (by simp_all) (by first | (simp_all; done) | (simp_all; omega))]; rfl) | (rw [rotC_0 (by simp_all) (by first | (simp_all; done) | (simp_all; omega))]; rfl)
end Go.Proofs.YtihgdjljnaekmaaGreat
namespace Go.Proofs.YtihgdjljnaekmaaGreat
open Go.Fid
set_option maxRecDepth 4000
set_option linter.unusedVariables false
set_option linter.unusedSimpArgs false
theorem cb107 : callB Tryz.prog 107 = true := by kernel_rfl
theorem qr_norm (a b c d : Int) (ha : -1048576 ≤ a ∧ a ≤ 1048576) (hb : -1048576 ≤ b ∧ b ≤ 1048576) (hc : -1048576 ≤ c ∧ c ≤ 1048576) (hd : -1048576 ≤ d ∧ d ≤ 1048576) : Takes Tryz.prog 107 [(encQuat (RQuat.mk a b c d))] (.val (.int .i64 ((nq a b c d)))) := by
  have saa := sq_b ha ha
  have sab := sq_b ha hb
  have sac := sq_b ha hc
  have sad := sq_b ha hd
  have sbb := sq_b hb hb
  have sbc := sq_b hb hc
  have sbd := sq_b hb hd
  have scc := sq_b hc hc
  have scd := sq_b hc hd
  have sdd := sq_b hd hd
  refine fn_intro Tryz.func107 rfl cb107 rfl ?_
  show PWp _ _ _ _ ⟨[(0, (.d (encQuat (RQuat.mk a b c d))))], []⟩
  refine pwp_seq <| kx [(1, (.ref 0 0))] [(0, some (bx (encQuat (RQuat.mk a b c d))))] (zN (oBx 0) <| zM <| zZ) ?_
  refine pwp_seq <| kx [(2, (vi ((((a * a) + (b * b)) + (c * c)) + (d * d))))] [] (zE (oFr fo28_0) <| zR (oL1 sh3) <| zE (oFr fo28_0) <| zR (oL1 sh3) <| zE (zMl (a * a) (hr := by exact (wAny rfl (by simp only [kLo]; omega) (by simp only [kHi]; omega)))) <| zE (oFr fo28_1) <| zR (oL1 sh3) <| zE (oFr fo28_1) <| zR (oL1 sh3) <| zE (zMl (b * b) (hr := by exact (wAny rfl (by simp only [kLo]; omega) (by simp only [kHi]; omega)))) <| zE (zAd ((a * a) + (b * b)) (hr := by exact (wAny rfl (by simp only [kLo]; omega) (by simp only [kHi]; omega)))) <| zE (oFr fo28_2) <| zR (oL1 sh3) <| zE (oFr fo28_2) <| zR (oL1 sh3) <| zE (zMl (c * c) (hr := by exact (wAny rfl (by simp only [kLo]; omega) (by simp only [kHi]; omega)))) <| zE (zAd (((a * a) + (b * b)) + (c * c)) (hr := by exact (wAny rfl (by simp only [kLo]; omega) (by simp only [kHi]; omega)))) <| zE (oFr fo28_3) <| zR (oL1 sh3) <| zE (oFr fo28_3) <| zR (oL1 sh3) <| zE (zMl (d * d) (hr := by exact (wAny rfl (by simp only [kLo]; omega) (by simp only [kHi]; omega)))) <| zE (zAd ((((a * a) + (b * b)) + (c * c)) + (d * d)) (hr := by exact (wAny rfl (by simp only [kLo]; omega) (by simp only [kHi]; omega)))) <| zM <| zZ) ?_
  refine pwp_ret ⟨_, (.tmp (d := (.val (.int .i64 (((((a * a) + (b * b)) + (c * c)) + (d * d)))))) rfl .nil), ?_⟩
  rfl
end Go.Proofs.YtihgdjljnaekmaaGreat
set_option linter.unusedVariables false
set_option linter.unusedSimpArgs false
namespace Go.Fid
variable {P : Program} {o : Oper} {S : Nat → SV}
end Go.Fid
set_option linter.unusedVariables false
set_option linter.unusedSimpArgs false
namespace Go.Fid
open Go.RowKit (Below)
theorem names_get {k : Nat} {cs : List SV} (h : namesAny k cs = false) {i : Nat} {x : SV} (hx : cs[i]? = some x) : x.names k = false := by
  simp only [namesAny, List.any_eq_false] at h
  simpa using h x (List.mem_of_getElem? hx)
section
variable {P : Program} {o : Oper} {st : PS}
end
section
variable {P : Program} {o : Oper} {S : Nat → SV}
end
end Go.Fid
set_option linter.unusedVariables false
set_option linter.unusedSimpArgs false
namespace Go.Fid
open Go.RowKit (Below)
theorem blk_weak {w : World} {D : DSet} {β : BMap} {k : Nat} {cs cs' : List SV} (h : BlkOk w D β k cs) (hl : cs'.length = cs.length) (hx : ∀ (i : Nat) (x : SV), cs'[i]? = some x → x = SV.junk ∨ cs[i]? = some x) : BlkOk w D β k cs' := by
  rcases h with ⟨h1, h2⟩ | ⟨b, vs, T, h1, h2, h3, h4, h5⟩
  · exact .inl ⟨h1, List.eq_nil_of_length_eq_zero (by rw [hl, h2]; rfl)⟩
  · refine .inr ⟨b, vs, T, h1, h2, by omega, fun i x hi => ?_, h5⟩
    have hlt : i < cs.length := by have := (List.getElem?_eq_some_iff.1 hi).1; omega
    obtain ⟨u, e1, e2, e3⟩ := h4 i _ (List.getElem?_eq_getElem hlt)
    rcases hx i x hi with rfl | h
    · exact ⟨u, e1, e2, trivial⟩
    · rw [List.getElem?_eq_getElem hlt] at h
      injection h with h
      exact ⟨u, e1, e2, h ▸ e3⟩
section
variable {P : Program} {o : Oper} {S : SL}
end
end Go.Fid
