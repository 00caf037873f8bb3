import Derived.Test.YtadkkhdnccljcaaGreatFid16
import Derived.LoopNIn
/-
  Views: slices of a private block from some cell on; calls that are handed such; loops walked round by round. For any program.
-/
set_option linter.unusedVariables false
set_option linter.unusedSimpArgs false
namespace Go.Fid
open Go.RowKit (Below)
def PRounds (P : Program) (n : Fr) (c : Code) (Q : Exit → PS → Prop) : Nat → PS → Prop
  | 0, _ => False
  | m + 1, st => PWp P n c (PThen (PRounds P n c Q m) Q) st
theorem pwp_rounds {P : Program} {n : Fr} {c : Code} {Q : Exit → PS → Prop} {st : PS} (m : Nat) (h : PRounds P n c Q m st) : PWp P n (.loop c) Q st := fun C a w N hn hs => by
  refine wpIn_loop_rounds m ?_
  have key : ∀ m st a w, Sim C a w st → PRounds P n c Q m st → Code.roundsIn (fen n) N P c (fun e a' w' => ∃ st', Sim C a' w' st' ∧ Q e st') m a w := by
    intro m
    induction m with
    | zero => intro st a w _ h; exact h.elim
    | succ m ih =>
      intro st a w hs h
      refine wpIn_mono (h C a w N hn hs) fun e a' w' ⟨s, h1, h2⟩ => ?_
      cases e with
      | normal => exact ih s a' w' h1 h2
      | _ => exact ⟨s, h1, h2⟩
  exact key m st a w hs h
theorem pwp_round {P : Program} {n : Fr} {c : Code} {Q : Exit → PS → Prop} {st : PS} {m : Nat} (h : PWp P n c (PThen (PRounds P n c Q m) Q) st) : PRounds P n c Q (m + 1) st := h
theorem pwp_again {P : Program} {n : Fr} {c : Code} {Q : Exit → PS → Prop} {s st : PS} {m : Nat} (hw : SimImp s st) (h : PWp P n c (PThen (PRounds P n c Q m) Q) st) : PThen (PRounds P n c Q (m + 1)) Q .normal s :=
  show PWp P n c (PThen (PRounds P n c Q m) Q) s from fun C a w N hn hs => h C a w N hn (hw C a w hs)
section
variable {P : Program} {o : Oper} {S : Nat → SV}
theorem run_sliceArr {T E : TypeId} {n s : Nat} (hT : arrB P T = some (n, E, s)) (hn : 0 < n) (w : World) (b q : Nat) : (Instr.sliceAt T (.pointer (some ⟨b, q, none⟩)) none none none).run P w = .ok (.slice (some ⟨b, q, none⟩) n n) w := by
  obtain ⟨j, e1, e2, e3⟩ := arr_of hT
  have hne : ¬ n = 0 := by omega
  simp [Instr.sliceAt, run_underlying e1, Instr.sliceBounds, run_sizeOf e2, Instr.sureAddr, Addr.add_lit, hne]
theorem e_slv {T E : TypeId} {x : Operand} {k q n s : Nat} (ho : o.op = .slice T x none none none) (hT : arrB P T = some (n, E, s)) (hx : ev S x = .ref k q) (hn : Nat.blt 0 n = true) (hm : Nat.ble n maxLen = true) : EOk P o S [] (.view k q n) :=
  EOk.same fun a w D β hop _ => by
    have hp := hop x (by simp [ho, Op.operands])
    rw [hx] at hp
    obtain ⟨b, h1, h2⟩ := hp
    have hn' : 0 < n := Nat.le_of_ble_eq_true hn
    refine ⟨.slice (some ⟨b, q, none⟩) n n, ?_, b, n, h1, rfl, Nat.le_refl _, Nat.le_of_ble_eq_true hm⟩
    simp [execOp, ho, h2, run_sliceArr hT hn']
theorem e_slp {T E : TypeId} {x : Operand} {b q n s : Nat} (ho : o.op = .slice T x none none none) (hT : arrB P T = some (n, E, s)) (hx : ev S x = .d (.val (.pointer (some ⟨b, q, none⟩)))) (hn : Nat.blt 0 n = true) : EOk P o S [] (.d (.val (.slice (some ⟨b, q, none⟩) n n))) :=
  EOk.same fun a w D β hop _ => by
    have hp := hop x (by simp [ho, Op.operands])
    rw [hx] at hp
    have h2 := rep_val hp
    have hn' : 0 < n := Nat.le_of_ble_eq_true hn
    refine ⟨.slice (some ⟨b, q, none⟩) n n, ?_, .val _⟩
    simp [execOp, ho, h2, run_sliceArr hT hn']
theorem e_nckp {x : Operand} {a : Addr} (ho : o.op = .nilCheck x) (hx : ev S x = .d (.val (.pointer (some a)))) : EOk P o S [] (.d (.val (.pointer (some a)))) :=
  EOk.same fun a' w D β hop _ => by
    have hp := hop x (by simp [ho, Op.operands])
    rw [hx] at hp
    have h2 := rep_val hp
    exact ⟨.pointer (some a), by simp [execOp, ho, h2], .val _⟩
theorem e_sap {T E : TypeId} {x : Operand} {t s n z : Nat} {es : List Dat} {cs : List Dat} (ho : o.op = .sliceToArrayPointer T x) (hT : arrB P T = some (n, E, z)) (hx : ev S x = .d (.sl t s es)) (hn : Nat.blt 0 n = true) (hl : es.length = n) (hc : flat es = cs) : EOk P o S [] (.d (.cptr t cs 0)) :=
  EOk.same fun a w D β hop _ => by
    have hp := hop x (by simp [ho, Op.operands])
    rw [hx] at hp
    obtain ⟨j, e1, e2, e3⟩ := arr_of hT
    have hn' : 0 < n := Nat.le_of_ble_eq_true hn
    subst hc
    generalize hvv : a.eval x = v at hp
    cases hp with
    | sl g off u hnn hcp hm hs ha hD hu h1 hr =>
      rename_i ao m cap
      have hm' : m = n := by omega
      have ha' := ha (by omega)
      subst ha'
      have hlt : ¬ m < n := by omega
      exact ⟨.pointer (some ⟨g, off + 0, none⟩), by simp [execOp, ho, hvv, Instr.arrayAt, run_underlying e1, hlt], .cptr (off := 0) g off u hD hu h1 hr⟩
theorem e_ixv {T E : TypeId} {x ix : Operand} {s b n p q : Nat} {k : IntKind} {i : Int} {j : Nat} (ho : o.op = .indexAddr T x ix) (hT : elemB P T = some (E, s)) (hx : ev S x = .view b p n) (hi : ev S ix = .d (.val (.int k i)))
    (hj : i = (j : Int)) (h1 : j < n) (hq : p + j * s = q) : EOk P o S [] (.ref b q) :=
  EOk.same fun a w D β hop _ => by
    subst hj; subst hq
    have hp := hop x (by simp [ho, Op.operands])
    have hq := hop ix (by simp [ho, Op.operands])
    rw [hx] at hp
    rw [hi] at hq
    have hiv := rep_val hq
    obtain ⟨c, cap, e1, e2, _⟩ := hp
    have hr := run_indexAt_sl hT w ⟨c, p, none⟩ n cap k (j : Int) (by omega) (by omega)
    exact ⟨.pointer (some ⟨c, p + j * s, none⟩), by simp [execOp, ho, e2, hiv, hr, Addr.add_lit], c, e1, rfl⟩
theorem e_len_view {T E : TypeId} {x : Operand} {s k q n : Nat} (ho : o.op = .call { callee := .builtin .len, args := #[x], argTypes := #[T] }) (hT : elemB P T = some (E, s)) (hx : ev S x = .view k q n) : EOk P o S [] (.d (.val (.int .i64 n))) :=
  EOk.same fun a w D β hop _ => by
    have hp := hop x (by simp [ho, Op.operands, Call.operands])
    rw [hx] at hp
    obtain ⟨i, e1, e2, e3⟩ := elem_of hT
    obtain ⟨c, cap, _, hv, _⟩ := hp
    exact ⟨.int .i64 n, by simp [execOp, ho, resolve, invoke, builtin, hv, Builtin.len_, run_underlying e1, goInt], .val _⟩
theorem e_ixa {T E : TypeId} {x ix : Operand} {n s sz : Nat} {agg : Bool} {k : IntKind} {i : Int} {j : Nat} {cs : List Dat} {y : SV} (ho : o.op = .index T x ix) (hx : ev S x = .d (.agg cs)) (hT : arrB P T = some (n, E, s)) (hs : shapeB P E = some (agg, sz)) (h1 : agg = false → sz = 1)
    (hi : ev S ix = .d (.val (.int k i))) (hj : i = (j : Int)) (hn : Nat.blt j n = true) (hle : Nat.ble (j * s + sz) cs.length = true) (hy : gather agg (((cs.drop (j * s)).take sz).map .d) = y) : EOk P o S [] y := by
  subst hj
  have hn' : j < n := Nat.le_of_ble_eq_true hn
  have h := e_index_arr (P := P) (i := (j : Int)) (k := k) ho hx hT hs h1 hi (by omega) (by omega) (by simpa using Nat.le_of_ble_eq_true hle)
  rw [show ((j : Int)).toNat = j from rfl] at h
  exact hy ▸ h
theorem e_nilF {T T' E t : TypeId} {x : Operand} {s s' : Nat} {es : List Dat} (ho : o.op = .binOp .eql T x (.const (.slice none 0 0)) T') (hT : elemB P T = some (E, s)) (hx : ev S x = .d (.sl t s' es)) (hl : 0 < es.length) : EOk P o S [] (.d (.val (.bool false))) :=
  EOk.same fun a w D β hop _ => by
    have hp := hop x (by simp [ho, Op.operands])
    rw [hx] at hp
    obtain ⟨i, f1, f2, f3⟩ := elem_of hT
    generalize hvv : a.eval x = v at hp
    cases hp with
    | sl g off u hnn hcc hmm hss ha hD hu hone hrr =>
    rename_i ad len cap
    subst hnn
    have had := ha hl
    subst had
    have heq : ∀ d : Nat, (Op.equalIn (d + 1) T (.slice (some ⟨g, off, none⟩) es.length cap) (.slice none 0 0)).run P w = .ok false w := fun d => by
      simp [Op.equalIn, run_underlying f1]
    have heq' : (Op.equal T (.slice (some ⟨g, off, none⟩) es.length cap) (.slice none 0 0)).run P w = .ok false w := heq 9999
    have hce : a.eval (.const (.slice none 0 0)) = .slice none 0 0 := rfl
    refine ⟨.bool false, ?_, .val _⟩
    simp only [execOp, ho, hvv, hce]
    simp [eqGuard, binOp, heq']
theorem e_nilT {T T' E : TypeId} {x : Operand} {s : Nat} (ho : o.op = .binOp .eql T x (.const (.slice none 0 0)) T') (hT : elemB P T = some (E, s)) (hx : ev S x = .d (.val (.slice none 0 0))) : EOk P o S [] (.d (.val (.bool true))) :=
  EOk.same fun a w D β hop _ => by
    have hp := hop x (by simp [ho, Op.operands])
    rw [hx] at hp
    have hv := rep_val hp
    obtain ⟨i, f1, f2, f3⟩ := elem_of hT
    have heq : ∀ d : Nat, (Op.equalIn (d + 1) T (.slice none 0 0) (.slice none 0 0)).run P w = .ok true w := fun d => by
      simp [Op.equalIn, run_underlying f1]
    have heq' : (Op.equal T (.slice none 0 0) (.slice none 0 0)).run P w = .ok true w := heq 9999
    have hce : a.eval (.const (.slice none 0 0)) = .slice none 0 0 := rfl
    refine ⟨.bool true, ?_, .val _⟩
    simp only [execOp, ho, hv, hce]
    simp [eqGuard, binOp, heq']
inductive Avoids (E : TypeId) : Dat → Prop
  | val (v : Value) : Avoids E (.val v)
  | sl {t : TypeId} {s : Nat} {es : List Dat} (h : t ≠ E) (hs : ∀ (i : Nat) d, (flat es)[i]? = some d → Avoids E d) : Avoids E (.sl t s es)
  | agg {cs : List Dat} (hs : ∀ (i : Nat) d, cs[i]? = some d → Avoids E d) : Avoids E (.agg cs)
  | tup {cs : List Dat} (hs : ∀ (i : Nat) d, cs[i]? = some d → Avoids E d) : Avoids E (.tup cs)
  | cptr {t : TypeId} {cs : List Dat} {off : Nat} (h : t ≠ E) (hs : ∀ (i : Nat) d, cs[i]? = some d → Avoids E d) : Avoids E (.cptr t cs off)
theorem avo_nil {E : TypeId} : ∀ (i : Nat) d, ([] : List Dat)[i]? = some d → Avoids E d := fun i d h => by simp at h
theorem avo_cons {E : TypeId} {x : Dat} {l : List Dat} (h : Avoids E x) (hl : ∀ (i : Nat) d, l[i]? = some d → Avoids E d) : ∀ (i : Nat) d, (x :: l)[i]? = some d → Avoids E d := fun i d hd => by
  rcases i with _ | i
  · simp at hd; subst hd; exact h
  · exact hl i d (by simpa using hd)
theorem avo_vals {α : Type} {E t : TypeId} {s : Nat} {F : α → Value} (h : t ≠ E) (l : List α) : Avoids E (.sl t s (l.map fun x => Dat.val (F x))) :=
  .sl h (fun i d hd => by
    have : d ∈ flat (l.map fun x => Dat.val (F x)) := List.mem_of_getElem? hd
    simp only [flat, List.mem_flatMap, List.mem_map] at this
    obtain ⟨x, ⟨y, _, rfl⟩, hx⟩ := this
    simp only [Dat.cells, List.mem_singleton] at hx
    subst hx; exact .val _)
theorem avo_slF {α : Type} {E t : TypeId} {s : Nat} {F : α → Dat} (h : t ≠ E) (hF : ∀ x, Avoids E (F x)) (l : List α) : Avoids E (.sl t s (l.map F)) :=
  .sl h (fun i d hd => by
    have hm : d ∈ flat (l.map F) := List.mem_of_getElem? hd
    simp only [flat, List.mem_flatMap, List.mem_map] at hm
    obtain ⟨x, ⟨y, _, rfl⟩, hx⟩ := hm
    have hy := hF y
    generalize F y = z at hy hx
    cases hy with
    | agg hs =>
      obtain ⟨j, hj⟩ := List.getElem?_of_mem hx
      exact hs j d hj
    | val v => simp only [Dat.cells, List.mem_singleton] at hx; subst hx; exact .val v
    | sl h hs => simp only [Dat.cells, List.mem_singleton] at hx; subst hx; exact .sl h hs
    | tup hs => simp only [Dat.cells, List.mem_singleton] at hx; subst hx; exact .tup hs
    | cptr h hs => simp only [Dat.cells, List.mem_singleton] at hx; subst hx; exact .cptr h hs)
theorem Avoids.rep {E : TypeId} {w : World} {D D' : DSet} (hk : ∀ t g o, t ≠ E → D t g o → D' t g o) {v : Value} {r : Dat} (ha : Avoids E r) (h : Rep w D v r) : Rep w D' v r := by
  induction h with
  | val v => exact .val v
  | sl g off u hn hc hm hs hao hD hu h1 hr ih =>
    cases ha with
    | sl hne has => exact .sl g off u hn hc hm hs hao (fun i hi => hk _ _ _ hne (hD i hi)) hu h1 (fun i d hd => ih i d hd (has i d hd))
  | agg vs hl h1 hr ih =>
    cases ha with
    | agg has => exact .agg vs hl h1 (fun i v d hv hd => ih i v d hv hd (has i d hd))
  | tup vs hl hr ih =>
    cases ha with
    | tup has => exact .tup vs hl (fun i v d hv hd => ih i v d hv hd (has i d hd))
  | cptr g o u hD hu h1 hr ih =>
    cases ha with
    | cptr hne has => exact .cptr g o u (fun i hi => hk _ _ _ hne (hD i hi)) hu h1 (fun i d hd => ih i d hd (has i d hd))
inductive ViewArgs (k : Nat) (E : TypeId) (s q m : Nat) (es : List Dat) : List SV → List Dat → Prop
  | nil : ViewArgs k E s q m es [] []
  | d {x : Dat} {zs : List SV} {ds : List Dat} (h : ViewArgs k E s q m es zs ds) : ViewArgs k E s q m es (.d x :: zs) (x :: ds)
  | v {zs : List SV} {ds : List Dat} (h : ViewArgs k E s q m es zs ds) : ViewArgs k E s q m es (.view k q m :: zs) (.sl E s es :: ds)
theorem ViewArgs.len {k E s q m : Nat} {es : List Dat} {zs : List SV} {ds : List Dat} (h : ViewArgs k E s q m es zs ds) : zs.length = ds.length := by
  induction h with
  | nil => rfl
  | d h ih => simp [ih]
  | v h ih => simp [ih]
theorem ViewArgs.rep {k E s q m : Nat} {es : List Dat} {w : World} {D D' : DSet} {β : BMap} (h1 : ∀ v x, Rep w D v x → Rep w D' v x) (h2 : ∀ v, RepS w D β v (.view k q m) → Rep w D' v (.sl E s es)) {zs : List SV} {ds : List Dat} (h : ViewArgs k E s q m es zs ds) :
    ∀ {vs : List Value}, vs.length = zs.length → (∀ (i : Nat) v x, vs[i]? = some v → zs[i]? = some x → RepS w D β v x) → ∀ (i : Nat) v d, vs[i]? = some v → ds[i]? = some d → Rep w D' v d := by
  induction h with
  | nil => intro vs _ _ i v d _ hd; simp at hd
  | d h ih =>
    intro vs hl hr i v d' hv hd
    rcases vs with _ | ⟨v0, vs⟩
    · simp at hl
    · rcases i with _ | i
      · simp at hv hd; subst hv; subst hd; exact h1 _ _ (hr 0 _ _ rfl rfl)
      · exact ih (by simpa using hl) (fun i v x h3 h4 => hr (i + 1) v x (by simpa using h3) (by simpa using h4)) i v d' (by simpa using hv) (by simpa using hd)
  | v h ih =>
    intro vs hl hr i v d' hv hd
    rcases vs with _ | ⟨v0, vs⟩
    · simp at hl
    · rcases i with _ | i
      · simp at hv hd; subst hv; subst hd; exact h2 _ (hr 0 _ _ rfl rfl)
      · exact ih (by simpa using hl) (fun i v x h3 h4 => hr (i + 1) v x (by simpa using h3) (by simpa using h4)) i v d' (by simpa using hv) (by simpa using hd)
theorem e_clv {y : Operand} {xs : List Operand} {ats : Array TypeId} {f : FuncId} {ds es : List Dat} {r : Dat} {zs : List SV} {cs : List SV} {k E s q m : Nat} (hf : Takes P f ds r) (ho : o.op = .call { callee := .value y, args := xs.toArray, argTypes := ats }) (hy : ev S y = .d (.val (.func (.func f) #[] #[])))
    (hx : xs.map (ev S) = zs) (hz : ViewArgs k E s q m es zs ds) (hes : ∀ e ∈ es, e.cells.length = s) (hl : es.length = m) (hc : (cs.drop q).take (m * s) = (flat es).map .d) (ha : Avoids E r) : EOk P o S [(k, cs)] (.d r) :=
  fun a w D β Q hop hrd hD => by
    have hyv := hop y (by simp [ho, Op.operands, Call.operands])
    rw [hy] at hyv
    have hyv' := rep_val hyv
    have hrep : ∀ (i : Nat) v x, (xs.map a.eval)[i]? = some v → zs[i]? = some x → RepS w D β v x := fun i v x hv hz' => by
      rw [List.getElem?_map, Option.map_eq_some_iff] at hv
      obtain ⟨p, hqi, rfl⟩ := hv
      have hm := hop p (by simp [ho, Op.operands, Call.operands, List.mem_of_getElem? hqi])
      have hi := congrArg (fun l : List SV => l[i]?) hx
      simp only [List.getElem?_map, hqi, hz', Option.map_some, Option.some.injEq] at hi
      rw [hi] at hm
      exact hm
    have hlen : (xs.map a.eval).length = zs.length := by rw [← hx]; simp
    have hrun : (execOp a.eval o).run P w = .ok (.enter f (xs.map a.eval).toArray) w := by
      simp only [execOp, ho, resolve, Deferred.ofValue, hyv', Sem.run_bind, Sem.run_pure, Result.andThen_ok, invoke, Array.empty_append, Array.append_empty]
      rw [run_callFunc hf.may]
      simp
    have hfl := flat_length hes
    have hblk := hrd (k, cs) (by simp)
    have key : ∃ (D' : DSet) (X : TypeId → Nat → Nat → Prop), DOk D' w ∧ (∀ t g i, D' t g i ↔ D t g i ∨ X t g i) ∧ (∀ t g i, X t g i → t = E ∧ ∀ t' i', ¬ D t' g i') ∧ (∀ v x, Rep w D v x → Rep w D' v x) ∧ (∀ v, RepS w D β v (.view k q m) → Rep w D' v (.sl E s es)) := by
      rcases hblk with ⟨g1, hcs⟩ | ⟨b, vs, T', g1, g2, g3, g4, g5⟩
      · refine ⟨D, fun _ _ _ => False, hD, fun t g i => by simp, fun _ _ _ h => h.elim, fun _ _ h => h, fun v hv => ?_⟩
        obtain ⟨b, cap, h1, _⟩ := hv
        rw [h1] at g1; cases g1
      · have hmono : ∀ t' g i, D t' g i → (D t' g i ∨ (t' = E ∧ g = b)) ∧ w.cell? ⟨g, i, none⟩ = w.cell? ⟨g, i, none⟩ := fun t' g i hd => ⟨.inl hd, rfl⟩
        refine ⟨fun t' g i => D t' g i ∨ (t' = E ∧ g = b), fun t' g i => t' = E ∧ g = b, fun t' g i hd => ?_, fun _ _ _ => Iff.rfl, fun t g i h => ⟨h.1, fun t' i' hd => g5 t' i' (h.2 ▸ hd)⟩, fun v x hr => Rep.mono hmono hr, fun v hv => ?_⟩
        · rcases hd with hd | ⟨_, e⟩
          · exact hD _ _ _ hd
          · subst e; exact heap_lt g2
        · obtain ⟨b2, cap, h1, h2, h5, h6⟩ := hv
          obtain rfl : b = b2 := by rw [h1] at g1; injection g1 with g1; exact g1.symm
          rw [h2]
          have key : ∀ (i : Nat) d, (flat es)[i]? = some d → ∃ u, vs[q + i]? = some u ∧ u.oneCell' = true ∧ Rep w D u d := fun i d hd => by
            have hi : i < m * s := by
              have := (List.getElem?_eq_some_iff.1 hd).1
              rw [hfl, hl] at this; exact this
            have e1 : cs[q + i]? = some (.d d) := by
              have : ((cs.drop q).take (m * s))[i]? = some (.d d) := by rw [hc]; simp [hd]
              rw [List.getElem?_take_of_lt hi, List.getElem?_drop] at this
              exact this
            exact g4 _ _ e1
          have hcell : ∀ i, w.cell? ⟨b, i, none⟩ = vs[i]? := fun i => cell_of_row w b i vs T' (0, 0) g2
          refine Rep.sl b q (fun i => vs.getD (q + i) undef) hl.symm h5 h6 hes (fun _ => rfl) (fun i hi => .inr ⟨rfl, rfl⟩) (fun i hi => ?_) (fun i hi => ?_) (fun i d hd => ?_)
          · obtain ⟨x, q1, q2, q3⟩ := key i _ (List.getElem?_eq_getElem hi)
            rw [hcell, Array.getD_eq_getD_getElem?, q1]; rfl
          · obtain ⟨x, q1, q2, q3⟩ := key i _ (List.getElem?_eq_getElem hi)
            rw [Array.getD_eq_getD_getElem?, q1]; exact q2
          · obtain ⟨x, q1, q2, q3⟩ := key i d hd
            rw [Array.getD_eq_getD_getElem?, q1]
            exact Rep.mono hmono q3
    obtain ⟨D', X, hD', hX, hXp, hm1, hm2⟩ := key
    have hargs : Args w D' (xs.map a.eval) ds := ⟨hlen.trans hz.len, hz.rep hm1 hm2 hlen hrep⟩
    refine wp_enter hrun ((hf.run w D' _ hD' hargs).mono fun e w' h => ?_)
    obtain ⟨v, D2, he, h1, h2, h3⟩ := h
    refine ⟨v, he, v, fun t g i => D2 t g i ∧ ¬ X t g i, rfl, h1, ⟨fun t g i hd => ⟨h2.up _ _ _ ((hX t g i).2 (.inl hd)), fun hx' => (hXp t g i hx').2 t i hd⟩, fun t g i hd => ?_⟩, ?_⟩
    · rcases h2.new t g i hd.1 with h | h
      · rcases (hX t g i).1 h with h | h
        · exact .inl h
        · exact absurd h hd.2
      · exact .inr h
    · exact ha.rep (fun t g i hne hd => ⟨hd, fun hx' => hne (hXp t g i hx').1⟩) h3
theorem e_clp {y x : Operand} {ats : Array TypeId} {f : FuncId} {k q n : Nat} (hf : ∀ b, Takes P f [.val (.pointer (some ⟨b, q, none⟩))] (.val (.slice (some ⟨b, q, none⟩) n n))) (ho : o.op = .call { callee := .value y, args := #[x], argTypes := ats }) (hy : ev S y = .d (.val (.func (.func f) #[] #[])))
    (hx : ev S x = .ref k q) (hm : Nat.ble n maxLen = true) : EOk P o S [] (.view k q n) :=
  fun a w D β Q hop _ hD => by
    have hyv := hop y (by simp [ho, Op.operands, Call.operands])
    rw [hy] at hyv
    have hyv' := rep_val hyv
    have hxv := hop x (by simp [ho, Op.operands, Call.operands])
    rw [hx] at hxv
    obtain ⟨b, e1, e2⟩ := hxv
    have hrun : (execOp a.eval o).run P w = .ok (.enter f [a.eval x].toArray) w := by
      simp only [execOp, ho, resolve, Deferred.ofValue, hyv', Sem.run_bind, Sem.run_pure, Result.andThen_ok, invoke, Array.empty_append, Array.append_empty]
      rw [run_callFunc (hf b).may]
      simp
    have hargs : Args w D [a.eval x] [.val (.pointer (some ⟨b, q, none⟩))] := ⟨rfl, fun i v d hv hd => by
      rcases i with _ | i
      · simp at hv hd; subst hv; subst hd; rw [e2]; exact .val _
      · simp at hv⟩
    refine wp_enter hrun (((hf b).run w D _ hD hargs).mono fun e w' h => ?_)
    obtain ⟨v, D2, he, h1, h2, h3⟩ := h
    refine ⟨v, he, v, D2, rfl, h1, h2, b, n, e1, rep_val h3, Nat.le_refl _, Nat.le_of_ble_eq_true hm⟩
end
end Go.Fid
