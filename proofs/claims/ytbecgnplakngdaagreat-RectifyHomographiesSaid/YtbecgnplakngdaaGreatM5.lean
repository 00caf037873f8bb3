/- Part 5 of a proof: rules, plain facts, and functions walked. -/
import Derived.Test.YtbecgnplakngdaaGreatM4
import Derived.LoopNIn
import Derived.Test.YtbecgnplakngdaaGreatM3
import Derived.Test.YtbecgnplakngdaaGreatChecked
import Derived.RangeFuncBox
import Derived.Shelf.Abstract
import Derived.OwnWalkIn
import Derived.TacticsInMore
import Derived.LoopIn
set_option linter.unusedVariables false
set_option linter.unusedSimpArgs false
namespace Go.Fid
open Go.RowKit (Below)
def aW (P : Program) (n : Fr) (c : Code) (Q : Exit → PS → Prop) : Nat → PS → Prop
  | 0, _ => False
  | m + 1, st => uK P n c (PThen (aW P n c Q m) Q) st
theorem qE {P : Program} {n : Fr} {c : Code} {Q : Exit → PS → Prop} {st : PS} (m : Nat) (h : aW P n c Q m st) : uK P n (.loop c) Q st := fun C a w N hn hs => by
  refine wpIn_loop_rounds m ?_
  have key : ∀ m st a w, eP C a w st → aW P n c Q m st → Code.roundsIn (fen n) N P c (fun e a' w' => ∃ st', eP C a' w' st' ∧ Q e st') m a w := by
    intro m
    induction m with
    | zero => intro st a w _ h; exact h.elim
    | succ m ih =>
      intro st a w hs h
      refine wpIn_mono (h C a w N hn hs) fun e a' w' ⟨s, h1, h2⟩ => ?_
      cases e with
      | normal => exact ih s a' w' h1 h2
      | _ => exact ⟨s, h1, h2⟩
  exact key m st a w hs h
theorem qK {P : Program} {n : Fr} {c : Code} {Q : Exit → PS → Prop} {st : PS} {m : Nat} (h : uK P n c (PThen (aW P n c Q m) Q) st) : aW P n c Q (m + 1) st := h
theorem jJ {P : Program} {n : Fr} {c : Code} {Q : Exit → PS → Prop} {s st : PS} {m : Nat} (hw : jZ s st) (h : uK P n c (PThen (aW P n c Q m) Q) st) : PThen (aW P n c Q (m + 1)) Q .normal s :=
  show uK P n c (PThen (aW P n c Q m) Q) s from fun C a w N hn hs => h C a w N hn (hw C a w hs)
section
variable {P : Program} {o : Oper} {S : Nat → SV}
theorem run_sliceArr {T E : TypeId} {n s : Nat} (hT : dA P T = some (n, E, s)) (hn : 0 < n) (w : World) (b q : Nat) : (Instr.sliceAt T (.pointer (some ⟨b, q, none⟩)) none none none).run P w = .ok (.slice (some ⟨b, q, none⟩) n n) w := by
  obtain ⟨j, e1, e2, e3⟩ := arr_of hT
  have hne : ¬ n = 0 := by omega
  simp [Instr.sliceAt, run_underlying e1, Instr.sliceBounds, xS e2, Instr.sureAddr, Addr.add_lit, hne]
theorem e_slv {T E : TypeId} {x : Operand} {k q n s : Nat} (ho : o.op = .slice T x none none none) (hT : dA P T = some (n, E, s)) (hx : ev S x = .ref k q) (hn : Nat.blt 0 n = true) (hm : Nat.ble n maxLen = true) : vH P o S [] (.view k q n) :=
  vH.same fun a w D β hop _ => by
    have hp := hop x (by simp [ho, Op.operands])
    rw [hx] at hp
    obtain ⟨b, h1, h2⟩ := hp
    have hn' : 0 < n := Nat.le_of_ble_eq_true hn
    refine ⟨.slice (some ⟨b, q, none⟩) n n, ?_, b, n, h1, rfl, Nat.le_refl _, Nat.le_of_ble_eq_true hm⟩
    simp [execOp, ho, h2, run_sliceArr hT hn']
theorem e_slp {T E : TypeId} {x : Operand} {b q n s : Nat} (ho : o.op = .slice T x none none none) (hT : dA P T = some (n, E, s)) (hx : ev S x = .d (.val (.pointer (some ⟨b, q, none⟩)))) (hn : Nat.blt 0 n = true) : vH P o S [] (.d (.val (.slice (some ⟨b, q, none⟩) n n))) :=
  vH.same fun a w D β hop _ => by
    have hp := hop x (by simp [ho, Op.operands])
    rw [hx] at hp
    have h2 := vT hp
    have hn' : 0 < n := Nat.le_of_ble_eq_true hn
    refine ⟨.slice (some ⟨b, q, none⟩) n n, ?_, .val _⟩
    simp [execOp, ho, h2, run_sliceArr hT hn']
theorem e_nckp {x : Operand} {a : Addr} (ho : o.op = .nilCheck x) (hx : ev S x = .d (.val (.pointer (some a)))) : vH P o S [] (.d (.val (.pointer (some a)))) :=
  vH.same fun a' w D β hop _ => by
    have hp := hop x (by simp [ho, Op.operands])
    rw [hx] at hp
    have h2 := vT hp
    exact ⟨.pointer (some a), by simp [execOp, ho, h2], .val _⟩
theorem e_nckr {x : Operand} {k q : Nat} (ho : o.op = .nilCheck x) (hx : ev S x = .ref k q) : vH P o S [] (.ref k q) :=
  vH.same fun a' w D β hop _ => by
    have hp := hop x (by simp [ho, Op.operands])
    rw [hx] at hp
    obtain ⟨b, h1, h2⟩ := hp
    exact ⟨.pointer (some ⟨b, q, none⟩), by simp [execOp, ho, h2], b, h1, rfl⟩
theorem e_sap {T E : TypeId} {x : Operand} {t s n z : Nat} {es : List qF} {cs : List qF} (ho : o.op = .sliceToArrayPointer T x) (hT : dA P T = some (n, E, z)) (hx : ev S x = .d (.sl t s es)) (hn : Nat.blt 0 n = true) (hl : es.length = n) (hc : uU es = cs) : vH P o S [] (.d (.cptr t cs 0)) :=
  vH.same fun a w D β hop _ => by
    have hp := hop x (by simp [ho, Op.operands])
    rw [hx] at hp
    obtain ⟨j, e1, e2, e3⟩ := arr_of hT
    have hn' : 0 < n := Nat.le_of_ble_eq_true hn
    subst hc
    generalize hvv : a.eval x = v at hp
    cases hp with
    | sl g off u hnn hcp hm hs ha hD hu h1 hr =>
      rename_i ao m cap
      have hm' : m = n := by omega
      have ha' := ha (by omega)
      subst ha'
      have hlt : ¬ m < n := by omega
      exact ⟨.pointer (some ⟨g, off + 0, none⟩), by simp [execOp, ho, hvv, Instr.arrayAt, run_underlying e1, hlt], .cptr (off := 0) g off u hD hu h1 hr⟩
theorem e_ixv {T E : TypeId} {x ix : Operand} {s b n p q : Nat} {k : IntKind} {i : Int} {j : Nat} (ho : o.op = .indexAddr T x ix) (hT : vX P T = some (E, s)) (hx : ev S x = .view b p n) (hi : ev S ix = .d (.val (.int k i)))
    (hj : i = (j : Int)) (h1 : j < n) (hq : p + j * s = q) : vH P o S [] (.ref b q) :=
  vH.same fun a w D β hop _ => by
    subst hj; subst hq
    have hp := hop x (by simp [ho, Op.operands])
    have hq := hop ix (by simp [ho, Op.operands])
    rw [hx] at hp
    rw [hi] at hq
    have hiv := vT hq
    obtain ⟨c, cap, e1, e2, _⟩ := hp
    have hr := fZ hT w ⟨c, p, none⟩ n cap k (j : Int) (by omega) (by omega)
    exact ⟨.pointer (some ⟨c, p + j * s, none⟩), by simp [execOp, ho, e2, hiv, hr, Addr.add_lit], c, e1, rfl⟩
theorem e_len_view {T E : TypeId} {x : Operand} {s k q n : Nat} (ho : o.op = .call { callee := .builtin .len, args := #[x], argTypes := #[T] }) (hT : vX P T = some (E, s)) (hx : ev S x = .view k q n) : vH P o S [] (.d (.val (.int .i64 n))) :=
  vH.same fun a w D β hop _ => by
    have hp := hop x (by simp [ho, Op.operands, Call.operands])
    rw [hx] at hp
    obtain ⟨i, e1, e2, e3⟩ := nM hT
    obtain ⟨c, cap, _, hv, _⟩ := hp
    exact ⟨.int .i64 n, by simp [execOp, ho, resolve, invoke, builtin, hv, Builtin.len_, run_underlying e1, goInt], .val _⟩
theorem e_ixa {T E : TypeId} {x ix : Operand} {n s sz : Nat} {agg : Bool} {k : IntKind} {i : Int} {j : Nat} {cs : List qF} {y : SV} (ho : o.op = .index T x ix) (hx : ev S x = .d (.agg cs)) (hT : dA P T = some (n, E, s)) (hs : uG P E = some (agg, sz)) (h1 : agg = false → sz = 1)
    (hi : ev S ix = .d (.val (.int k i))) (hj : i = (j : Int)) (hn : Nat.blt j n = true) (hle : Nat.ble (j * s + sz) cs.length = true) (hy : gZ agg (((cs.drop (j * s)).take sz).map .d) = y) : vH P o S [] y := by
  subst hj
  have hn' : j < n := Nat.le_of_ble_eq_true hn
  have h := e_index_arr (P := P) (i := (j : Int)) (k := k) ho hx hT hs h1 hi (by omega) (by omega) (by simpa using Nat.le_of_ble_eq_true hle)
  rw [show ((j : Int)).toNat = j from rfl] at h
  exact hy ▸ h
theorem e_nilF {T T' E t : TypeId} {x : Operand} {s s' : Nat} {es : List qF} (ho : o.op = .binOp .eql T x (.const (.slice none 0 0)) T') (hT : vX P T = some (E, s)) (hx : ev S x = .d (.sl t s' es)) (hl : 0 < es.length) : vH P o S [] (.d (.val (.bool false))) :=
  vH.same fun a w D β hop _ => by
    have hp := hop x (by simp [ho, Op.operands])
    rw [hx] at hp
    obtain ⟨i, f1, f2, f3⟩ := nM hT
    generalize hvv : a.eval x = v at hp
    cases hp with
    | sl g off u hnn hcc hmm hss ha hD hu hone hrr =>
    rename_i ad len cap
    subst hnn
    have had := ha hl
    subst had
    have heq : ∀ d : Nat, (Op.equalIn (d + 1) T (.slice (some ⟨g, off, none⟩) es.length cap) (.slice none 0 0)).run P w = .ok false w := fun d => by
      simp [Op.equalIn, run_underlying f1]
    have heq' : (Op.equal T (.slice (some ⟨g, off, none⟩) es.length cap) (.slice none 0 0)).run P w = .ok false w := heq 9999
    have hce : a.eval (.const (.slice none 0 0)) = .slice none 0 0 := rfl
    refine ⟨.bool false, ?_, .val _⟩
    simp only [execOp, ho, hvv, hce]
    simp [eqGuard, binOp, heq']
theorem e_nilT {T T' E : TypeId} {x : Operand} {s : Nat} (ho : o.op = .binOp .eql T x (.const (.slice none 0 0)) T') (hT : vX P T = some (E, s)) (hx : ev S x = .d (.val (.slice none 0 0))) : vH P o S [] (.d (.val (.bool true))) :=
  vH.same fun a w D β hop _ => by
    have hp := hop x (by simp [ho, Op.operands])
    rw [hx] at hp
    have hv := vT hp
    obtain ⟨i, f1, f2, f3⟩ := nM hT
    have heq : ∀ d : Nat, (Op.equalIn (d + 1) T (.slice none 0 0) (.slice none 0 0)).run P w = .ok true w := fun d => by
      simp [Op.equalIn, run_underlying f1]
    have heq' : (Op.equal T (.slice none 0 0) (.slice none 0 0)).run P w = .ok true w := heq 9999
    have hce : a.eval (.const (.slice none 0 0)) = .slice none 0 0 := rfl
    refine ⟨.bool true, ?_, .val _⟩
    simp only [execOp, ho, hv, hce]
    simp [eqGuard, binOp, heq']
inductive yZ (E : TypeId) : qF → Prop
  | val (v : Value) : yZ E (.val v)
  | sl {t : TypeId} {s : Nat} {es : List qF} (h : t ≠ E) (hs : ∀ (i : Nat) d, (uU es)[i]? = some d → yZ E d) : yZ E (.sl t s es)
  | agg {cs : List qF} (hs : ∀ (i : Nat) d, cs[i]? = some d → yZ E d) : yZ E (.agg cs)
  | tup {cs : List qF} (hs : ∀ (i : Nat) d, cs[i]? = some d → yZ E d) : yZ E (.tup cs)
  | cptr {t : TypeId} {cs : List qF} {off : Nat} (h : t ≠ E) (hs : ∀ (i : Nat) d, cs[i]? = some d → yZ E d) : yZ E (.cptr t cs off)
theorem avo_nil {E : TypeId} : ∀ (i : Nat) d, ([] : List qF)[i]? = some d → yZ E d := fun i d h => by simp at h
theorem nG {E : TypeId} {x : qF} {l : List qF} (h : yZ E x) (hl : ∀ (i : Nat) d, l[i]? = some d → yZ E d) : ∀ (i : Nat) d, (x :: l)[i]? = some d → yZ E d := fun i d hd => by
  rcases i with _ | i
  · simp at hd; subst hd; exact h
  · exact hl i d (by simpa using hd)
theorem avo_vals {α : Type} {E t : TypeId} {s : Nat} {F : α → Value} (h : t ≠ E) (l : List α) : yZ E (.sl t s (l.map fun x => qF.val (F x))) :=
  .sl h (fun i d hd => by
    have : d ∈ uU (l.map fun x => qF.val (F x)) := List.mem_of_getElem? hd
    simp only [uU, List.mem_flatMap, List.mem_map] at this
    obtain ⟨x, ⟨y, _, rfl⟩, hx⟩ := this
    simp only [qF.cells, List.mem_singleton] at hx
    subst hx; exact .val _)
theorem avo_slF {α : Type} {E t : TypeId} {s : Nat} {F : α → qF} (h : t ≠ E) (hF : ∀ x, yZ E (F x)) (l : List α) : yZ E (.sl t s (l.map F)) :=
  .sl h (fun i d hd => by
    have hm : d ∈ uU (l.map F) := List.mem_of_getElem? hd
    simp only [uU, List.mem_flatMap, List.mem_map] at hm
    obtain ⟨x, ⟨y, _, rfl⟩, hx⟩ := hm
    have hy := hF y
    generalize F y = z at hy hx
    cases hy with
    | agg hs =>
      obtain ⟨j, hj⟩ := List.getElem?_of_mem hx
      exact hs j d hj
    | val v => simp only [qF.cells, List.mem_singleton] at hx; subst hx; exact .val v
    | sl h hs => simp only [qF.cells, List.mem_singleton] at hx; subst hx; exact .sl h hs
    | tup hs => simp only [qF.cells, List.mem_singleton] at hx; subst hx; exact .tup hs
    | cptr h hs => simp only [qF.cells, List.mem_singleton] at hx; subst hx; exact .cptr h hs)
theorem yZ.rep {E : TypeId} {w : World} {D D' : uW} (hk : ∀ t g o, t ≠ E → D t g o → D' t g o) {v : Value} {r : qF} (ha : yZ E r) (h : xJ w D v r) : xJ w D' v r := by
  induction h with
  | val v => exact .val v
  | sl g off u hn hc hm hs hao hD hu h1 hr ih =>
    cases ha with
    | sl hne has => exact .sl g off u hn hc hm hs hao (fun i hi => hk _ _ _ hne (hD i hi)) hu h1 (fun i d hd => ih i d hd (has i d hd))
  | agg vs hl h1 hr ih =>
    cases ha with
    | agg has => exact .agg vs hl h1 (fun i v d hv hd => ih i v d hv hd (has i d hd))
  | tup vs hl hr ih =>
    cases ha with
    | tup has => exact .tup vs hl (fun i v d hv hd => ih i v d hv hd (has i d hd))
  | cptr g o u hD hu h1 hr ih =>
    cases ha with
    | cptr hne has => exact .cptr g o u (fun i hi => hk _ _ _ hne (hD i hi)) hu h1 (fun i d hd => ih i d hd (has i d hd))
inductive mS (k : Nat) (E : TypeId) (s q m : Nat) (es : List qF) : List SV → List qF → Prop
  | nil : mS k E s q m es [] []
  | d {x : qF} {zs : List SV} {ds : List qF} (h : mS k E s q m es zs ds) : mS k E s q m es (.d x :: zs) (x :: ds)
  | v {zs : List SV} {ds : List qF} (h : mS k E s q m es zs ds) : mS k E s q m es (.view k q m :: zs) (.sl E s es :: ds)
theorem mS.len {k E s q m : Nat} {es : List qF} {zs : List SV} {ds : List qF} (h : mS k E s q m es zs ds) : zs.length = ds.length := by
  induction h with
  | nil => rfl
  | d h ih => simp [ih]
  | v h ih => simp [ih]
theorem mS.rep {k E s q m : Nat} {es : List qF} {w : World} {D D' : uW} {β : vR} (h1 : ∀ v x, xJ w D v x → xJ w D' v x) (h2 : ∀ v, vO w D β v (.view k q m) → xJ w D' v (.sl E s es)) {zs : List SV} {ds : List qF} (h : mS k E s q m es zs ds) :
    ∀ {vs : List Value}, vs.length = zs.length → (∀ (i : Nat) v x, vs[i]? = some v → zs[i]? = some x → vO w D β v x) → ∀ (i : Nat) v d, vs[i]? = some v → ds[i]? = some d → xJ w D' v d := by
  induction h with
  | nil => intro vs _ _ i v d _ hd; simp at hd
  | d h ih =>
    intro vs hl hr i v d' hv hd
    rcases vs with _ | ⟨v0, vs⟩
    · simp at hl
    · rcases i with _ | i
      · simp at hv hd; subst hv; subst hd; exact h1 _ _ (hr 0 _ _ rfl rfl)
      · exact ih (by simpa using hl) (fun i v x h3 h4 => hr (i + 1) v x (by simpa using h3) (by simpa using h4)) i v d' (by simpa using hv) (by simpa using hd)
  | v h ih =>
    intro vs hl hr i v d' hv hd
    rcases vs with _ | ⟨v0, vs⟩
    · simp at hl
    · rcases i with _ | i
      · simp at hv hd; subst hv; subst hd; exact h2 _ (hr 0 _ _ rfl rfl)
      · exact ih (by simpa using hl) (fun i v x h3 h4 => hr (i + 1) v x (by simpa using h3) (by simpa using h4)) i v d' (by simpa using hv) (by simpa using hd)
theorem e_clv {y : Operand} {xs : List Operand} {ats : Array TypeId} {f : FuncId} {ds es : List qF} {r : qF} {zs : List SV} {cs : List SV} {k E s q m : Nat} (hf : kF P f ds r) (ho : o.op = .call { callee := .value y, args := xs.toArray, argTypes := ats }) (hy : ev S y = .d (.val (.func (.func f) #[] #[])))
    (hx : xs.map (ev S) = zs) (hz : mS k E s q m es zs ds) (hes : ∀ e ∈ es, e.cells.length = s) (hl : es.length = m) (hc : (cs.drop q).take (m * s) = (uU es).map .d) (ha : yZ E r) : vH P o S [(k, cs)] (.d r) :=
  fun a w D β Q hop hrd hD => by
    have hyv := hop y (by simp [ho, Op.operands, Call.operands])
    rw [hy] at hyv
    have hyv' := vT hyv
    have hrep : ∀ (i : Nat) v x, (xs.map a.eval)[i]? = some v → zs[i]? = some x → vO w D β v x := fun i v x hv hz' => by
      rw [List.getElem?_map, Option.map_eq_some_iff] at hv
      obtain ⟨p, hqi, rfl⟩ := hv
      have hm := hop p (by simp [ho, Op.operands, Call.operands, List.mem_of_getElem? hqi])
      have hi := congrArg (fun l : List SV => l[i]?) hx
      simp only [List.getElem?_map, hqi, hz', Option.map_some, Option.some.injEq] at hi
      rw [hi] at hm
      exact hm
    have vD : (xs.map a.eval).length = zs.length := by rw [← hx]; simp
    have hrun : (execOp a.eval o).run P w = .ok (.enter f (xs.map a.eval).toArray) w := by
      simp only [execOp, ho, resolve, Deferred.ofValue, hyv', Sem.run_bind, Sem.run_pure, Result.andThen_ok, invoke, Array.empty_append, Array.append_empty]
      rw [gV hf.may]
      simp
    have hfl := xL hes
    have hblk := hrd (k, cs) (by simp)
    have key : ∃ (D' : uW) (X : TypeId → Nat → Nat → Prop), DOk D' w ∧ (∀ t g i, D' t g i ↔ D t g i ∨ X t g i) ∧ (∀ t g i, X t g i → t = E ∧ ∀ t' i', ¬ D t' g i') ∧ (∀ v x, xJ w D v x → xJ w D' v x) ∧ (∀ v, vO w D β v (.view k q m) → xJ w D' v (.sl E s es)) := by
      rcases hblk with ⟨g1, hcs⟩ | ⟨b, vs, T', g1, g2, g3, g4, g5⟩
      · refine ⟨D, fun _ _ _ => False, hD, fun t g i => by simp, fun _ _ _ h => h.elim, fun _ _ h => h, fun v hv => ?_⟩
        obtain ⟨b, cap, h1, _⟩ := hv
        rw [h1] at g1; cases g1
      · have hmono : ∀ t' g i, D t' g i → (D t' g i ∨ (t' = E ∧ g = b)) ∧ w.cell? ⟨g, i, none⟩ = w.cell? ⟨g, i, none⟩ := fun t' g i hd => ⟨.inl hd, rfl⟩
        refine ⟨fun t' g i => D t' g i ∨ (t' = E ∧ g = b), fun t' g i => t' = E ∧ g = b, fun t' g i hd => ?_, fun _ _ _ => Iff.rfl, fun t g i h => ⟨h.1, fun t' i' hd => g5 t' i' (h.2 ▸ hd)⟩, fun v x hr => xJ.mono hmono hr, fun v hv => ?_⟩
        · rcases hd with hd | ⟨_, e⟩
          · exact hD _ _ _ hd
          · subst e; exact zL g2
        · obtain ⟨b2, cap, h1, h2, h5, h6⟩ := hv
          obtain rfl : b = b2 := by rw [h1] at g1; injection g1 with g1; exact g1.symm
          rw [h2]
          have key : ∀ (i : Nat) d, (uU es)[i]? = some d → ∃ u, vs[q + i]? = some u ∧ u.oneCell' = true ∧ xJ w D u d := fun i d hd => by
            have hi : i < m * s := by
              have := (List.getElem?_eq_some_iff.1 hd).1
              rw [hfl, hl] at this; exact this
            have e1 : cs[q + i]? = some (.d d) := by
              have : ((cs.drop q).take (m * s))[i]? = some (.d d) := by rw [hc]; simp [hd]
              rw [List.getElem?_take_of_lt hi, List.getElem?_drop] at this
              exact this
            exact g4 _ _ e1
          have hcell : ∀ i, w.cell? ⟨b, i, none⟩ = vs[i]? := fun i => cell_of_row w b i vs T' (0, 0) g2
          refine xJ.sl b q (fun i => vs.getD (q + i) undef) hl.symm h5 h6 hes (fun _ => rfl) (fun i hi => .inr ⟨rfl, rfl⟩) (fun i hi => ?_) (fun i hi => ?_) (fun i d hd => ?_)
          · obtain ⟨x, q1, q2, q3⟩ := key i _ (List.getElem?_eq_getElem hi)
            rw [hcell, Array.getD_eq_getD_getElem?, q1]; rfl
          · obtain ⟨x, q1, q2, q3⟩ := key i _ (List.getElem?_eq_getElem hi)
            rw [Array.getD_eq_getD_getElem?, q1]; exact q2
          · obtain ⟨x, q1, q2, q3⟩ := key i d hd
            rw [Array.getD_eq_getD_getElem?, q1]
            exact xJ.mono hmono q3
    obtain ⟨D', X, hD', hX, hXp, hm1, hm2⟩ := key
    have hargs : Args w D' (xs.map a.eval) ds := ⟨vD.trans hz.len, hz.rep hm1 hm2 vD hrep⟩
    refine eO hrun ((hf.run w D' _ hD' hargs).mono fun e w' h => ?_)
    obtain ⟨v, D2, he, h1, h2, h3⟩ := h
    refine ⟨v, he, v, fun t g i => D2 t g i ∧ ¬ X t g i, rfl, h1, ⟨fun t g i hd => ⟨h2.up _ _ _ ((hX t g i).2 (.inl hd)), fun hx' => (hXp t g i hx').2 t i hd⟩, fun t g i hd => ?_⟩, ?_⟩
    · rcases h2.new t g i hd.1 with h | h
      · rcases (hX t g i).1 h with h | h
        · exact .inl h
        · exact absurd h hd.2
      · exact .inr h
    · exact ha.rep (fun t g i hne hd => ⟨hd, fun hx' => hne (hXp t g i hx').1⟩) h3
theorem e_clp {y x : Operand} {ats : Array TypeId} {f : FuncId} {k q n : Nat} (hf : ∀ b, kF P f [.val (.pointer (some ⟨b, q, none⟩))] (.val (.slice (some ⟨b, q, none⟩) n n))) (ho : o.op = .call { callee := .value y, args := #[x], argTypes := ats }) (hy : ev S y = .d (.val (.func (.func f) #[] #[])))
    (hx : ev S x = .ref k q) (hm : Nat.ble n maxLen = true) : vH P o S [] (.view k q n) :=
  fun a w D β Q hop _ hD => by
    have hyv := hop y (by simp [ho, Op.operands, Call.operands])
    rw [hy] at hyv
    have hyv' := vT hyv
    have hxv := hop x (by simp [ho, Op.operands, Call.operands])
    rw [hx] at hxv
    obtain ⟨b, e1, e2⟩ := hxv
    have hrun : (execOp a.eval o).run P w = .ok (.enter f [a.eval x].toArray) w := by
      simp only [execOp, ho, resolve, Deferred.ofValue, hyv', Sem.run_bind, Sem.run_pure, Result.andThen_ok, invoke, Array.empty_append, Array.append_empty]
      rw [gV (hf b).may]
      simp
    have hargs : Args w D [a.eval x] [.val (.pointer (some ⟨b, q, none⟩))] := ⟨rfl, fun i v d hv hd => by
      rcases i with _ | i
      · simp at hv hd; subst hv; subst hd; rw [e2]; exact .val _
      · simp at hv⟩
    refine eO hrun (((hf b).run w D _ hD hargs).mono fun e w' h => ?_)
    obtain ⟨v, D2, he, h1, h2, h3⟩ := h
    refine ⟨v, he, v, D2, rfl, h1, h2, b, n, e1, vT h3, Nat.le_refl _, Nat.le_of_ble_eq_true hm⟩
end
end Go.Fid
set_option linter.unusedVariables false
set_option linter.unusedSimpArgs false
namespace Go.Fid
def up : SL → SL → SL
  | [], S => S
  | p :: D, S => p :: up D S
def upB : BS → BS → BS
  | [], S => S
  | p :: D, S => p :: upB D S
def inS (D : SL) (t : Nat) : Bool := D.any fun p => Nat.beq p.1 t
def inB (D : BS) (t : Nat) : Bool := D.any fun p => Nat.beq p.1 t
def isJ : SV → Bool
  | .junk => true
  | _ => false
theorem isJ_eq {x : SV} (h : isJ x = true) : x = .junk := by cases x <;> first | rfl | cases h
theorem sget_up (D S : SL) (t : Nat) : qN (up D S) t = bif inS D t then qN D t else qN S t := by
  induction D with
  | nil => rfl
  | cons p D ih =>
    obtain ⟨j, x⟩ := p
    show qN ((j, x) :: up D S) t = bif (Nat.beq j t || inS D t) then _ else _
    rw [vS, vS, ih]
    by_cases h : j = t
    · subst h; simp
    · have : Nat.beq j t = false := by rw [← Bool.not_eq_true]; exact fun e => h (Nat.eq_of_beq_eq_true e)
      rw [if_neg h, if_neg h, this, Bool.false_or]
theorem bget_up (D S : BS) (t : Nat) : uQ (upB D S) t = bif inB D t then uQ D t else uQ S t := by
  induction D with
  | nil => rfl
  | cons p D ih =>
    obtain ⟨j, x⟩ := p
    show uQ ((j, x) :: upB D S) t = bif (Nat.beq j t || inB D t) then _ else _
    rw [qG, qG, ih]
    by_cases h : j = t
    · subst h; simp
    · have : Nat.beq j t = false := by rw [← Bool.not_eq_true]; exact fun e => h (Nat.eq_of_beq_eq_true e)
      rw [if_neg h, if_neg h, this, Bool.false_or]
theorem sget_out {D : SL} {t : Nat} (h : inS D t = false) : qN D t = .junk := by
  induction D with
  | nil => rfl
  | cons p D ih =>
    obtain ⟨j, x⟩ := p
    simp only [inS, List.any_cons, Bool.or_eq_false_iff] at h
    rw [vS, if_neg (fun e => by subst e; simp at h), ih h.2]
theorem up_app (W S : SL) : up W S = W ++ S := by
  induction W with
  | nil => rfl
  | cons p W ih => show p :: up W S = p :: (W ++ S); rw [ih]
theorem upB_app (W S : BS) : upB W S = W ++ S := by
  induction W with
  | nil => rfl
  | cons p W ih => show p :: upB W S = p :: (W ++ S); rw [ih]
structure FinS (S0 D Sf : SL) : Prop where
  d : D.map (fun p => qN Sf p.1) = D.map (·.2)
  k : Sf.drop (Sf.length - S0.length) = S0
  j : ((Sf.take (Sf.length - S0.length)).all fun p => inS D p.1 || isJ (qN S0 p.1)) = true
structure FinB (B0 E Bf : BS) : Prop where
  d : (E.filter fun p => p.2.isSome).map (fun p => uQ Bf p.1) = (E.filter fun p => p.2.isSome).map (·.2)
  k : Bf.drop (Bf.length - B0.length) = B0
  j : ((Bf.take (Bf.length - B0.length)).all fun p => inB E p.1) = true
structure FinF (S0 D Sf : SL) : Prop where
  d : D.map (fun p => qN Sf p.1) = D.map (·.2)
  j : ((S0.filter fun p => !inS D p.1).map fun p => qN S0 p.1) = ((S0.filter fun p => !inS D p.1).map fun p => qN Sf p.1)
theorem FinS.get {S0 D Sf : SL} (h : FinS S0 D Sf) (t : Nat) : qN (up D S0) t = .junk ∨ qN (up D S0) t = qN Sf t := by
  rw [sget_up]
  cases hD : inS D t with
  | true => exact sget_eq_or h.d t
  | false =>
    rw [cond_false]
    have e : Sf = up (Sf.take (Sf.length - S0.length)) S0 := by rw [up_app]; conv => lhs; rw [← List.take_append_drop (Sf.length - S0.length) Sf, h.k]
    cases hW : inS (Sf.take (Sf.length - S0.length)) t with
    | false => right; conv => rhs; rw [e, sget_up, hW, cond_false]
    | true =>
      left
      simp only [inS, List.any_eq_true] at hW
      obtain ⟨p, hp, hpt⟩ := hW
      have := List.all_eq_true.1 h.j p hp
      rw [Nat.eq_of_beq_eq_true hpt, hD, Bool.false_or] at this
      exact isJ_eq this
theorem FinF.get {S0 D Sf : SL} (h : FinF S0 D Sf) (t : Nat) : qN (up D S0) t = .junk ∨ qN (up D S0) t = qN Sf t := by
  rw [sget_up]
  cases hD : inS D t with
  | true => exact sget_eq_or h.d t
  | false =>
    rw [cond_false]
    cases hS : inS S0 t with
    | false => left; exact sget_out hS
    | true =>
      right
      simp only [inS, List.any_eq_true] at hS
      obtain ⟨p, hp, hpt⟩ := hS
      have hpt := Nat.eq_of_beq_eq_true hpt
      subst hpt
      exact List.map_inj_left.1 h.j p (List.mem_filter.2 ⟨hp, by rw [hD]; rfl⟩)
theorem FinB.get {B0 E Bf : BS} (h : FinB B0 E Bf) {k : Nat} {c : List SV} (hc : uQ (upB E B0) k = some c) : uQ Bf k = some c := by
  rw [bget_up] at hc
  cases hD : inB E k with
  | true =>
    rw [hD, cond_true] at hc
    exact List.map_inj_left.1 h.d (k, some c) (List.mem_filter.2 ⟨bget_mem hc, rfl⟩)
  | false =>
    rw [hD, cond_false] at hc
    have e : Bf = upB (Bf.take (Bf.length - B0.length)) B0 := by rw [upB_app]; conv => lhs; rw [← List.take_append_drop (Bf.length - B0.length) Bf, h.k]
    cases hW : inB (Bf.take (Bf.length - B0.length)) k with
    | false => rw [e, bget_up, hW, cond_false]; exact hc
    | true =>
      simp only [inB, List.any_eq_true] at hW
      obtain ⟨p, hp, hpt⟩ := hW
      have := List.all_eq_true.1 h.j p hp
      rw [Nat.eq_of_beq_eq_true hpt, hD] at this
      cases this
theorem sim_get {S B S' B'} (h1 : ∀ t, qN S' t = .junk ∨ qN S' t = qN S t) (h2 : ∀ k c, uQ B' k = some c → uQ B k = some c) : jZ ⟨S, B⟩ ⟨S', B'⟩ := fun C a w ⟨D, β, hs⟩ =>
  ⟨D, β, hs.base, ⟨fun k cs hk => hs.mem.ok k cs (h2 _ _ hk), fun k1 k2 c1 c2 q1 q2 => hs.mem.inj k1 k2 c1 c2 (h2 _ _ q1) (h2 _ _ q2)⟩, fun k c hk => hs.high k c (h2 _ _ hk), fun t => by
    rcases h1 t with h | h
    · show vO w D β _ (qN S' t)
      rw [h]; trivial
    · show vO w D β _ (qN S' t)
      rw [h]; exact hs.slots t⟩
theorem wk {st : PS} {l : SL} {b : BS} (h1 : l.map (fun p => qN st.sl p.1) = l.map (·.2) := by kernel_rfl) (h2 : b.map (fun p => uQ st.bs p.1) = b.map (·.2) := by kernel_rfl) : jZ st ⟨l, b⟩ := weak h1 h2
def SK (P : Program) (n : Fr) (ops : Array Oper) (K : SL → BS → Prop) (S : SL) (B : BS) (l : List Oper) : Prop := ∃ st1, Steps P n ops ⟨S, B⟩ l st1 ∧ K st1.sl st1.bs
def DK (P : Program) (n : Fr) (ops : Array Oper) (K : SL → BS → Prop) (news : List Nat) (acc0 : List (List Nat × List Nat)) (S : SL) (B : BS) (l : List Oper) : Prop :=
  ∃ st1 acc, DSteps P n ops news ⟨S, B⟩ l acc st1 ∧ orderB ops (acc0 ++ acc) = true ∧ K st1.sl st1.bs
def KS (S0 : SL) (B0 : BS) (D : SL) (E : BS) (Sf : SL) (Bf : BS) : Prop := FinS S0 D Sf ∧ FinB B0 E Bf
def KF (S0 : SL) (B0 : BS) (D : SL) (E : BS) (Sf : SL) (Bf : BS) : Prop := FinF S0 D Sf ∧ FinB B0 E Bf
def dO (o : Oper) : Tmp := o.dst.getD 0
def goK (n : Fr) (ops : Array Oper) (S : SL) (o : Oper) : Bool := match o.dst with
  | some d => match yQ ops S o with
    | some true => nN n (some d)
    | _ => false
  | none => false
theorem mT {n : Fr} {ops : Array Oper} {S : SL} {o : Oper} (h : goK n ops S o = true) : o.dst = some (dO o) ∧ yQ ops S o = some true ∧ nN n (some (dO o)) = true := by
  unfold goK at h
  unfold dO
  split at h
  · rename_i d hd
    split at h
    · rename_i hg; rw [hd]; exact ⟨rfl, hg, h⟩
    · cases h
  · cases h
def goF (n : Fr) (ops : Array Oper) (S : SL) (o : Oper) : Bool := match o.dst with
  | some d => match yQ ops S o with
    | some false => nN n (some d)
    | _ => false
  | none => false
theorem goF_spec {n : Fr} {ops : Array Oper} {S : SL} {o : Oper} (h : goF n ops S o = true) : o.dst = some (dO o) ∧ yQ ops S o = some false ∧ nN n (some (dO o)) = true := by
  unfold goF at h
  unfold dO
  split at h
  · rename_i d hd
    split at h
    · rename_i hg; rw [hd]; exact ⟨rfl, hg, h⟩
    · cases h
  · cases h
def goT (ops : Array Oper) (S : SL) (o : Oper) : Bool := match o.dst with
  | some _ => false
  | none => match yQ ops S o with
    | some true => true
    | _ => false
theorem goT_spec {ops : Array Oper} {S : SL} {o : Oper} (h : goT ops S o = true) : o.dst = none ∧ yQ ops S o = some true := by
  unfold goT at h
  split at h
  · cases h
  · rename_i hd
    split at h
    · rename_i hg; exact ⟨hd, hg⟩
    · cases h
def mvV (S : SL) (o : Oper) : SV := match o.op with
  | .move x => ev (qN S) x
  | .assign x => ev (qN S) x
  | _ => .junk
def mvK (o : Oper) : Bool := match o.op with
  | .move _ => true
  | .assign _ => true
  | _ => false
def ROk (P : Program) (o : Oper) (S : SL) (B : BS) (k : Nat) (x : SV) : Prop := ∃ cs, vH P o (qN S) [(k, cs)] x ∧ uQ B k = some cs
def TK (P : Program) (o : Oper) (S : SL) (B : BS) (k : Nat) (cs : List SV) : Prop := ∃ old, TOk P o (qN S) k old cs ∧ uQ B k = some old
section
variable {P : Program} {n : Fr} {ops : Array Oper} {K : SL → BS → Prop} {S : SL} {B : BS} {l : List Oper} {o : Oper} {news : List Nat} {acc0 : List (List Nat × List Nat)}
theorem xD (h : mvK o = true) : vH P o (qN S) [] (mvV S o) := by
  unfold mvK at h
  unfold mvV
  split at h
  · rename_i x hx; exact e_move (.inl hx)
  · rename_i x hx; exact e_move (.inr hx)
  · cases h
theorem zE {x : SV} (h : vH P o (qN S) [] x) (r : SK P n ops K ((dO o, x) :: S) B l) (g : goK n ops S o = true := by kernel_rfl) : SK P n ops K S B (o :: l) := by
  obtain ⟨st1, r1, r2⟩ := r
  obtain ⟨hd, hg, hb⟩ := mT g
  have hs := Step.e (P := P) (n := n) (ops := ops) (st := ⟨S, B⟩) (o := o) h hg (by rw [hd]; exact hb) (by simp)
  rw [hd] at hs
  exact ⟨st1, .cons hs r1, r2⟩
theorem zM (r : SK P n ops K ((dO o, mvV S o) :: S) B l) (h : mvK o = true := by kernel_rfl) (g : goK n ops S o = true := by kernel_rfl) : SK P n ops K S B (o :: l) := zE (xD h) r g
theorem zR {k : Nat} {x : SV} (h : ROk P o S B k x) (r : SK P n ops K ((dO o, x) :: S) B l) (g : goK n ops S o = true := by kernel_rfl) : SK P n ops K S B (o :: l) := by
  obtain ⟨st1, r1, r2⟩ := r
  obtain ⟨cs, h, hbk⟩ := h
  obtain ⟨hd, hg, hb⟩ := mT g
  have hs := Step.e (P := P) (n := n) (ops := ops) (st := ⟨S, B⟩) (o := o) h hg (by rw [hd]; exact hb) (by simpa using hbk)
  rw [hd] at hs
  exact ⟨st1, .cons hs r1, r2⟩
theorem zN {k : Nat} {cs : List SV} {x : SV} (h : NOk P o (qN S) k cs x) (r : SK P n ops K ((dO o, x) :: S) ((k, some cs) :: B) l) (g : goK n ops S o = true := by kernel_rfl) (hf : hZ k ⟨S, B⟩ = true := by kernel_rfl) : SK P n ops K S B (o :: l) := by
  obtain ⟨st1, r1, r2⟩ := r
  obtain ⟨hd, hg, hb⟩ := mT g
  have hs := Step.n (P := P) (n := n) (ops := ops) (st := ⟨S, B⟩) (o := o) h hg (by rw [hd]; exact hb) hf
  rw [hd] at hs
  exact ⟨st1, .cons hs r1, r2⟩
theorem zH {k : Nat} {cs : List SV} {x : SV} (h : NOk P o (qN S) k cs x) (r : SK P n ops K ((dO o, x) :: S) ((k, some cs) :: B) l) (g : goK n ops S o = true := by kernel_rfl) (h1 : (S.all fun p => !p.2.names k) = true := by kernel_rfl)
    (h2 : FrB k B := by repeat first | exact frb_nil _ | refine frb_map rfl ?_ | refine frb_d rfl ?_ | refine frb_cs rfl rfl ?_ | refine frb_none rfl ?_) : SK P n ops K S B (o :: l) := zN h r g (freshB_of h1 h2)
theorem zT {k : Nat} {cs : List SV} (h : TK P o S B k cs) (r : SK P n ops K S ((k, some cs) :: B) l) (g : goT ops S o = true := by kernel_rfl) : SK P n ops K S B (o :: l) := by
  obtain ⟨st1, r1, r2⟩ := r
  obtain ⟨old, h, hb⟩ := h
  obtain ⟨hd, hg⟩ := goT_spec g
  have hs := Step.t (P := P) (n := n) (ops := ops) (st := ⟨S, B⟩) (o := o) h hg (by rw [hd]; rfl) hb
  rw [hd] at hs
  exact ⟨st1, .cons hs r1, r2⟩
theorem zK (r : SK P n ops K ((dO o, .d (.tup [])) :: S) B l) (g : goF n ops S o = true := by kernel_rfl) : SK P n ops K S B (o :: l) := by
  obtain ⟨st1, r1, r2⟩ := r
  obtain ⟨hd, hg, hb⟩ := goF_spec g
  have hs := Step.skip (P := P) (n := n) (ops := ops) (st := ⟨S, B⟩) (o := o) hg (by rw [hd]; exact hb)
  rw [hd] at hs
  exact ⟨st1, .cons hs r1, r2⟩
theorem zX {S1 : SL} {B1 : BS} (h : ∀ (C : Ctx) (a : Act) (w : World) (Q : Exit → Act → World → Prop), C.n = n → eP C a w ⟨S, B⟩ → o.wp P a w (fun a' w' => eP C a' w' ⟨S1, B1⟩) Q) (hg : yQ ops S o = some true) (r : SK P n ops K S1 B1 l) : SK P n ops K S B (o :: l) := by
  obtain ⟨st1, r1, r2⟩ := r
  exact ⟨st1, .cons (.sem h hg) r1, r2⟩
section
variable {S0 : SL} {B0 : BS} {D : SL} {E : BS}
theorem zZ (h1 : D.map (fun p => qN S p.1) = D.map (·.2) := by kernel_rfl) (h2 : S.drop (S.length - S0.length) = S0 := by kernel_rfl) (h3 : ((S.take (S.length - S0.length)).all fun p => inS D p.1 || isJ (qN S0 p.1)) = true := by kernel_rfl)
    (h4 : (E.filter fun p => p.2.isSome).map (fun p => uQ B p.1) = (E.filter fun p => p.2.isSome).map (·.2) := by kernel_rfl) (h5 : B.drop (B.length - B0.length) = B0 := by kernel_rfl) (h6 : ((B.take (B.length - B0.length)).all fun p => inB E p.1) = true := by kernel_rfl) : SK P n ops (KS S0 B0 D E) S B [] :=
  ⟨⟨S, B⟩, .nil, ⟨h1, h2, h3⟩, ⟨h4, h5, h6⟩⟩
theorem zF (h1 : D.map (fun p => qN S p.1) = D.map (·.2) := by kernel_rfl) (h2 : ((S0.filter fun p => !inS D p.1).map fun p => qN S0 p.1) = ((S0.filter fun p => !inS D p.1).map fun p => qN S p.1) := by kernel_rfl)
    (h4 : (E.filter fun p => p.2.isSome).map (fun p => uQ B p.1) = (E.filter fun p => p.2.isSome).map (·.2) := by kernel_rfl) (h5 : B.drop (B.length - B0.length) = B0 := by kernel_rfl) (h6 : ((B.take (B.length - B0.length)).all fun p => inB E p.1) = true := by kernel_rfl) : SK P n ops (KF S0 B0 D E) S B [] :=
  ⟨⟨S, B⟩, .nil, ⟨h1, h2⟩, ⟨h4, h5, h6⟩⟩
theorem wZ (h1 : D.map (fun p => qN S p.1) = D.map (·.2) := by kernel_rfl) (h2 : S.drop (S.length - S0.length) = S0 := by kernel_rfl) (h3 : ((S.take (S.length - S0.length)).all fun p => inS D p.1 || isJ (qN S0 p.1)) = true := by kernel_rfl)
    (h4 : (E.filter fun p => p.2.isSome).map (fun p => uQ B p.1) = (E.filter fun p => p.2.isSome).map (·.2) := by kernel_rfl) (h5 : B.drop (B.length - B0.length) = B0 := by kernel_rfl) (h6 : ((B.take (B.length - B0.length)).all fun p => inB E p.1) = true := by kernel_rfl) (h7 : orderB ops acc0 = true := by kernel_rfl) : DK P n ops (KS S0 B0 D E) news acc0 S B [] :=
  ⟨⟨S, B⟩, [], .nil, by simpa using h7, ⟨h1, h2, h3⟩, ⟨h4, h5, h6⟩⟩
theorem kx {id : Nat} {Q : Exit → PS → Prop} (D : SL) (E : BS) (h : SK P n l.toArray (KS S0 B0 D E) S0 B0 l) (hq : Q .normal ⟨up D S0, upB E B0⟩) (hp : l.all nK = true := by kernel_rfl) : uK P n (.region id l.toArray false) Q ⟨S0, B0⟩ := fun C a w N hn hs => by
  obtain ⟨st1, h1, h2, h3⟩ := h
  subst hn
  exact wpIn_region_lit (steps_sound (C := C) h1 hp rfl (fun a' w' hs' => ⟨_, sim_get h2.get (fun k c => h3.get) C a' w' hs', hq⟩) hs)
theorem kf {id : Nat} {Q : Exit → PS → Prop} (D : SL) (E : BS) (h : SK P n l.toArray (KF S0 B0 D E) S0 B0 l) (hq : Q .normal ⟨up D S0, upB E B0⟩) (hp : l.all nK = true := by kernel_rfl) : uK P n (.region id l.toArray false) Q ⟨S0, B0⟩ := fun C a w N hn hs => by
  obtain ⟨st1, h1, h2, h3⟩ := h
  subst hn
  exact wpIn_region_lit (steps_sound (C := C) h1 hp rfl (fun a' w' hs' => ⟨_, sim_get h2.get (fun k c => h3.get) C a' w' hs', hq⟩) hs)
theorem kd {id : Nat} {Q : Exit → PS → Prop} (D : SL) (E : BS) (hm : P.follows .mixedOrders = true) (h : DK P n l.toArray (KS S0 B0 D E) [] [] S0 B0 l) (hq : Q .normal ⟨up D S0, upB E B0⟩) (hb : backB l.toArray = true := by kernel_rfl) (hp : l.all nK = true := by kernel_rfl) : uK P n (.region id l.toArray true) Q ⟨S0, B0⟩ := fun C a w N hn hs => by
  obtain ⟨st1, acc, h1, h0, h2, h3⟩ := h
  subst hn
  exact wpIn_region_any hm (draw_sound (C := C) rfl (by simpa using h1) (by simpa using h0) hb (by simpa using hp) (fun a' w' hs' => ⟨_, sim_get h2.get (fun k c => h3.get) C a' w' hs', hq⟩) hs)
end
theorem wE {x : SV} (h : vH P o (qN S) [] x) (r : DK P n ops K news (acc0 ++ [([], [])]) ((dO o, x) :: S) B l) (g : goK n ops S o = true := by kernel_rfl) (hn : clearR ops S o news x = true := by kernel_rfl) : DK P n ops K news acc0 S B (o :: l) := by
  obtain ⟨st1, acc, r1, r0, r2⟩ := r
  obtain ⟨hd, hg, hb⟩ := mT g
  have hs := dB.e (P := P) (n := n) (ops := ops) (news := news) (st := ⟨S, B⟩) (o := o) h hg (by rw [hd]; exact hb) (by simp) hn
  rw [hd] at hs
  exact ⟨st1, ([], []) :: acc, .cons hs r1, by simpa using r0, r2⟩
theorem wM (r : DK P n ops K news (acc0 ++ [([], [])]) ((dO o, mvV S o) :: S) B l) (h : mvK o = true := by kernel_rfl) (g : goK n ops S o = true := by kernel_rfl) (hn : clearR ops S o news (mvV S o) = true := by kernel_rfl) : DK P n ops K news acc0 S B (o :: l) := wE (xD h) r g hn
theorem wR {k : Nat} {x : SV} (h : ROk P o S B k x) (r : DK P n ops K news (acc0 ++ [([k], [])]) ((dO o, x) :: S) B l) (g : goK n ops S o = true := by kernel_rfl) (hn : clearR ops S o news x = true := by kernel_rfl) : DK P n ops K news acc0 S B (o :: l) := by
  obtain ⟨st1, acc, r1, r0, r2⟩ := r
  obtain ⟨cs, h, hbk⟩ := h
  obtain ⟨hd, hg, hb⟩ := mT g
  have hs := dB.e (P := P) (n := n) (ops := ops) (news := news) (st := ⟨S, B⟩) (o := o) h hg (by rw [hd]; exact hb) (by simpa using hbk) hn
  rw [hd] at hs
  exact ⟨st1, ([k], []) :: acc, .cons hs r1, by simpa using r0, r2⟩
theorem wN {k : Nat} {cs : List SV} {x : SV} (h : NOk P o (qN S) k cs x) (r : DK P n ops K (k :: news) (acc0 ++ [([], [k])]) ((dO o, x) :: S) ((k, some cs) :: B) l) (g : goK n ops S o = true := by kernel_rfl) (hf : hZ k ⟨S, B⟩ = true := by kernel_rfl) (hn : clear1 news x = true := by kernel_rfl) (hc : clearL news cs = true := by kernel_rfl) : DK P n ops K news acc0 S B (o :: l) := by
  obtain ⟨st1, acc, r1, r0, r2⟩ := r
  obtain ⟨hd, hg, hb⟩ := mT g
  have hs := dB.n (P := P) (n := n) (ops := ops) (news := news) (st := ⟨S, B⟩) (o := o) h hg (by rw [hd]; exact hb) hf hn hc
  rw [hd] at hs
  exact ⟨st1, ([], [k]) :: acc, .cons hs r1, by simpa using r0, r2⟩
theorem wH {k : Nat} {cs : List SV} {x : SV} (h : NOk P o (qN S) k cs x) (r : DK P n ops K (k :: news) (acc0 ++ [([], [k])]) ((dO o, x) :: S) ((k, some cs) :: B) l) (hc : clearL news cs = true) (g : goK n ops S o = true := by kernel_rfl) (h1 : (S.all fun p => !p.2.names k) = true := by kernel_rfl)
    (h2 : FrB k B := by repeat first | exact frb_nil _ | refine frb_map rfl ?_ | refine frb_d rfl ?_ | refine frb_cs rfl rfl ?_ | refine frb_none rfl ?_) (hn : clear1 news x = true := by kernel_rfl) : DK P n ops K news acc0 S B (o :: l) := wN h r g (freshB_of h1 h2) hn hc
theorem wT {k : Nat} {cs : List SV} (h : TK P o S B k cs) (r : DK P n ops K news (acc0 ++ [([k], [k])]) S ((k, some cs) :: B) l) (g : goT ops S o = true := by kernel_rfl) (hc : clearL news cs = true := by kernel_rfl) : DK P n ops K news acc0 S B (o :: l) := by
  obtain ⟨st1, acc, r1, r0, r2⟩ := r
  obtain ⟨old, h, hb⟩ := h
  obtain ⟨hd, hg⟩ := goT_spec g
  have hs := dB.t (P := P) (n := n) (ops := ops) (news := news) (st := ⟨S, B⟩) (o := o) h hg (by rw [hd]; rfl) hb hc
  rw [hd] at hs
  exact ⟨st1, ([k], [k]) :: acc, .cons hs r1, by simpa using r0, r2⟩
theorem wK (r : DK P n ops K news (acc0 ++ [([], [])]) ((dO o, .d (.tup [])) :: S) B l) (g : goF n ops S o = true := by kernel_rfl) : DK P n ops K news acc0 S B (o :: l) := by
  obtain ⟨st1, acc, r1, r0, r2⟩ := r
  obtain ⟨hd, hg, hb⟩ := goF_spec g
  have hs := dB.skip (P := P) (n := n) (ops := ops) (news := news) (st := ⟨S, B⟩) (o := o) hg (by rw [hd]; exact hb)
  rw [hd] at hs
  exact ⟨st1, ([], []) :: acc, .cons hs r1, by simpa using r0, r2⟩
end
end Go.Fid
set_option linter.unusedVariables false
set_option linter.unusedSimpArgs false
namespace Go.Fid
def yR : SV → qF
  | .d x => x
  | _ => .tup []
def isD : SV → Bool
  | .d _ => true
  | _ => false
def xM : IntKind → Int
  | .i64 => -9223372036854775808
  | .u64 => 0
  | .u32 => 0
  | .u8 => 0
  | _ => 1
def xN : IntKind → Int
  | .i64 => 9223372036854775807
  | .u64 => 18446744073709551615
  | .u32 => 4294967295
  | .u8 => 255
  | _ => 0
theorem qV {k : IntKind} {m r : Int} (h : m = r) (h1 : xM k ≤ r) (h2 : r ≤ xN k) : k.wrap m = r := by
  cases k <;> simp only [xM, xN] at h1 h2 <;> first | exact wi64 h h1 h2 | exact wu64 h h1 h2 | exact wu32 h h1 h2 | exact wu8 h h1 h2 | (exfalso; omega)
def kHiN : IntKind → Nat
  | .i64 => 9223372036854775807
  | .u64 => 18446744073709551615
  | .u32 => 4294967295
  | .u8 => 255
  | _ => 0
theorem wNat {k : IntKind} {m : Int} {r : Nat} (h : m = ((r : Nat) : Int)) (h2 : r ≤ kHiN k) (h1 : xM k ≤ 0) : k.wrap m = ((r : Nat) : Int) := by
  refine qV h (Int.le_trans h1 (Int.natCast_nonneg _)) ?_
  cases k <;> simp only [xN, kHiN] at h2 ⊢ <;> first | omega | (exfalso; revert h1; decide)
theorem qAny {k : IntKind} (a b : Nat) (h : a ≤ kHiN k) (h1 : xM k ≤ 0) : k.wrap (Int.tdiv (a : Int) (b : Int)) = ((a / b : Nat) : Int) :=
  wNat rfl (Nat.le_trans (Nat.div_le_self a b) h) h1
theorem isD_eq {x : SV} (h : isD x = true) : x = .d (yR x) := by cases x <;> first | rfl | cases h
section
variable {P : Program} {o : Oper} {S : Nat → SV} {T T' : TypeId} {x y c : Operand} {k l : IntKind} {m n : Int}
theorem qQ (r : Nat) (ho : o.op = .binOp .add T x y T' := by exact rfl) (hx : ev S x = .d (.val (.int k m)) := by exact rfl) (hy : ev S y = .d (.val (.int k n)) := by exact rfl) (hr : k.wrap (m + n) = ((r : Nat) : Int) := by exact wNat (by first | rfl | omega | (dsimp only; omega)) (by simp only [kHiN]; omega) (by decide)) : vH P o S [] (.d (.val (.int k ((r : Nat) : Int)))) := e_add ho hx hy hr
theorem oSb (r : Nat) (ho : o.op = .binOp .sub T x y T' := by exact rfl) (hx : ev S x = .d (.val (.int k m)) := by exact rfl) (hy : ev S y = .d (.val (.int k n)) := by exact rfl) (hr : k.wrap (m - n) = ((r : Nat) : Int) := by exact wNat (by first | rfl | omega | (dsimp only; omega)) (by simp only [kHiN]; omega) (by decide)) : vH P o S [] (.d (.val (.int k ((r : Nat) : Int)))) := e_sub ho hx hy hr
theorem oMl (r : Nat) (ho : o.op = .binOp .mul T x y T' := by exact rfl) (hx : ev S x = .d (.val (.int k m)) := by exact rfl) (hy : ev S y = .d (.val (.int k n)) := by exact rfl) (hr : k.wrap (m * n) = ((r : Nat) : Int) := by exact wNat (by first | rfl | omega | (dsimp only; omega)) (by simp only [kHiN]; omega) (by decide)) : vH P o S [] (.d (.val (.int k ((r : Nat) : Int)))) := e_mul ho hx hy hr
theorem zAd (r : Int) (ho : o.op = .binOp .add T x y T' := by exact rfl) (hx : ev S x = .d (.val (.int k m)) := by exact rfl) (hy : ev S y = .d (.val (.int k n)) := by exact rfl) (hr : k.wrap (m + n) = r := by exact qV (by first | omega | (dsimp only; omega)) (by simp only [xM]; omega) (by simp only [xN]; omega)) : vH P o S [] (.d (.val (.int k r))) := e_add ho hx hy hr
theorem aH (r : Int) (ho : o.op = .binOp .sub T x y T' := by exact rfl) (hx : ev S x = .d (.val (.int k m)) := by exact rfl) (hy : ev S y = .d (.val (.int k n)) := by exact rfl) (hr : k.wrap (m - n) = r := by exact qV (by first | omega | (dsimp only; omega)) (by simp only [xM]; omega) (by simp only [xN]; omega)) : vH P o S [] (.d (.val (.int k r))) := e_sub ho hx hy hr
theorem nI (r : Int) (ho : o.op = .binOp .mul T x y T' := by exact rfl) (hx : ev S x = .d (.val (.int k m)) := by exact rfl) (hy : ev S y = .d (.val (.int k n)) := by exact rfl) (hr : k.wrap (m * n) = r := by exact qV (by first | omega | (dsimp only; omega)) (by simp only [xM]; omega) (by simp only [xN]; omega)) : vH P o S [] (.d (.val (.int k r))) := e_mul ho hx hy hr
theorem oQu (r : Nat) (ho : o.op = .binOp .quo T x y T' := by exact rfl) (hx : ev S x = .d (.val (.int k m)) := by exact rfl) (hy : ev S y = .d (.val (.int k n)) := by exact rfl) (h0 : n ≠ 0 := by first | decide | omega) (hr : k.wrap (m.tdiv n) = ((r : Nat) : Int) := by exact qAny _ _ (by simp only [kHiN]; omega) (by decide)) : vH P o S [] (.d (.val (.int k ((r : Nat) : Int)))) := e_quo ho hx hy h0 hr
theorem aI (r : Nat) (ho : o.op = .binOp .rem T x y T' := by exact rfl) (hx : ev S x = .d (.val (.int k m)) := by exact rfl) (hy : ev S y = .d (.val (.int k n)) := by exact rfl) (h0 : n ≠ 0 := by first | decide | omega) (hr : m.tmod n = ((r : Nat) : Int) := by exact tmod_nat _ _) : vH P o S [] (.d (.val (.int k ((r : Nat) : Int)))) := e_rem ho hx hy h0 hr
theorem aL (ho : o.op = .binOp .eql T x y T' := by exact rfl) (hx : ev S x = .d (.val (.int k m)) := by exact rfl) (hy : ev S y = .d (.val (.int k n)) := by exact rfl) : vH P o S [] (.d (.val (.bool (m == n)))) := e_eql ho hx hy
theorem mR (ho : o.op = .binOp .neq T x y T' := by exact rfl) (hx : ev S x = .d (.val (.int k m)) := by exact rfl) (hy : ev S y = .d (.val (.int k n)) := by exact rfl) : vH P o S [] (.d (.val (.bool (m != n)))) := e_neq ho hx hy
theorem qS (ho : o.op = .binOp .lss T x y T' := by exact rfl) (hx : ev S x = .d (.val (.int k m)) := by exact rfl) (hy : ev S y = .d (.val (.int k n)) := by exact rfl) : vH P o S [] (.d (.val (.bool (decide (m < n))))) := e_lss ho hx hy
theorem oLe (ho : o.op = .binOp .leq T x y T' := by exact rfl) (hx : ev S x = .d (.val (.int k m)) := by exact rfl) (hy : ev S y = .d (.val (.int k n)) := by exact rfl) : vH P o S [] (.d (.val (.bool (decide (m ≤ n))))) := e_leq ho hx hy
theorem bO (ho : o.op = .binOp .gtr T x y T' := by exact rfl) (hx : ev S x = .d (.val (.int k m)) := by exact rfl) (hy : ev S y = .d (.val (.int k n)) := by exact rfl) : vH P o S [] (.d (.val (.bool (decide (n < m))))) := e_gtr ho hx hy
theorem oGe (ho : o.op = .binOp .geq T x y T' := by exact rfl) (hx : ev S x = .d (.val (.int k m)) := by exact rfl) (hy : ev S y = .d (.val (.int k n)) := by exact rfl) : vH P o S [] (.d (.val (.bool (decide (n ≤ m))))) := e_geq ho hx hy
theorem oEb (hT : boolB P T = true) {p q : Bool} (ho : o.op = .binOp .eql T x y T' := by exact rfl) (hx : ev S x = .d (.val (.bool p)) := by exact rfl) (hy : ev S y = .d (.val (.bool q)) := by exact rfl) : vH P o S [] (.d (.val (.bool (p == q)))) := e_eqlb ho hT hx hy
theorem oNb (hT : boolB P T = true) {p q : Bool} (ho : o.op = .binOp .neq T x y T' := by exact rfl) (hx : ev S x = .d (.val (.bool p)) := by exact rfl) (hy : ev S y = .d (.val (.bool q)) := by exact rfl) : vH P o S [] (.d (.val (.bool (!(p == q))))) := e_neqb ho hT hx hy
theorem eX {b : Bool} (ho : o.op = .unOp .not T x := by exact rfl) (hx : ev S x = .d (.val (.bool b)) := by exact rfl) : vH P o S [] (.d (.val (.bool !b))) := e_not ho hx
theorem oNg (r : Int) (ho : o.op = .unOp .neg T x := by exact rfl) (hx : ev S x = .d (.val (.int k n)) := by exact rfl) (hr : k.wrap (0 - n) = r := by exact qV (by first | omega | (dsimp only; omega)) (by simp only [xM]; omega) (by simp only [xN]; omega)) : vH P o S [] (.d (.val (.int k r))) := e_neg ho hx hr
theorem mW {src dst : TypeId} (hs : (P.underlying src).isSome = true) (hd : intB P dst = some l) (r : Nat) (ho : o.op = .convert src dst x := by exact rfl) (hx : ev S x = .d (.val (.int k n)) := by exact rfl) (hr : l.wrap n = ((r : Nat) : Int) := by exact wNat (by first | rfl | omega | (dsimp only; omega)) (by simp only [kHiN]; omega) (by decide)) : vH P o S [] (.d (.val (.int l ((r : Nat) : Int)))) := e_conv ho hs hd hx hr
theorem oMx (r : Nat) (ho : o.op = .call { callee := .builtin .max, args := #[x, y], argTypes := #[T, T'] } := by exact rfl) (hx : ev S x = .d (.val (.int k m)) := by exact rfl) (hy : ev S y = .d (.val (.int k n)) := by exact rfl) (hr : (if m < n then n else m) = ((r : Nat) : Int) := by omega) : vH P o S [] (.d (.val (.int k ((r : Nat) : Int)))) := e_maxn ho hx hy hr
theorem qY (c : Bool) {b : Bool} (h : vH P o S [] (.d (.val (.bool b)))) (e : b = c := by decide) : vH P o S [] (.d (.val (.bool c))) := e ▸ h
theorem oV {z : SV} (w : SV) (h : vH P o S [] z) (e : z = w := by kernel_rfl) : vH P o S [] w := e ▸ h
theorem bD (ho : o.op = .pick c x y := by exact rfl) (hc : ev S c = .d (.val (.bool true)) := by kernel_rfl) : vH P o S [] (ev S x) := e_pkt ho hc rfl
theorem fC (ho : o.op = .pick c x y := by exact rfl) (hc : ev S c = .d (.val (.bool false)) := by kernel_rfl) : vH P o S [] (ev S y) := e_pkf ho hc rfl
theorem oPa {q : Bool} (ho : o.op = .pick c x y := by exact rfl) (hc : ev S c = .d (.val (.bool true)) := by kernel_rfl) (hx : ev S x = .d (.val (.bool q)) := by exact rfl) : vH P o S [] (.d (.val (.bool (true && q)))) := e_pkta ho hc hx
theorem oPo {q : Bool} (ho : o.op = .pick c x y := by exact rfl) (hc : ev S c = .d (.val (.bool false)) := by kernel_rfl) (hy : ev S y = .d (.val (.bool q)) := by exact rfl) : vH P o S [] (.d (.val (.bool (false || q)))) := e_pkfo ho hc hy
def nilK (o : Oper) : Bool := match o.op with
  | .move (.const (.slice none 0 0)) => true
  | .assign (.const (.slice none 0 0)) => true
  | _ => false
theorem nilK_eq (h : nilK o = true) : o.op = .move (.const (.slice none 0 0)) ∨ o.op = .assign (.const (.slice none 0 0)) := by
  unfold nilK at h
  split at h
  · exact .inl (by assumption)
  · exact .inr (by assumption)
  · cases h
theorem oNl (t s : Nat) (h : nilK o = true := by kernel_rfl) : vH P o S [] (.d (.sl t s [])) := e_nil t s (nilK_eq h)
theorem oNc {k q : Nat} (ho : o.op = .nilCheck x := by exact rfl) (hx : ev S x = .ref k q := by exact rfl) : vH P o S [] (.ref k q) := e_nckr ho hx
theorem oNp {a : Addr} (ho : o.op = .nilCheck x := by exact rfl) (hx : ev S x = .d (.val (.pointer (some a))) := by exact rfl) : vH P o S [] (.d (.val (.pointer (some a)))) := e_nckp ho hx
theorem oNf {E t : TypeId} {s s' : Nat} {es : List qF} (hT : vX P T = some (E, s)) (ho : o.op = .binOp .eql T x (.const (.slice none 0 0)) T' := by exact rfl) (hx : ev S x = .d (.sl t s' es) := by exact rfl) (hl : 0 < es.length := by exact Nat.succ_pos _) : vH P o S [] (.d (.val (.bool false))) := e_nilF ho hT hx hl
theorem oNu {E : TypeId} {s : Nat} (hT : vX P T = some (E, s)) (ho : o.op = .binOp .eql T x (.const (.slice none 0 0)) T' := by exact rfl) (hx : ev S x = .d (.val (.slice none 0 0)) := by kernel_rfl) : vH P o S [] (.d (.val (.bool true))) := e_nilT ho hT hx
theorem kU {f off b p : Nat} (hf : xK P T f = some off) (ho : o.op = .fieldAddr T x f := by exact rfl) (hx : ev S x = .ref b p := by exact rfl) : vH P o S [] (.ref b (p + off)) := e_fieldAddr_ref ho hx hf
theorem oFc {t : TypeId} {f off p : Nat} {cs : List qF} (hf : xK P T f = some off) (ho : o.op = .fieldAddr T x f := by exact rfl) (hx : ev S x = .d (.cptr t cs p) := by exact rfl) : vH P o S [] (.d (.cptr t cs (p + off))) := e_fieldAddr_cptr ho hx hf
theorem uJ {E : TypeId} {N s b p : Nat} (hT : dA P T = some (N, E, s)) (j : Nat) (ho : o.op = .indexAddr T x y := by exact rfl) (hx : ev S x = .ref b p := by exact rfl) (hi : ev S y = .d (.val (.int k ((j : Nat) : Int))) := by exact rfl) (h1 : Nat.blt j N = true := by kernel_rfl) : vH P o S [] (.ref b (p + j * s)) := e_ixar ho hT hx hi rfl (Nat.le_of_ble_eq_true h1) rfl
theorem oXv {E : TypeId} {N s b p : Nat} (hT : vX P T = some (E, s)) (j : Nat) (ho : o.op = .indexAddr T x y := by exact rfl) (hx : ev S x = .view b p N := by exact rfl) (hi : ev S y = .d (.val (.int k ((j : Nat) : Int))) := by exact rfl) (h1 : j < N := by decide) : vH P o S [] (.ref b (p + j * s)) := e_ixv ho hT hx hi rfl h1 rfl
theorem oXo {E t : TypeId} {N b : Nat} (hT : vX P T = some (E, 1)) (j : Nat) (ho : o.op = .indexAddr T x y := by exact rfl) (hx : ev S x = .own b t 1 N := by exact rfl) (hi : ev S y = .d (.val (.int k n)) := by exact rfl) (hj : n = ((j : Nat) : Int) := by omega) (h1 : j < N := by omega) : vH P o S [] (.ref b j) := e_ixo ho hT hx hi hj h1 (Nat.mul_one j)
theorem zD {E t : TypeId} {s : Nat} {es : List qF} (hT : vX P T = some (E, s)) (j : Nat) (ho : o.op = .indexAddr T x y := by exact rfl) (hx : ev S x = .d (.sl t s es) := by exact rfl) (hi : ev S y = .d (.val (.int k ((j : Nat) : Int))) := by exact rfl) (h1 : Nat.blt j es.length = true := by kernel_rfl) : vH P o S [] (.d (.cptr t (es.getD j (.tup [])).cells 0)) :=
  e_ixs ho hT hx hi rfl (by
    have h1 := Nat.le_of_ble_eq_true h1
    simp [List.getElem?_eq_getElem h1, List.getD])
theorem eK {α : Type} {E t : TypeId} {s : Nat} {F : α → qF} {L : List α} (hT : vX P T = some (E, s)) (j : Nat) (d : α) (ho : o.op = .indexAddr T x y := by exact rfl) (hx : ev S x = .d (.sl t s (L.map F)) := by exact rfl) (hi : ev S y = .d (.val (.int k n)) := by exact rfl) (hj : n = ((j : Nat) : Int) := by omega) (h1 : j < L.length := by omega) : vH P o S [] (.d (.cptr t (F (L.getD j d)).cells 0)) :=
  e_ixs ho hT hx hi hj (ixm F L j d h1)
theorem yL {t : TypeId} {off : Nat} {cs : List qF} (hs : uG P T = some (false, 1)) (ho : o.op = .load T x := by exact rfl) (hx : ev S x = .d (.cptr t cs off) := by exact rfl) (hl : Nat.blt off cs.length = true := by kernel_rfl) : vH P o S [] (.d (cs.getD off (.tup []))) :=
  e_lc1 ho hx hs (by
    have hl := Nat.le_of_ble_eq_true hl
    simp [List.getElem?_eq_getElem hl, List.getD])
theorem gY {t : TypeId} {off sz : Nat} {cs : List qF} (hs : uG P T = some (true, sz)) (ho : o.op = .load T x := by exact rfl) (hx : ev S x = .d (.cptr t cs off) := by exact rfl) (hl : Nat.ble (off + sz) cs.length = true := by kernel_rfl) : vH P o S [] (gZ true (((cs.drop off).take sz).map .d)) := e_lca ho hx hs hl rfl
theorem uH {i : Nat} {ds : List qF} (ho : o.op = .extract x i := by exact rfl) (hx : ev S x = .d (.tup ds) := by exact rfl) (hi : Nat.blt i ds.length = true := by kernel_rfl) : vH P o S [] (.d (ds.getD i (.tup []))) :=
  e_exD ho hx (by
    have hi := Nat.le_of_ble_eq_true hi
    simp [List.getElem?_eq_getElem hi, List.getD])
theorem oFv {t : TypeId} {f off sz : Nat} {cs : List qF} (hf : iX P T f = some (off, t)) (hs : uG P t = some (true, sz)) (ho : o.op = .field T x f := by exact rfl) (hx : ev S x = .d (.agg cs) := by exact rfl) (hle : Nat.ble (off + sz) cs.length = true := by kernel_rfl) : vH P o S [] (gZ true (((cs.drop off).take sz).map .d)) := e_fldv ho hx hf hs hle rfl
theorem oF1 {t : TypeId} {f off : Nat} {cs : List qF} (hf : iX P T f = some (off, t)) (hs : uG P t = some (false, 1)) (ho : o.op = .field T x f := by exact rfl) (hx : ev S x = .d (.agg cs) := by exact rfl) (hle : Nat.ble (off + 1) cs.length = true := by kernel_rfl) : vH P o S [] (gZ false (((cs.drop off).take 1).map .d)) := e_fld1 ho hx hf hs hle rfl
theorem iF {E : TypeId} {N s sz : Nat} {agg : Bool} {cs : List qF} (hT : dA P T = some (N, E, s)) (hs : uG P E = some (agg, sz)) (h1 : agg = false → sz = 1) (j : Nat) (ho : o.op = .index T x y := by exact rfl) (hx : ev S x = .d (.agg cs) := by exact rfl) (hi : ev S y = .d (.val (.int k ((j : Nat) : Int))) := by exact rfl) (hn : Nat.blt j N = true := by kernel_rfl) (hle : Nat.ble (j * s + sz) cs.length = true := by kernel_rfl) : vH P o S [] (gZ agg (((cs.drop (j * s)).take sz).map .d)) := e_ixa ho hx hT hs h1 hi rfl hn hle rfl
theorem nC {α : Type} {E t : TypeId} {s : Nat} {F : α → qF} {L : List α} (hT : vX P T = some (E, s)) (ho : o.op = .call { callee := .builtin .len, args := #[x], argTypes := #[T] } := by exact rfl) (hx : ev S x = .d (.sl t s (L.map F)) := by exact rfl) : vH P o S [] (.d (.val (.int .i64 ((L.length : Nat) : Int)))) := e_ln ho hT hx (by simp)
theorem fT {E t : TypeId} {s : Nat} {es : List qF} (hT : vX P T = some (E, s)) (r : Nat) (ho : o.op = .call { callee := .builtin .len, args := #[x], argTypes := #[T] } := by exact rfl) (hx : ev S x = .d (.sl t s es) := by exact rfl) (hr : (es.length : Int) = ((r : Nat) : Int) := by simp) : vH P o S [] (.d (.val (.int .i64 ((r : Nat) : Int)))) := e_ln ho hT hx hr
theorem oLo {E t : TypeId} {s b N : Nat} (hT : vX P T = some (E, s)) (ho : o.op = .call { callee := .builtin .len, args := #[x], argTypes := #[T] } := by exact rfl) (hx : ev S x = .own b t s N := by exact rfl) : vH P o S [] (.d (.val (.int .i64 ((N : Nat) : Int)))) := e_len_own ho hT hx
theorem oLv {E : TypeId} {s b q N : Nat} (hT : vX P T = some (E, s)) (ho : o.op = .call { callee := .builtin .len, args := #[x], argTypes := #[T] } := by exact rfl) (hx : ev S x = .view b q N := by exact rfl) : vH P o S [] (.d (.val (.int .i64 ((N : Nat) : Int)))) := e_len_view ho hT hx
theorem oBd {ps : List (Nat × Operand)} {pl : List (Nat × Nat)} {zv : List Value} {zd : List qF} (hT : mX P T = some pl) (hz : xH P T = some zv) (hzd : mP zv zd) (ho : o.op = .build T ps.toArray := by exact rfl)
    (hps : (ps.all fun p => isD (ev S p.2) && (yR (ev S p.2)).ok1) = true := by kernel_rfl) (hr : (eY (fun i => pl[i]?) zd (ps.map fun p => (p.1, (yR (ev S p.2)).cells))).isSome = true := by kernel_rfl) :
    vH P o S [] (.d (.agg ((eY (fun i => pl[i]?) zd (ps.map fun p => (p.1, (yR (ev S p.2)).cells))).getD []))) := by
  rw [List.all_eq_true] at hps
  obtain ⟨r, hr⟩ := Option.isSome_iff_exists.1 hr
  have h := e_build (P := P) (o := o) (S := S) (pd := ps.map fun p => (p.1, yR (ev S p.2))) ho hT hz hzd (by
    rw [List.map_map]
    refine List.map_congr_left fun p hp => ?_
    have := hps p hp
    rw [Bool.and_eq_true] at this
    show (p.1, ev S p.2) = (p.1, SV.d (yR (ev S p.2)))
    rw [← isD_eq this.1]) (by
    rw [List.all_eq_true]
    intro q hq
    obtain ⟨p, hp, rfl⟩ := List.mem_map.1 hq
    have := hps p hp
    rw [Bool.and_eq_true] at this
    exact this.2) (by rw [List.map_map]; exact hr)
  rw [hr]; exact h
theorem oBa {E : TypeId} {N s : Nat} {ps : List (Nat × Operand)} {zv : List Value} {zd : List qF} (hT : dA P T = some (N, E, s)) (hz : xH P T = some zv) (hzd : mP zv zd) (ho : o.op = .build T ps.toArray := by exact rfl)
    (hps : (ps.all fun p => isD (ev S p.2) && (yR (ev S p.2)).ok1) = true := by kernel_rfl) (hr : (eY (fun i => some (i * s, s)) zd (ps.map fun p => (p.1, (yR (ev S p.2)).cells))).isSome = true := by kernel_rfl) :
    vH P o S [] (.d (.agg ((eY (fun i => some (i * s, s)) zd (ps.map fun p => (p.1, (yR (ev S p.2)).cells))).getD []))) := by
  rw [List.all_eq_true] at hps
  obtain ⟨r, hr⟩ := Option.isSome_iff_exists.1 hr
  have h := e_build_arr (P := P) (o := o) (S := S) (pd := ps.map fun p => (p.1, yR (ev S p.2))) ho hT hz hzd (by
    rw [List.map_map]
    refine List.map_congr_left fun p hp => ?_
    have := hps p hp
    rw [Bool.and_eq_true] at this
    show (p.1, ev S p.2) = (p.1, SV.d (yR (ev S p.2)))
    rw [← isD_eq this.1]) (by
    rw [List.all_eq_true]
    intro q hq
    obtain ⟨p, hp, rfl⟩ := List.mem_map.1 hq
    have := hps p hp
    rw [Bool.and_eq_true] at this
    exact this.2) (by rw [List.map_map]; exact hr)
  rw [hr]; exact h
theorem oBf {E : TypeId} {N s : Nat} {ps : List (Nat × Operand)} {zv : List Value} {zd : List qF} (hT : dA P T = some (N, E, s)) (hz : xH P T = some zv) (hzd : mP zv zd) (ho : o.op = .build T ps.toArray := by exact rfl)
    (hps : ps.map (fun p => (p.1, ev S p.2)) = (ps.map fun p => yR (ev S p.2)).zipIdx.map (fun p => (p.2, .d p.1)) := by kernel_rfl) (hok : (ps.all fun p => (yR (ev S p.2)).ok1 && Nat.beq (yR (ev S p.2)).cells.length s) = true := by kernel_rfl) (hl : Nat.beq zd.length (ps.length * s) = true := by kernel_rfl) :
    vH P o S [] (.d (.agg (uU (ps.map fun p => yR (ev S p.2))))) := by
  rw [List.all_eq_true] at hok
  refine e_bldF (ds := ps.map fun p => yR (ev S p.2)) ho hT hz hzd hps ?_ ?_ (by rw [List.length_map]; exact hl) rfl
  · rw [List.all_eq_true]
    intro d hd
    obtain ⟨p, hp, rfl⟩ := List.mem_map.1 hd
    have := hok p hp
    rw [Bool.and_eq_true] at this
    exact this.1
  · rw [List.all_eq_true]
    intro d hd
    obtain ⟨p, hp, rfl⟩ := List.mem_map.1 hd
    have := hok p hp
    rw [Bool.and_eq_true] at this
    exact this.2
theorem bs_fill {s len : Nat} {ps : List (Nat × Operand)} {zd : List qF} (hzl : Nat.beq zd.length s = true) (hps : ps.map (fun p => (p.1, ev S p.2)) = (ps.map fun p => yR (ev S p.2)).zipIdx.map (fun p => (p.2, .d p.1)))
    (hok : (ps.all fun p => (yR (ev S p.2)).ok1 && Nat.beq (yR (ev S p.2)).cells.length s) = true) (hl : Nat.beq ps.length len = true) :
    (∀ e ∈ ps.map (fun p => yR (ev S p.2)), e.cells.length = s) ∧ eY (fun i => some (i * s, s)) (List.replicate len zd).flatten (((ps.map fun p => yR (ev S p.2)).zipIdx.map fun p => (p.2, p.1)).map fun p => (p.1, p.2.cells)) = some (uU (ps.map fun p => yR (ev S p.2))) := by
  have hzl := Nat.eq_of_beq_eq_true hzl
  have hl := Nat.eq_of_beq_eq_true hl
  have hs : ∀ e ∈ ps.map (fun p => yR (ev S p.2)), e.cells.length = s := fun d hd => by
    obtain ⟨p, hp, rfl⟩ := List.mem_map.1 hd
    have := List.all_eq_true.1 hok p hp
    rw [Bool.and_eq_true] at this
    exact Nat.eq_of_beq_eq_true this.2
  refine ⟨hs, ?_⟩
  have h := fillL_all (ps.map fun p => yR (ev S p.2)) 0 [] (List.replicate len zd).flatten (by simp) (by
    rw [List.length_map, hl, List.length_flatten, List.map_replicate, hzl]; simp) hs
  rw [List.nil_append, List.nil_append] at h
  rw [List.map_map]
  exact h
theorem cX {E : TypeId} {s len : Nat} {ps : List (Nat × Operand)} {zv : List Value} {zd : List qF} (hT : vX P T = some (E, s)) (hz : xH P E = some zv) (hzd : mP zv zd) (ho : o.op = .buildSlice T len ps.toArray := by exact rfl)
    (hzl : Nat.beq zd.length s = true := by kernel_rfl) (hps : ps.map (fun p => (p.1, ev S p.2)) = (ps.map fun p => yR (ev S p.2)).zipIdx.map (fun p => (p.2, .d p.1)) := by kernel_rfl) (hok : (ps.all fun p => (yR (ev S p.2)).ok1 && Nat.beq (yR (ev S p.2)).cells.length s) = true := by kernel_rfl) (hl : Nat.beq ps.length len = true := by kernel_rfl)
    (hbig : Nat.ble (len * s) 16777216 = true := by kernel_rfl) (hbig' : Nat.ble len 16777216 = true := by kernel_rfl) : vH P o S [] (.d (.sl E s (ps.map fun p => yR (ev S p.2)))) := by
  obtain ⟨h1, h2⟩ := bs_fill hzl hps hok hl
  refine e_buildSlice (pd := (ps.map fun p => yR (ev S p.2)).zipIdx.map fun p => (p.2, p.1)) ho hT hz hzd (Nat.eq_of_beq_eq_true hzl) (by rw [hps, List.map_map]; rfl) ?_ (Nat.le_of_ble_eq_true hbig) (Nat.le_of_ble_eq_true hbig') (by rw [List.length_map]; exact Nat.eq_of_beq_eq_true hl) h1 h2
  rw [List.all_eq_true]
  intro q hq
  obtain ⟨p, hp, rfl⟩ := List.mem_map.1 hq
  obtain ⟨p', hp', he⟩ := List.mem_map.1 (List.fst_mem_of_mem_zipIdx hp)
  have := List.all_eq_true.1 hok p' hp'
  rw [Bool.and_eq_true] at this
  rw [← he]
  exact this.1
theorem oBe {E : TypeId} {s : Nat} (hT : vX P T = some (E, s)) (ho : o.op = .buildSlice T 0 #[] := by exact rfl) : vH P o S [] .emp := e_bse ho hT
theorem oBo {E : TypeId} {s len : Nat} {ps : List (Nat × Operand)} {zv : List Value} {zd : List qF} (b : Nat) (hT : vX P T = some (E, s)) (hz : xH P E = some zv) (hzd : mP zv zd) (ho : o.op = .buildSlice T len ps.toArray := by exact rfl)
    (hzl : Nat.beq zd.length s = true := by kernel_rfl) (hps : ps.map (fun p => (p.1, ev S p.2)) = (ps.map fun p => yR (ev S p.2)).zipIdx.map (fun p => (p.2, .d p.1)) := by kernel_rfl) (hok : (ps.all fun p => (yR (ev S p.2)).ok1 && Nat.beq (yR (ev S p.2)).cells.length s) = true := by kernel_rfl) (hl : Nat.beq ps.length len = true := by kernel_rfl)
    (hbig : Nat.ble (len * s) 16777216 = true := by kernel_rfl) (hbig' : Nat.ble len 16777216 = true := by kernel_rfl) : NOk P o S b ((uU (ps.map fun p => yR (ev S p.2))).map .d) (.own b E s len) := by
  obtain ⟨h1, h2⟩ := bs_fill hzl hps hok hl
  refine n_bso (pd := (ps.map fun p => yR (ev S p.2)).zipIdx.map fun p => (p.2, p.1)) b ho hT hz hzd (Nat.eq_of_beq_eq_true hzl) (by rw [hps, List.map_map]; rfl) ?_ hbig hbig' (by rw [List.length_map]; exact Nat.eq_of_beq_eq_true hl) ?_ h2 rfl
  · rw [List.all_eq_true]
    intro q hq
    obtain ⟨p, hp, rfl⟩ := List.mem_map.1 hq
    obtain ⟨p', hp', he⟩ := List.mem_map.1 (List.fst_mem_of_mem_zipIdx hp)
    have := List.all_eq_true.1 hok p' hp'
    rw [Bool.and_eq_true] at this
    rw [← he]
    exact this.1
  · refine List.eq_replicate_iff.2 ⟨by rw [List.length_map, List.length_map]; exact Nat.eq_of_beq_eq_true hl, fun z hz => ?_⟩
    obtain ⟨e, he, rfl⟩ := List.mem_map.1 hz
    exact h1 e he
theorem uX {d : qF} (b : Nat) (ho : o.op = .box T x := by exact rfl) (hx : ev S x = .d d := by exact rfl) (h1 : d.ok1 = true := by kernel_rfl) : NOk P o S b (bx d) (.ref b 0) := n_box b ho hx h1
theorem qI {zv : List Value} {zd : List qF} (b : Nat) (hz : xH P T = some zv) (hzd : mP zv zd) (ho : o.op = .alloc T := by exact rfl) : NOk P o S b (zd.map .d) (.ref b 0) := n_alloc b ho hz hzd
theorem oMk {α : Type} {E : TypeId} {s bytes : Nat} {kl kc : IntKind} {zv : List Value} {zd : List qF} {x y : Operand} (b : Nat) (F : α → qF) (z : α) (N M : Nat) (hT : vX P T = some (E, s)) (hz : xH P E = some zv) (hzd : mP zv zd) (hby : nO P E = some bytes) (ho : o.op = .makeSlice T x y := by exact rfl)
    (hl : ev S x = .d (.val (.int kl m)) := by exact rfl) (hc : ev S y = .d (.val (.int kc n)) := by exact rfl) (hlN : m = ((N : Nat) : Int) := by omega) (hcM : n = ((M : Nat) : Int) := by omega) (hzl : Nat.beq zd.length s = true := by kernel_rfl) (hnm : N ≤ M := by omega) (hb : bytes * M ≤ 281474976710656 := by omega) (hm : M ≤ maxLen := by unfold maxLen; omega) (hzF : zd = [F z] := by kernel_rfl) :
    NOk P o S b ((List.replicate M z).map (fun g => SV.d (F g))) (.own b E s N) := by
  subst hlN; subst hcM; subst hzF
  exact n_mks b ho hT hz hzd (Nat.eq_of_beq_eq_true hzl) hby hl hc hnm hb hm (own_zero F M z)
end
section
variable {P : Program} {o : Oper} {S : SL} {B : BS} {T : TypeId} {x y : Operand} {k off : Nat}
theorem uM {cs : List SV} (hs : uG P T = some (false, 1)) (ho : o.op = .load T x := by exact rfl) (hx : ev (qN S) x = .ref k off := by exact rfl) (hb : uQ B k = some cs := by exact rfl) (hl : Nat.blt off cs.length = true := by kernel_rfl) : ROk P o S B k (cs.getD off .junk) :=
  ⟨cs, e_ld1 ho hx hs (by
    have hl := Nat.le_of_ble_eq_true hl
    simp [List.getElem?_eq_getElem hl, List.getD]), hb⟩
theorem kA {sz : Nat} {cs : List SV} (hs : uG P T = some (true, sz)) (ho : o.op = .load T x := by exact rfl) (hx : ev (qN S) x = .ref k off := by exact rfl) (hb : uQ B k = some cs := by exact rfl) (hl : Nat.ble (off + sz) cs.length = true := by kernel_rfl) : ROk P o S B k (gZ true ((cs.drop off).take sz)) := ⟨cs, e_lda ho hx hs hl rfl, hb⟩
theorem oLp {α : Type} {F : α → qF} {L : List α} (hs : uG P T = some (false, 1)) (j : Nat) (d : α) (ho : o.op = .load T x := by exact rfl) (hx : ev (qN S) x = .ref k j := by exact rfl) (hb : uQ B k = some (L.map fun g => SV.d (F g)) := by exact rfl) (h1 : j < L.length := by omega) : ROk P o S B k (.d (F (L.getD j d))) := ⟨_, e_ld1 ho hx hs (own_get F L j d h1), hb⟩
theorem kR {sz : Nat} {agg : Bool} {old : List SV} {d : qF} (hs : uG P T = some (agg, sz)) (ho : o.op = .store T x y := by exact rfl) (hx : ev (qN S) x = .ref k off := by exact rfl) (hy : ev (qN S) y = .d d := by exact rfl) (hb : uQ B k = some old := by exact rfl) (h1 : d.ok1 = true := by kernel_rfl) (vD : Nat.beq d.cells.length sz = true := by kernel_rfl) (hle : Nat.ble (off + sz) old.length = true := by kernel_rfl) : TK P o S B k (patch old off (d.cells.map .d)) :=
  ⟨old, t_std ho hx hy hs h1 (Nat.eq_of_beq_eq_true vD) hle rfl, hb⟩
theorem oSo {j E s N : Nat} {u : SV} (hs : uG P T = some (false, 1)) (ho : o.op = .store T x y := by exact rfl) (hx : ev (qN S) x = .ref k 0 := by exact rfl) (hy : ev (qN S) y = .own j E s N := by exact rfl) (hb : uQ B k = some [u] := by exact rfl) : TK P o S B k [.own j E s N] := ⟨_, t_sto ho hx hy hs, hb⟩
theorem oSp {α : Type} {F : α → qF} {L : List α} (hs : uG P T = some (false, 1)) (j : Nat) (v : α) (ho : o.op = .store T x y := by exact rfl) (hx : ev (qN S) x = .ref k j := by exact rfl) (hb : uQ B k = some (L.map fun g => SV.d (F g)) := by exact rfl) (hy : ev (qN S) y = .d (F v) := by kernel_rfl) (h2 : (F v).ok1 = true := by kernel_rfl) (h3 : (F v).cells = [F v] := by kernel_rfl) (h1 : j < L.length := by omega) : TK P o S B k ((L.set j v).map fun g => SV.d (F g)) :=
  ⟨_, t_st1 ho hx hy hs h2 h3 (own_len F L j h1) (own_set F L j v), hb⟩
theorem kC {S : Nat → SV} {xs : List Operand} {ats : Array TypeId} {f : FuncId} {ds : List qF} {r : qF} (hf : kF P f ds r) (ho : o.op = .call { callee := .value y, args := xs.toArray, argTypes := ats } := by exact rfl) (hy : ev S y = .d (.val (.func (.func f) #[] #[])) := by kernel_rfl) (hx : xs.map (ev S) = ds.map .d := by kernel_rfl) : vH P o S [] (.d r) := e_cl hf ho hy hx
theorem oCp {ats : Array TypeId} {f : FuncId} {q N : Nat} {S : Nat → SV} (hf : ∀ b, kF P f [.val (.pointer (some ⟨b, q, none⟩))] (.val (.slice (some ⟨b, q, none⟩) N N))) (ho : o.op = .call { callee := .value y, args := #[x], argTypes := ats } := by exact rfl) (hy : ev S y = .d (.val (.func (.func f) #[] #[])) := by kernel_rfl) (hx : ev S x = .ref k q := by exact rfl) (hN : Nat.ble N maxLen = true := by kernel_rfl) : vH P o S [] (.view k q N) :=
  e_clp hf ho hy hx hN
theorem oCo {xs : List Operand} {ats : Array TypeId} {f : FuncId} {ds : List qF} {α : Type} {F : α → qF} {L : List α} {Tt s N : Nat} {S : Nat → SV} (b : Nat) (hf : TakesO P f ds Tt s N (L.map F)) (ho : o.op = .call { callee := .value y, args := xs.toArray, argTypes := ats } := by exact rfl) (hy : ev S y = .d (.val (.func (.func f) #[] #[])) := by kernel_rfl) (hx : xs.map (ev S) = ds.map .d := by kernel_rfl) : NOk P o S b (L.map (fun g => SV.d (F g))) (.own b Tt s N) := n_own b hf ho hy hx (by rw [List.map_map]; rfl)
end
inductive NilL : List qF → List qF → Prop
  | nil : NilL [] []
  | same {d : qF} {l l' : List qF} (h : NilL l l') : NilL (d :: l) (d :: l')
  | cut (t s : Nat) {l l' : List qF} (h : NilL l l') : NilL (.sl t s [] :: l) (.val (.slice none 0 0) :: l')
theorem NilL.rep {ds ds' : List qF} (h : NilL ds ds') {w : World} {D : uW} : ds.length = ds'.length ∧ ∀ (i : Nat) (v : Value) (d : qF), ds[i]? = some d → (∀ d', ds'[i]? = some d' → xJ w D v d') → xJ w D v d := by
  induction h with
  | nil => exact ⟨rfl, fun i v d h => by simp at h⟩
  | same h ih =>
    refine ⟨by simp [ih.1], fun i v d hd hr => ?_⟩
    cases i with
    | zero => exact hr d (by simpa using hd)
    | succ i => exact ih.2 i v d (by simpa using hd) (fun d' hd' => hr d' (by simpa using hd'))
  | cut t s h ih =>
    refine ⟨by simp [ih.1], fun i v d hd hr => ?_⟩
    cases i with
    | zero =>
      have e := hr (.val (.slice none 0 0)) (by simp)
      simp only [List.getElem?_cons_zero, Option.some.injEq] at hd
      subst hd
      exact nil_sl t s w D (fun _ => none) v e
    | succ i => exact ih.2 i v d (by simpa using hd) (fun d' hd' => hr d' (by simpa using hd'))
theorem clr_none {k j : Nat} {bs : BS} (h : Clr k bs) : Clr k ((j, none) :: bs) := fun i c hi hb => by
  rw [qG] at hb
  split at hb
  · cases hb
  · exact h i c hi hb
section
variable {P : Program} {n : Fr} {ops : Array Oper} {K : SL → BS → Prop} {S : SL} {B : BS} {l : List Oper} {o : Oper} {α : Type} {T E t' : TypeId} {x y : Operand} {k s m bytes : Nat} {zv : List Value}
theorem app_go (F : α → qF) {L L' : List α} {m2 : Nat} (hF : ∀ g, (F g).cells.length = s) (ho : o.op = .call { callee := .builtin .append, args := #[x, y], argTypes := #[T, T] }) (g : goK n ops S o = true) (hT : vX P T = some (E, s)) (hz : xH P E = some zv) (hzl : zv.length = s) (hby : nO P E = some bytes)
    (hx : ev (qN S) x = .own k E s m) (hb : uQ B k = some (aF F L)) (hL : L.length = m) (hy : ev (qN S) y = .d (.sl t' s (L'.map F))) (hbig : m + L'.length ≤ maxLen) (hbig' : (m + L'.length) * bytes ≤ 140737488355328) (hB : Clr k B) (hm : m + L'.length = m2)
    (r : SK P n ops K ((dO o, .own k E s m2) :: nT k S) ((k, some (aF F (L ++ L'))) :: B) l) : SK P n ops K S B (o :: l) := by
  obtain ⟨hd, hg, hdB⟩ := mT g
  refine zX (S1 := (dO o, .own k E s m2) :: nT k S) (B1 := (k, some (aF F (L ++ L'))) :: B) (fun C a w Q hn hs => ?_) hg r
  subst hm
  have := app_sound (st := ⟨S, B⟩) (N := n) (es := L.map F) (es' := L'.map F) ho (by rw [hd]; exact hdB) hT hz hzl hby hx hb rfl (by rw [aV F hF, hL]) hy (by simpa using hbig) (by simpa using hbig') hB C a w Q hn hs
  rw [hd, ← List.map_append, List.length_map] at this
  exact this
theorem zA (F : α → qF) (L L' : List α) (hL : L.length = m) (hT : vX P T = some (E, 1)) (hz : xH P E = some zv) (hby : nO P E = some bytes) (r : SK P n ops K ((dO o, .own k E 1 (L ++ L').length) :: nT k S) ((k, some ((L ++ L').map (fun g => SV.d (F g)))) :: B) l)
    (ho : o.op = .call { callee := .builtin .append, args := #[x, y], argTypes := #[T, T] } := by exact rfl) (g : goK n ops S o = true := by kernel_rfl) (hx : ev (qN S) x = .own k E 1 m := by exact rfl) (hb : uQ B k = some (L.map (fun g => SV.d (F g))) := by kernel_rfl) (hy : ev (qN S) y = .d (.sl t' 1 (L'.map F)) := by exact rfl) (hF : ∀ g, (F g).cells = [F g] := by intro g; kernel_rfl) (hzl : zv.length = 1 := by kernel_rfl)
    (hbig : m + L'.length ≤ maxLen := by first | (simp only [List.length_cons, List.length_nil, maxLen]; omega) | (simp [maxLen]; omega)) (hbig' : (m + L'.length) * bytes ≤ 140737488355328 := by first | omega | (simp only [List.length_cons, List.length_nil]; omega) | (simp; omega))
    (hB : Clr k B := by repeat first | exact clr_nil _ | refine clr_self ?_ | refine clr_map ?_ | refine clr_none ?_ | refine clr_bx ?_ | refine clr_d ?_) : SK P n ops K S B (o :: l) :=
  app_go F (s := 1) (m2 := (L ++ L').length) (fun g => by rw [hF g]; rfl) ho g hT hz hzl hby hx (by rw [bxs_one F hF]; exact hb) hL hy hbig hbig' hB (by rw [List.length_append, hL]) (by rw [bxs_one F hF]; exact r)
theorem zAS (F : α → qF) (L L' : List α) (hL : L.length = m) (hT : vX P T = some (E, s)) (hz : xH P E = some zv) (hby : nO P E = some bytes) (r : SK P n ops K ((dO o, .own k E s (L ++ L').length) :: nT k S) ((k, some (aF F (L ++ L'))) :: B) l)
    (ho : o.op = .call { callee := .builtin .append, args := #[x, y], argTypes := #[T, T] } := by exact rfl) (g : goK n ops S o = true := by kernel_rfl) (hx : ev (qN S) x = .own k E s m := by exact rfl) (hb : uQ B k = some (aF F L) := by kernel_rfl) (hy : ev (qN S) y = .d (.sl t' s (L'.map F)) := by exact rfl) (hF : ∀ g, (F g).cells.length = s := by intro g; kernel_rfl) (hzl : zv.length = s := by kernel_rfl)
    (hbig : m + L'.length ≤ maxLen := by first | (simp only [List.length_cons, List.length_nil, maxLen]; omega) | (simp [maxLen]; omega)) (hbig' : (m + L'.length) * bytes ≤ 140737488355328 := by first | omega | (simp only [List.length_cons, List.length_nil]; omega) | (simp; omega))
    (hB : Clr k B := by repeat first | exact clr_nil _ | refine clr_self ?_ | refine clr_map ?_ | refine clr_none ?_ | refine clr_bx ?_ | refine clr_d ?_) : SK P n ops K S B (o :: l) :=
  app_go F (m2 := (L ++ L').length) hF ho g hT hz hzl hby hx hb hL hy hbig hbig' hB (by rw [List.length_append, hL]) r
theorem zAQ (F : α → qF) (L L' : List α) (hL : L.length = m) (hT : vX P T = some (E, 1)) (hz : xH P E = some zv) (hby : nO P E = some bytes) (r : SK P n ops K ((dO o, .d (.sl E 1 ((L ++ L').map F))) :: nT k S) ((k, none) :: B) l)
    (ho : o.op = .call { callee := .builtin .append, args := #[x, y], argTypes := #[T, T] } := by exact rfl) (g : goK n ops S o = true := by kernel_rfl) (hx : ev (qN S) x = .own k E 1 m := by exact rfl) (hb : uQ B k = some (L.map (fun g => SV.d (F g))) := by kernel_rfl) (hy : ev (qN S) y = .d (.sl t' 1 (L'.map F)) := by exact rfl) (hF : ∀ g, (F g).cells = [F g] := by intro g; kernel_rfl) (hzl : zv.length = 1 := by kernel_rfl)
    (hbig : m + L'.length ≤ maxLen := by first | (simp only [List.length_cons, List.length_nil, maxLen]; omega) | (simp [maxLen]; omega)) (hbig' : (m + L'.length) * bytes ≤ 140737488355328 := by first | omega | (simp only [List.length_cons, List.length_nil]; omega) | (simp; omega))
    (hB : Clr k B := by repeat first | exact clr_nil _ | refine clr_self ?_ | refine clr_map ?_ | refine clr_none ?_ | refine clr_bx ?_ | refine clr_d ?_) : SK P n ops K S B (o :: l) := by
  obtain ⟨hd, hg, hdB⟩ := mT g
  exact zX (appP_sem F L L' (fun g => by rw [hF g]; rfl) ho hd hdB hT hz hzl hby hx (by rw [bxs_one F hF]; exact hb) hL hy hbig hbig' hB) hg r
theorem zO (k E s : Nat) (r : SK P n ops K ((dO o, .own k E s 0) :: S) ((k, some []) :: B) l) (h : nilK o = true := by kernel_rfl) (g : goK n ops S o = true := by kernel_rfl) (hf : hZ k ⟨S, B⟩ = true := by kernel_rfl) : SK P n ops K S B (o :: l) := by
  obtain ⟨hd, hg, hdB⟩ := mT g
  exact zX (nilOwn_sem k E s ((nilK_eq h).elim .inr .inl) hd hdB hf) hg r
end
section
variable {P : Program} {n : Fr} {Q : Exit → PS → Prop} {st : PS} {c : Operand} {x y : Code}
theorem kD (h1 : uK P n x Q st) (hc : ev (qN st.sl) c = .d (.val (.bool true)) := by kernel_rfl) : uK P n (.cond c x y) Q st := jQ (b := true) hc (fun _ => h1) (fun h => by cases h)
theorem kO (h2 : uK P n y Q st) (hc : ev (qN st.sl) c = .d (.val (.bool false)) := by kernel_rfl) : uK P n (.cond c x y) Q st := jQ (b := false) hc (fun h => by cases h) (fun _ => h2)
end
end Go.Fid
namespace Go.Proofs.YtbecgnplakngdaaGreat
open Go.Fid
set_option maxRecDepth 4000
set_option linter.unusedVariables false
set_option linter.unusedSimpArgs false
theorem nP : nO Tryz.prog 152 = some 4 := by kernel_rfl
theorem cb179 : callB Tryz.prog 179 = true := by kernel_rfl
theorem cb193 : callB Tryz.prog 193 = true := by kernel_rfl
theorem cb194 : callB Tryz.prog 194 = true := by kernel_rfl
theorem cb206 : callB Tryz.prog 206 = true := by kernel_rfl
theorem cb213 : callB Tryz.prog 213 = true := by kernel_rfl
theorem kV : vX Tryz.prog 38 = some (152, 1) := by kernel_rfl
theorem hH : intB Tryz.prog 152 = some .u32 := by kernel_rfl
theorem gC : intB Tryz.prog 154 = some .u64 := by kernel_rfl
theorem uR : uG Tryz.prog 152 = some (false, 1) := by kernel_rfl
theorem gG : (Tryz.prog.underlying 152).isSome = true := by kernel_rfl
theorem nD : (Tryz.prog.underlying 154).isSome = true := by kernel_rfl
theorem xR : xH Tryz.prog 152 = some [.int .u32 0] := by kernel_rfl
theorem gI : mP [.int .u32 0] [.val (.int .u32 0)] := by simp [mP, Value.oneCell']
theorem t_at (l : List Nat) (i : Nat) : kF Tryz.prog 213 [(.sl 152 1 (List.map jB l)), (.val (.int .i64 (((i : Nat) : Int))))] (.val (.int .u32 ((((l.getD i 0) : Nat) : Int)))) := by
 refine jL Tryz.func213 rfl cb213 rfl ?_
 show uK _ _ _ _ ⟨[(0, (vl 152 1 jB l)), (1, (kE i))], []⟩
 refine jA <| kx [] [] (zM <| zZ) ?_
 refine jA <| jA <| kx [(8, (vb (decide (((i : Nat) : Int) < ((l.length : Nat) : Int)))))] [] (zM <| zM <| zE (nC kV) <| zE qS <| zZ) ?_
 refine jQ rfl (fun h1 => ?_) (fun h1 => ?_)
 ·replace h1 := of_decide_eq_true h1
  refine jA <| kx [(4, (aG (l.getD i 0)))] [] (zM <| zM <| zE (eK kV i (0 : Nat)) <| zE (yL uR) <| zM <| zZ) ?_
  refine jG ⟨_, (.tmp (d := (.val (.int .u32 ((((l.getD i 0) : Nat) : Int))))) rfl .nil), ?_⟩
  rfl
 ·replace h1 := of_decide_eq_false h1
  refine jD <| jA <| kx [(4, (aG 0))] [] (zM <| zZ) ?_
  refine jG ⟨_, (.tmp (d := (.val (.int .u32 (0)))) rfl .nil), ?_⟩
  rw [show l.getD i 0 = 0 from getD_out (by omega)]; rfl
theorem t_trim (l0 : List Nat) (hd : Dig l0) (hb : l0.length ≤ 17592186044416) : kF Tryz.prog 206 [(.sl 152 1 (List.map jB l0))] (.sl 152 1 (List.map jB (ofNat (val l0)))) := by
 refine jL Tryz.func206 rfl cb206 rfl ?_
 show uK _ _ _ _ ⟨[(0, (vl 152 1 jB l0))], []⟩
 refine jA <| kx [] [] (zE (oNl 152 1) <| zZ) ?_
 refine jA <| jE <| uB (α := List Nat) (fun l => ⟨[(0, (vl 152 1 jB l))], []⟩) (fun l => Dig l ∧ val l = val l0 ∧ l.length ≤ l0.length) (fun l => l.length) l0 wk ⟨hd, rfl, Nat.le_refl _⟩ ?_
 rintro l ⟨hl, hv, hle⟩
 refine jA <| jA <| kx [(14, (vb (decide (0 < ((l.length : Nat) : Int)) && ((((l.getD (l.length - 1) 0) : Nat) : Int) == 0))))] [] ?_ ?_
 ·refine zM <| zE (nC kV) <| zE bO <| zE (oV (vb (decide (0 < ((l.length : Nat) : Int)))) (xD (by kernel_rfl))) <| ?_
  rcases hb1 : (decide (0 < ((l.length : Nat) : Int))) with _ | _
  ·replace hb1 := of_decide_eq_false hb1
   exact zK <| zK <| zK <| zK <| zK <| zK <| zK <| zE fC <| zZ
  ·replace hb1 := of_decide_eq_true hb1
   exact zM <| zM <| zE (nC kV) <| zE (oSb (l.length - 1)) <| zE (eK kV (l.length - 1) (0 : Nat)) <| zE (yL uR) <| zE aL <| zE oPa <| zZ
 refine jQ rfl (fun h2 => ?_) (fun h2 => ?_)
 ·obtain ⟨hp, _⟩ := trim_cond h2
  refine jD <| jE <| kx [(0, (vl 152 1 jB (List.take (l.length - 1) l)))] [] (zM <| zM <| zE (nC kV) <| zE (oSb (l.length - 1)) <| zE (e_slc (l := 0) (h := (l.length - 1)) (kl := .i64) (kh := .i64) (es' := List.map jB (List.take (l.length - 1) l)) (by exact rfl) kV (by exact rfl) (by exact rfl) (by exact rfl) (Nat.zero_le _) (by simp only [List.length_map]; omega) (by rw [List.drop_zero, List.map_take])) <| zM <| zZ) ?_
  exact ⟨(l.take (l.length - 1)), wk, (trim_step hl hv hle h2), (trim_less h2)⟩
 ·refine kQ <| jA <| kx [(2, (vl 152 1 jB l))] [] (zM <| zM <| zZ) ?_
  refine jG ⟨_, (.tmp (d := (.sl 152 1 (List.map jB l))) rfl .nil), ?_⟩
  rw [trim_end hl hv h2]; rfl
theorem t_plus (a b : List Nat) (hda : Dig a) (hdb : Dig b) (hla : a.length ≤ 8796093022208) (hlb : b.length ≤ 8796093022208) : kF Tryz.prog 193 [(.sl 152 1 (List.map jB a)), (.sl 152 1 (List.map jB b))] (.sl 152 1 (List.map jB (ofNat (val a + val b)))) := by
 refine jL Tryz.func193 rfl cb193 rfl ?_
 show uK _ _ _ _ ⟨[(0, (vl 152 1 jB a)), (1, (vl 152 1 jB b))], []⟩
 refine jA <| kx [] [] (zE (oNl 152 1) <| zZ) ?_
 refine jA <| kx [(5, (.own 0 152 1 ((max a.length b.length) + 1)))] [(0, some (bm jB (List.replicate ((max a.length b.length) + 1) 0)))] (zM <| zE (nC kV) <| zM <| zE (nC kV) <| zE (oMx (max a.length b.length)) <| zE (qQ ((max a.length b.length) + 1)) <| zN (oMk 0 jB (0 : Nat) ((max a.length b.length) + 1) ((max a.length b.length) + 1) kV xR gI nP) <| zM <| zZ) ?_
 refine jA <| kx [(6, (aG 0))] [] (zM <| zZ) ?_
 refine jA <| jA <| kx [(17, (kE ((max a.length b.length) + 1))), (18, (kE 0))] [] (zM <| zE (oLo kV) <| zM <| zZ) ?_
 refine jE <| uB (α := Nat × List Nat × Nat) (fun (i, out, c) => ⟨[(0, (vl 152 1 jB a)), (1, (vl 152 1 jB b)), (5, (.own 0 152 1 ((max a.length b.length) + 1))), (6, (aG c)), (17, (kE ((max a.length b.length) + 1))), (18, (kE i))], [(0, some (bm jB out))]⟩) (fun (i, out, c) => out.length = max a.length b.length + 1 ∧ Dig out ∧ i ≤ max a.length b.length + 1 ∧ c ≤ 1 ∧ val (out.take i) + pw i * c = val (a.take i) + val (b.take i)) (fun (i, out, c) => max a.length b.length + 1 - i) (0, List.replicate (max a.length b.length + 1) 0, 0) wk ⟨by simp, yJ _, Nat.zero_le _, Nat.zero_le _, by simp [val]⟩ ?_
 rintro ⟨i, out, c⟩ ⟨vD, hdo, hi, hc, hv⟩
 have hai := hda.getD i
 have hbi := hdb.getD i
 refine jA <| kx [(19, (vb (decide (((i : Nat) : Int) < ((((max a.length b.length) + 1) : Nat) : Int)))))] [] (zE qS <| zZ) ?_
 refine jA <| jQ rfl (fun h1 => ?_) (fun h1 => ?_)
 ·replace h1 := of_decide_eq_true h1
  refine jD <| jA <| jE <| jA <| kx [(7, (kE i))] [] (zM <| zM <| zZ) ?_
  refine jA <| kx [(8, (aG (((a.getD i 0) + (b.getD i 0)) + c)))] [] (zM <| zM <| zE (kC (t_at a i)) <| zM <| zM <| zE (kC (t_at b i)) <| zE (qQ ((a.getD i 0) + (b.getD i 0))) <| zM <| zE (qQ (((a.getD i 0) + (b.getD i 0)) + c)) <| zM <| zZ) ?_
  refine jA <| kx [(6, (aG 0))] [] (zM <| zZ) ?_
  refine jA <| jA <| kx [(31, (vb (decide (1000000000 ≤ (((((a.getD i 0) + (b.getD i 0)) + c) : Nat) : Int)))))] [] (zM <| zE oGe <| zZ) ?_
  refine jQ rfl (fun h2 => ?_) (fun h2 => ?_)
  ·replace h2 := of_decide_eq_true h2
   refine kx [(6, (aG 1)), (8, (aG ((((a.getD i 0) + (b.getD i 0)) + c) - 1000000000)))] [] (zM <| zE (oSb ((((a.getD i 0) + (b.getD i 0)) + c) - 1000000000)) <| zM <| zM <| zZ) ?_
   refine kx [] [(0, some (bm jB (out.set i ((((a.getD i 0) + (b.getD i 0)) + c) - 1000000000))))] (zM <| zM <| zM <| zE (oXo kV i) <| zT (oSp uR i ((((a.getD i 0) + (b.getD i 0)) + c) - 1000000000)) <| zZ) ?_
   refine kx [(18, (kE (i + 1)))] [] (zE (qQ (i + 1)) <| zM <| zZ) ?_
   exact ⟨(i + 1, out.set i (a.getD i 0 + b.getD i 0 + c - 1000000000), 1), wk, (by obtain ⟨q1, q2, q3⟩ := plus_step (s := a.getD i 0 + b.getD i 0 + c - 1000000000) (c' := 1) vD hdo (by omega) hv (by omega) (by omega); exact ⟨q1, q2, by omega, by omega, q3⟩), (by first | omega | (dsimp only; omega))⟩
  ·replace h2 := of_decide_eq_false h2
   refine jD <| kx [] [(0, some (bm jB (out.set i (((a.getD i 0) + (b.getD i 0)) + c))))] (zM <| zM <| zM <| zE (oXo kV i) <| zT (oSp uR i (((a.getD i 0) + (b.getD i 0)) + c)) <| zZ) ?_
   refine kx [(18, (kE (i + 1)))] [] (zE (qQ (i + 1)) <| zM <| zZ) ?_
   exact ⟨(i + 1, out.set i (a.getD i 0 + b.getD i 0 + c), 0), wk, (by obtain ⟨q1, q2, q3⟩ := plus_step (s := a.getD i 0 + b.getD i 0 + c) (c' := 0) vD hdo (by omega) hv (by omega) (by omega); exact ⟨q1, q2, by omega, by omega, q3⟩), (by first | omega | (dsimp only; omega))⟩
 ·replace h1 := of_decide_eq_false h1
  have hie : i = max a.length b.length + 1 := by omega
  rw [hie] at hv
  refine kQ <| jA <| kX (xY (t := 5) (k := 0) (es := List.map jB out) rfl rfl (xV _ _ (fun _ => rfl)) (xU _ _ vD) (yE _ _ (fun _ => rfl) vD)) ?_
  refine kx [(4, (vl 152 1 jB (ofNat (val out))))] [] (zM <| zE (kC (t_trim out (by assumption) (by omega))) <| zM <| zZ) ?_
  refine jG ⟨_, (.tmp (d := (.sl 152 1 (List.map jB (ofNat (val out))))) rfl .nil), ?_⟩
  rw [plus_end hda hdb vD hv]; rfl
theorem t_minus (a b : List Nat) (hda : Dig a) (hdb : Dig b) (hba : val b ≤ val a) (hla : a.length ≤ 8796093022208) : kF Tryz.prog 194 [(.sl 152 1 (List.map jB a)), (.sl 152 1 (List.map jB b))] (.sl 152 1 (List.map jB (ofNat (val a - val b)))) := by
 refine jL Tryz.func194 rfl cb194 rfl ?_
 show uK _ _ _ _ ⟨[(0, (vl 152 1 jB a)), (1, (vl 152 1 jB b))], []⟩
 refine jA <| kx [] [] (zE (oNl 152 1) <| zZ) ?_
 refine jA <| kx [(5, (.own 0 152 1 a.length))] [(0, some (bm jB (List.replicate a.length 0)))] (zM <| zE (nC kV) <| zN (oMk 0 jB (0 : Nat) a.length a.length kV xR gI nP) <| zM <| zZ) ?_
 refine jA <| kx [(6, (aG 0))] [] (zM <| zZ) ?_
 refine jA <| jA <| kx [(13, (kE a.length)), (14, (kE 0))] [] (zM <| zE (oLo kV) <| zM <| zZ) ?_
 refine jE <| uB (α := Nat × List Nat × Nat) (fun (i, out, c) => ⟨[(0, (vl 152 1 jB a)), (1, (vl 152 1 jB b)), (5, (.own 0 152 1 a.length)), (6, (aG c)), (13, (kE a.length)), (14, (kE i))], [(0, some (bm jB out))]⟩) (fun (i, out, c) => out.length = a.length ∧ Dig out ∧ i ≤ a.length ∧ c ≤ 1 ∧ val (out.take i) + val (b.take i) = val (a.take i) + pw i * c) (fun (i, out, c) => a.length - i) (0, List.replicate a.length 0, 0) wk ⟨by simp, yJ _, Nat.zero_le _, Nat.zero_le _, by simp [val]⟩ ?_
 rintro ⟨i, out, c⟩ ⟨vD, hdo, hi, hc, hv⟩
 have hai := hda.getD i
 have hbi := hdb.getD i
 refine jA <| kx [(15, (vb (decide (((i : Nat) : Int) < ((a.length : Nat) : Int)))))] [] (zE qS <| zZ) ?_
 refine jA <| jQ rfl (fun h1 => ?_) (fun h1 => ?_)
 ·replace h1 := of_decide_eq_true h1
  refine jD <| jA <| jE <| jA <| kx [(7, (kE i))] [] (zM <| zM <| zZ) ?_
  refine jA <| kx [(8, (aG ((b.getD i 0) + c)))] [] (zM <| zM <| zE (kC (t_at b i)) <| zM <| zE (qQ ((b.getD i 0) + c)) <| zM <| zZ) ?_
  refine jA <| kx [(6, (aG 0))] [] (zM <| zZ) ?_
  refine jA <| kx [(27, (vb (decide ((((a.getD i 0) : Nat) : Int) < ((((b.getD i 0) + c) : Nat) : Int)))))] [] (zM <| zM <| zE (eK kV i (0 : Nat)) <| zE (yL uR) <| zM <| zE qS <| zZ) ?_
  refine jQ rfl (fun h2 => ?_) (fun h2 => ?_)
  ·replace h2 := of_decide_eq_true h2
   refine kx [(6, (aG 1))] [(0, some (bm jB (out.set i (((a.getD i 0) + 1000000000) - ((b.getD i 0) + c)))))] (zM <| zM <| zM <| zM <| zE (eK kV i (0 : Nat)) <| zE (yL uR) <| zE (qQ ((a.getD i 0) + 1000000000)) <| zM <| zE (oSb (((a.getD i 0) + 1000000000) - ((b.getD i 0) + c))) <| zE (oXo kV i) <| zT (oSp uR i (((a.getD i 0) + 1000000000) - ((b.getD i 0) + c))) <| zM <| zZ) ?_
   refine kx [(14, (kE (i + 1)))] [] (zE (qQ (i + 1)) <| zM <| zZ) ?_
   exact ⟨(i + 1, out.set i (a.getD i 0 + 1000000000 - (b.getD i 0 + c)), 1), wk, (by obtain ⟨q1, q2, q3⟩ := minus_step (s := a.getD i 0 + 1000000000 - (b.getD i 0 + c)) (c' := 1) vD hdo (by omega) hv (by omega) (by omega); exact ⟨q1, q2, by omega, by omega, q3⟩), (by first | omega | (dsimp only; omega))⟩
  ·replace h2 := of_decide_eq_false h2
   refine kx [] [(0, some (bm jB (out.set i ((a.getD i 0) - ((b.getD i 0) + c)))))] (zM <| zM <| zM <| zM <| zE (eK kV i (0 : Nat)) <| zE (yL uR) <| zM <| zE (oSb ((a.getD i 0) - ((b.getD i 0) + c))) <| zE (oXo kV i) <| zT (oSp uR i ((a.getD i 0) - ((b.getD i 0) + c))) <| zZ) ?_
   refine kx [(14, (kE (i + 1)))] [] (zE (qQ (i + 1)) <| zM <| zZ) ?_
   exact ⟨(i + 1, out.set i (a.getD i 0 - (b.getD i 0 + c)), 0), wk, (by obtain ⟨q1, q2, q3⟩ := minus_step (s := a.getD i 0 - (b.getD i 0 + c)) (c' := 0) vD hdo (by omega) hv (by omega) (by omega); exact ⟨q1, q2, by omega, by omega, q3⟩), (by first | omega | (dsimp only; omega))⟩
 ·replace h1 := of_decide_eq_false h1
  have hie : i = a.length := by omega
  rw [hie] at hv
  refine kQ <| jA <| kX (xY (t := 5) (k := 0) (es := List.map jB out) rfl rfl (xV _ _ (fun _ => rfl)) (xU _ _ vD) (yE _ _ (fun _ => rfl) vD)) ?_
  refine kx [(4, (vl 152 1 jB (ofNat (val out))))] [] (zM <| zE (kC (t_trim out (by assumption) (by omega))) <| zM <| zZ) ?_
  refine jG ⟨_, (.tmp (d := (.sl 152 1 (List.map jB (ofNat (val out))))) rfl .nil), ?_⟩
  rw [minus_end hda hdb hdo hba vD hv]; rfl
theorem t_times (a b : List Nat) (hda : Dig a) (hdb : Dig b) (hla : a.length ≤ 4398046511104) (hlb : b.length ≤ 4398046511104) : kF Tryz.prog 179 [(.sl 152 1 (List.map jB a)), (.sl 152 1 (List.map jB b))] (.sl 152 1 (List.map jB (ofNat (val a * val b)))) := by
 refine jL Tryz.func179 rfl cb179 rfl ?_
 show uK _ _ _ _ ⟨[(0, (vl 152 1 jB a)), (1, (vl 152 1 jB b))], []⟩
 refine jA <| kx [] [] (zE (oNl 152 1) <| zZ) ?_
 refine jA <| kx [(5, (.own 0 152 1 (a.length + b.length)))] [(0, some (bm jB (List.replicate (a.length + b.length) 0)))] (zM <| zE (nC kV) <| zM <| zE (nC kV) <| zE (qQ (a.length + b.length)) <| zN (oMk 0 jB (0 : Nat) (a.length + b.length) (a.length + b.length) kV xR gI nP) <| zM <| zZ) ?_
 refine jA <| jA <| kx [(18, (vl 152 1 jB a)), (19, (kE a.length)), (20, (kE 0))] [] (zM <| zE (nC kV) <| zM <| zZ) ?_
 refine jE <| uB (α := Nat × List Nat) (fun (i, out) => ⟨[(1, (vl 152 1 jB b)), (5, (.own 0 152 1 (a.length + b.length))), (18, (vl 152 1 jB a)), (19, (kE a.length)), (20, (kE i))], [(0, some (bm jB out))]⟩) (fun (i, out) => out.length = a.length + b.length ∧ Dig out ∧ i ≤ a.length ∧ (∀ k, i + b.length ≤ k → out.getD k 0 = 0) ∧ val out = val (a.take i) * val b) (fun (i, out) => a.length - i) (0, List.replicate (a.length + b.length) 0) wk ⟨by simp, yJ _, Nat.zero_le _, fun k _ => aC _ k, by simp [val, dY]⟩ ?_
 rintro ⟨i, out⟩ ⟨vD, hdo, hi, hz, hv⟩
 have hai := hda.getD i
 refine jA <| kx [(21, (vb (decide (((i : Nat) : Int) < ((a.length : Nat) : Int)))))] [] (zE qS <| zZ) ?_
 refine jA <| jQ rfl (fun h1 => ?_) (fun h1 => ?_)
 ·replace h1 := of_decide_eq_true h1
  refine jD <| jA <| jE <| jA <| kx [(6, (kE i)), (7, (aG (a.getD i 0)))] [] (zM <| zE (eK kV i (0 : Nat)) <| zE (yL uR) <| zM <| zM <| zZ) ?_
  refine jA <| kx [(8, (gQ 0))] [] (zM <| zZ) ?_
  refine jA <| jA <| kx [(25, (vl 152 1 jB b)), (26, (kE b.length)), (27, (kE 0))] [] (zM <| zE (nC kV) <| zM <| zZ) ?_
  refine jE <| uB (α := Nat × List Nat × Nat) (fun (j, o2, c) => ⟨[(1, (vl 152 1 jB b)), (5, (.own 0 152 1 (a.length + b.length))), (6, (kE i)), (7, (aG (a.getD i 0))), (8, (gQ c)), (18, (vl 152 1 jB a)), (19, (kE a.length)), (20, (kE i)), (25, (vl 152 1 jB b)), (26, (kE b.length)), (27, (kE j))], [(0, some (bm jB o2))]⟩) (fun (j, o2, c) => o2.length = a.length + b.length ∧ Dig o2 ∧ j ≤ b.length ∧ c < 1000000000 ∧ (∀ k, i + b.length ≤ k → o2.getD k 0 = 0) ∧ val o2 + pw (i + j) * c = val (a.take i) * val b + pw i * (a.getD i 0 * val (b.take j))) (fun (j, o2, c) => b.length - j) (0, out, 0) wk ⟨vD, hdo, Nat.zero_le _, by decide, hz, by simp [val, hv]⟩ ?_
  rintro ⟨j, o2, c⟩ ⟨hlen2, hdo2, hj, hc, hz2, hv2⟩
  have hbj := hdb.getD j
  have hoj := hdo2.getD (i + j)
  have hpq : a.getD i 0 * b.getD j 0 ≤ 999999999 * 999999999 := Nat.mul_le_mul (by omega) (by omega)
  refine jA <| kx [(28, (vb (decide (((j : Nat) : Int) < ((b.length : Nat) : Int)))))] [] (zE qS <| zZ) ?_
  refine jA <| jQ rfl (fun h2 => ?_) (fun h2 => ?_)
  ·replace h2 := of_decide_eq_true h2
   refine jD <| jA <| jE <| jA <| kx [(9, (kE j)), (10, (aG (b.getD j 0)))] [] (zM <| zE (eK kV j (0 : Nat)) <| zE (yL uR) <| zM <| zM <| zZ) ?_
   refine jA <| kx [(11, (gQ (((o2.getD (i + j) 0) + ((a.getD i 0) * (b.getD j 0))) + c)))] [] (zM <| zM <| zM <| zE (qQ (i + j)) <| zE (oXo kV (i + j)) <| zR (oLp uR (i + j) (0 : Nat)) <| zE (mW gG gC (o2.getD (i + j) 0)) <| zM <| zE (mW gG gC (a.getD i 0)) <| zM <| zE (mW gG gC (b.getD j 0)) <| zE (oMl ((a.getD i 0) * (b.getD j 0))) <| zE (qQ ((o2.getD (i + j) 0) + ((a.getD i 0) * (b.getD j 0)))) <| zM <| zE (qQ (((o2.getD (i + j) 0) + ((a.getD i 0) * (b.getD j 0))) + c)) <| zM <| zZ) ?_
   refine kx [(8, (gQ ((((o2.getD (i + j) 0) + ((a.getD i 0) * (b.getD j 0))) + c) / 1000000000)))] [(0, some (bm jB (o2.set (i + j) ((((o2.getD (i + j) 0) + ((a.getD i 0) * (b.getD j 0))) + c) % 1000000000))))] (zM <| zM <| zM <| zE (qQ (i + j)) <| zM <| zE (aI ((((o2.getD (i + j) 0) + ((a.getD i 0) * (b.getD j 0))) + c) % 1000000000)) <| zE (mW nD hH ((((o2.getD (i + j) 0) + ((a.getD i 0) * (b.getD j 0))) + c) % 1000000000)) <| zM <| zE (oQu ((((o2.getD (i + j) 0) + ((a.getD i 0) * (b.getD j 0))) + c) / 1000000000)) <| zE (oXo kV (i + j)) <| zT (oSp uR (i + j) ((((o2.getD (i + j) 0) + ((a.getD i 0) * (b.getD j 0))) + c) % 1000000000)) <| zM <| zZ) ?_
   refine kx [(27, (kE (j + 1)))] [] (zE (qQ (j + 1)) <| zM <| zZ) ?_
   exact ⟨(j + 1, o2.set (i + j) ((o2.getD (i + j) 0 + a.getD i 0 * b.getD j 0 + c) % 1000000000), (o2.getD (i + j) 0 + a.getD i 0 * b.getD j 0 + c) / 1000000000), wk, (by obtain ⟨q1, q2⟩ := times_step (by omega) hdo2 hv2 rfl (val_take_succ b j); exact ⟨by simpa using hlen2, q1, by omega, by omega, zero_set (by omega) hz2, q2⟩), (by first | omega | (dsimp only; omega))⟩
  ·replace h2 := of_decide_eq_false h2
   have hje : j = b.length := by omega
   rw [hje] at hv2
   refine kQ <| kx [] [(0, some (bm jB (o2.set (i + b.length) c)))] (zM <| zM <| zM <| zE (nC kV) <| zE (qQ (i + b.length)) <| zM <| zE (mW nD hH c) <| zE (oXo kV (i + b.length)) <| zT (oSp uR (i + b.length) c) <| zZ) ?_
   refine kx [(20, (kE (i + 1)))] [] (zE (qQ (i + 1)) <| zM <| zZ) ?_
   exact ⟨(i + 1, o2.set (i + b.length) c), wk, (by obtain ⟨q1, q2, q3, q4⟩ := times_row hdo2 (by omega) hlen2 hz2 hc hv2; exact ⟨q1, q2, by omega, q3, q4⟩), (by first | omega | (dsimp only; omega))⟩
 ·replace h1 := of_decide_eq_false h1
  have hie : i = a.length := by omega
  rw [hie, List.take_length] at hv
  refine kQ <| jA <| kX (xY (t := 5) (k := 0) (es := List.map jB out) rfl rfl (xV _ _ (fun _ => rfl)) (xU _ _ vD) (yE _ _ (fun _ => rfl) vD)) ?_
  refine kx [(4, (vl 152 1 jB (ofNat (val out))))] [] (zM <| zE (kC (t_trim out (by assumption) (by omega))) <| zM <| zZ) ?_
  refine jG ⟨_, (.tmp (d := (.sl 152 1 (List.map jB (ofNat (val out))))) rfl .nil), ?_⟩
  rw [hv]; rfl
end Go.Proofs.YtbecgnplakngdaaGreat
namespace Go.Proofs.YtbecgnplakngdaaGreat
open Go.RowKit Go.Shelf
attribute [local go_sem] Oper.semAt_some
set_option maxRecDepth 100000 in
set_option maxHeartbeats 2000000 in
theorem back1 (N l Bs b off len cap : Nat) (u : Nat → Value) (vD : (len : Int) ≤ 9223372036854775807) (J : Nat → World → Prop) (Jx : World → Prop)
    (hc : ∀ j W, J j W → W.cell? ⟨Bs, 0, none⟩ = some (.slice (some ⟨b, off, none⟩) len cap) ∧ ∀ i, i < len → W.cell? ⟨b, off + i, none⟩ = some (u i))
    (hY : ∀ j W, J j W → j < len → YieldAt Fence.wide N Tryz.prog l #[.int .i64 ((len : Int) - 1 - (j : Int)), u (len - 1 - j)] W fun e W' =>
      (e = .returned (.bool true) ∧ J (j + 1) W') ∨ (e = .returned (.bool false) ∧ Jx W'))
    (W : World) (h0 : J 0 W) :
    CallsIn Fence.wide (N + 1) Tryz.prog 203 #[.func (.yield l) #[] #[], .pointer (some ⟨Bs, 0, none⟩)] W fun e W' => (∃ v, e = .returned v) ∧ (J len W' ∨ Jx W') := by
  refine callsIn_of_wp Tryz.func203 rfl trivial ?_ rfl
  simp only [Tryz.ntmps203, List.size_toArray, List.length_cons, List.length_nil, Nat.reduceAdd, Nat.reduceSub, Array.replicate_succ, Array.replicate_zero, List.push_toArray, List.append_toArray, List.nil_append, List.cons_append]
  have hBs := (hc 0 W h0).1
  gi_wp2
  gi_loopw [3] (fun i wr => ∃ j : Nat, j ≤ len ∧ i = .int .i64 ((len : Int) - 1 - (j : Int)) ∧ J j wr)
    (fun i _ => (intOf i + 1).toNat)
  case atStart => exact ⟨0, Nat.zero_le _, by simp, h0⟩
  case round =>
    obtain ⟨j, hk, rfl, hJs⟩ := hrel
    have hBj := (hc j wr hJs).1
    by_cases hlt : j < len
    · have hcj := (hc j wr hJs).2 (len - 1 - j) (by omega)
      obtain ⟨fn, tmps, assign, body, hy, hR⟩ := hY j wr hJs hlt
      gi_wp2
      refine hR.mono ?_
      rintro e W3 (⟨rfl, hJ3⟩ | ⟨rfl, hJx3⟩)
      · gi_wp2
        go_roundw
        case rel => exact ⟨j + 1, by omega, by simp; omega, hJ3⟩
        case measure => simp [intOf]; omega
      · gi_wp2
        refine bodyPost_ret (results_none rfl _ _ _) rfl ?_
        exact ⟨⟨_, rfl⟩, .inr hJx3⟩
    · obtain rfl : j = len := by omega
      gi_wp2
      go_end0
      exact ⟨⟨_, rfl⟩, .inl hJs⟩
set_option maxRecDepth 100000 in
set_option maxHeartbeats 2000000 in
theorem back1_nil (N l Bs cap : Nat) (ao : Option Addr) (J : World → Prop) (W : World) (hBs : W.cell? ⟨Bs, 0, none⟩ = some (.slice ao 0 cap)) (h0 : J W) :
    CallsIn Fence.wide (N + 1) Tryz.prog 203 #[.func (.yield l) #[] #[], .pointer (some ⟨Bs, 0, none⟩)] W fun e W' => (∃ v, e = .returned v) ∧ J W' := by
  refine callsIn_of_wp Tryz.func203 rfl trivial ?_ rfl
  simp only [Tryz.ntmps203, List.size_toArray, List.length_cons, List.length_nil, Nat.reduceAdd, Nat.reduceSub, Array.replicate_succ, Array.replicate_zero, List.push_toArray, List.append_toArray, List.nil_append, List.cons_append]
  gi_wp2
  gi_loopw [3] (fun i wr => i = .int .i64 (-1) ∧ J wr) (fun _ _ => 0)
  case atStart => exact ⟨by simp, h0⟩
  case round =>
    obtain ⟨rfl, hJs⟩ := hrel
    gi_wp2
    go_end0
    exact ⟨⟨_, rfl⟩, hJs⟩
set_option maxHeartbeats 1000000 in
theorem back_in (a : Option Addr) (len cap : Nat) (w : World) :
    Calls Tryz.prog 166 #[.slice a len cap] w fun e w' => e = .returned (.func (.func 203) #[] #[.pointer (some ⟨w.heap.size, 0, none⟩)]) ∧ w' = w.alloc (.cells #[.slice a len cap] 38) := by
  refine (callsIn_wide (n := 1)).1 (callsIn_of_wp Tryz.func166 rfl trivial ?_ rfl)
  simp only [Tryz.ntmps166, List.size_toArray, List.length_cons, List.length_nil, Nat.reduceAdd, Nat.reduceSub, Array.replicate_succ, Array.replicate_zero, List.push_toArray, List.append_toArray, List.nil_append, List.cons_append]
  gi_wp2
  go_ret
  exact ⟨rfl, rfl⟩
theorem backs : Go.Fid.Backs Tryz.prog 166 203 38 := ⟨back_in, back1_nil, fun N l c b off len cap u vD J Jx hc hY W h0 => back1 N l c b off len cap u vD J Jx hc hY W h0, enters_of Tryz.func203 (by kernel_rfl) rfl⟩
end Go.Proofs.YtbecgnplakngdaaGreat
