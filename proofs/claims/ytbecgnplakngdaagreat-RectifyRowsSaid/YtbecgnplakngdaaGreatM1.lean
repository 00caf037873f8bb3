/- Part 1 of a proof: rules, plain facts, and functions walked. -/
import Derived.WalkKit
import Derived.WalkSpells
import Derived.WalkLawsBesides
import Derived.Orders
import Derived.KernelRfl
import Derived.RangeFuncFrom
import Derived.RangeFuncLeaves
import Derived.OrdersIn
import Derived.TacticsIn
namespace Go.Fid
open Go.RowKit (Below)
abbrev uT := TypeId → Nat → Nat → Prop
abbrev vP := Nat → Option Nat
inductive kY where
  | val (v : Value)
  | sl (t : TypeId) (s : Nat) (es : List kY)
  | agg (cs : List kY)
  | tup (vs : List kY)
  | cptr (t : TypeId) (cs : List kY) (off : Nat)
instance : Inhabited kY := ⟨.tup []⟩
def kY.cells : kY → List kY
  | .agg cs => cs
  | d => [d]
def uR (es : List kY) : List kY := es.flatMap kY.cells
theorem dT (e : kY) (es : List kY) : uR (e :: es) = e.cells ++ uR es := by simp [uR]
theorem flat_append (a b : List kY) : uR (a ++ b) = uR a ++ uR b := by simp [uR]
theorem xK {s : Nat} : ∀ {es : List kY}, (∀ e ∈ es, e.cells.length = s) → (uR es).length = es.length * s
  | [], _ => by simp [uR]
  | e :: es, h => by
    rw [dT, List.length_append, h e (by simp), xK (es := es) (fun x hx => h x (by simp [hx])), List.length_cons, Nat.add_mul]
    omega
theorem flat_get {s : Nat} : ∀ {es : List kY} {i j : Nat} {e : kY}, (∀ e ∈ es, e.cells.length = s) → es[i]? = some e → j < s → (uR es)[i * s + j]? = e.cells[j]?
  | [], i, j, e, _, h, _ => by simp at h
  | x :: es, 0, j, e, hs, h, hj => by
    simp at h
    subst h
    rw [dT, Nat.zero_mul, Nat.zero_add, List.getElem?_append_left (by rw [hs x (by simp)]; exact hj)]
  | x :: es, i + 1, j, e, hs, h, hj => by
    have hx := hs x (by simp)
    have ih := flat_get (es := es) (i := i) (j := j) (e := e) (fun y hy => hs y (by simp [hy])) (by simpa using h) hj
    have h1 : (i + 1) * s = i * s + s := by rw [Nat.add_mul]; omega
    rw [dT, List.getElem?_append_right (by omega), hx, ← ih]
    congr 1
    omega
inductive xF (w : World) (D : uT) : Value → kY → Prop
  | val (v : Value) : xF w D v (.val v)
  | sl {t : TypeId} {s : Nat} {es : List kY} {a : Option Addr} {n cap : Nat} (g off : Nat) (u : Nat → Value) (hn : n = es.length) (hc : n ≤ cap) (hm : cap ≤ maxLen)
      (hs : ∀ e ∈ es, e.cells.length = s) (ha : 0 < n → a = some ⟨g, off, none⟩)
      (hD : ∀ i, i < (uR es).length → D t g (off + i)) (hu : ∀ i, i < (uR es).length → w.cell? ⟨g, off + i, none⟩ = some (u i))
      (h1 : ∀ i, i < (uR es).length → (u i).oneCell' = true) (hr : ∀ (i : Nat) d, (uR es)[i]? = some d → xF w D (u i) d) : xF w D (.slice a n cap) (.sl t s es)
  | agg {cs : List kY} (vs : List Value) (hl : vs.length = cs.length) (h1 : ∀ v ∈ vs, v.oneCell' = true) (hr : ∀ (i : Nat) v d, vs[i]? = some v → cs[i]? = some d → xF w D v d) : xF w D (.agg vs.toArray) (.agg cs)
  | tup {ds : List kY} (vs : List Value) (hl : vs.length = ds.length) (hr : ∀ (i : Nat) v d, vs[i]? = some v → ds[i]? = some d → xF w D v d) : xF w D (.tuple vs.toArray) (.tup ds)
  | cptr {t : TypeId} {cs : List kY} {off : Nat} (g o : Nat) (u : Nat → Value)
      (hD : ∀ i, i < cs.length → D t g (o + i)) (hu : ∀ i, i < cs.length → w.cell? ⟨g, o + i, none⟩ = some (u i))
      (h1 : ∀ i, i < cs.length → (u i).oneCell' = true) (hr : ∀ (i : Nat) d, cs[i]? = some d → xF w D (u i) d) : xF w D (.pointer (some ⟨g, o + off, none⟩)) (.cptr t cs off)
theorem xF.mono {w w' : World} {D D' : uT} (hk : ∀ t g o, D t g o → D' t g o ∧ w'.cell? ⟨g, o, none⟩ = w.cell? ⟨g, o, none⟩) {v : Value} {d : kY} (h : xF w D v d) : xF w' D' v d := by
  induction h with
  | val v => exact .val v
  | sl g off u hn hc hm hs ha hD hu h1 hr ih => exact .sl g off u hn hc hm hs ha (fun i hi => (hk _ _ _ (hD i hi)).1) (fun i hi => ((hk _ _ _ (hD i hi)).2).trans (hu i hi)) h1 ih
  | agg vs hl h1 hr ih => exact .agg vs hl h1 ih
  | tup vs hl hr ih => exact .tup vs hl ih
  | cptr g o u hD hu h1 hr ih => exact .cptr g o u (fun i hi => (hk _ _ _ (hD i hi)).1) (fun i hi => ((hk _ _ _ (hD i hi)).2).trans (hu i hi)) h1 ih
inductive SV where
  | d (x : kY)
  | ref (k o : Nat)
  | own (k : Nat) (t : TypeId) (s n : Nat)
  | clo (f : FuncId) (ks : List Nat)
  | emp
  | view (k o n : Nat)
  | junk
instance : Inhabited SV := ⟨.junk⟩
def vG (w : World) (D : uT) (β : vP) : Value → SV → Prop
  | v, .d x => xF w D v x
  | v, .ref k o => ∃ b, β k = some b ∧ v = .pointer (some ⟨b, o, none⟩)
  | v, .own k t s n => (β k = none ∧ n = 0 ∧ v = .slice none 0 0) ∨ ∃ b cap vs, β k = some b ∧ v = .slice (some ⟨b, 0, none⟩) n cap ∧ w.heap[b]? = some (.cells vs t (0, 0)) ∧ vs.size = cap * s ∧ n ≤ cap ∧ cap ≤ maxLen
  | v, .clo f ks => ∃ vs : List Value, v = .func (.func f) #[] vs.toArray ∧ vs.length = ks.length ∧ ∀ (i k : Nat), ks[i]? = some k → ∃ b, β k = some b ∧ vs[i]? = some (.pointer (some ⟨b, 0, none⟩))
  | v, .emp => ∃ ao, v = .slice ao 0 0
  | v, .view k o n => ∃ b cap, β k = some b ∧ v = .slice (some ⟨b, o, none⟩) n cap ∧ n ≤ cap ∧ cap ≤ maxLen
  | _, .junk => True
def SV.names (k : Nat) : SV → Bool
  | .ref j _ => Nat.beq k j
  | .own j _ _ _ => Nat.beq k j
  | .view j _ _ => Nat.beq k j
  | .clo _ ks => ks.any (Nat.beq k)
  | _ => false
abbrev BS := List (Nat × Option (List SV))
def uJ : BS → Nat → Option (List SV)
  | [], _ => none
  | (j, c) :: r, k => bif Nat.beq j k then c else uJ r k
abbrev SL := List (Nat × SV)
def qB : SL → Nat → SV
  | [], _ => .junk
  | (j, x) :: r, t => bif Nat.beq j t then x else qB r t
theorem beq_false_ne {a b : Nat} (h : Nat.beq a b = false) : a ≠ b := Nat.ne_of_beq_eq_false h
theorem vS (j : Nat) (x : SV) (r : SL) (t : Nat) : qB ((j, x) :: r) t = if j = t then x else qB r t := by
  simp only [qB]
  by_cases h : j = t
  · subst h; simp
  · have : Nat.beq j t = false := by rw [← Bool.not_eq_true]; exact fun e => h (Nat.eq_of_beq_eq_true e)
    simp [this, h]
theorem kX (j : Nat) (x : Option (List SV)) (r : BS) (t : Nat) : uJ ((j, x) :: r) t = if j = t then x else uJ r t := by
  simp only [uJ]
  by_cases h : j = t
  · subst h; simp
  · have : Nat.beq j t = false := by rw [← Bool.not_eq_true]; exact fun e => h (Nat.eq_of_beq_eq_true e)
    simp [this, h]
def yI (w : World) (D : uT) (β : vP) (k : Nat) (cs : List SV) : Prop :=
  (β k = none ∧ cs = []) ∨ ∃ b vs T, β k = some b ∧ w.heap[b]? = some (.cells vs T (0, 0)) ∧ cs.length ≤ vs.size ∧
    (∀ (i : Nat) x, cs[i]? = some x → ∃ u, vs[i]? = some u ∧ u.oneCell' = true ∧ vG w D β u x) ∧ ∀ t o, ¬ D t b o
structure Mem (w : World) (D : uT) (β : vP) (bs : BS) : Prop where
  ok : ∀ k cs, uJ bs k = some cs → yI w D β k cs
  inj : ∀ k1 k2 c1 c2, uJ bs k1 = some c1 → uJ bs k2 = some c2 → ∀ b, β k1 = some b → β k2 = some b → k1 = k2
def DOk (D : uT) (w : World) : Prop := ∀ t g o, D t g o → g < w.heap.size
structure DUp (D D' : uT) (w w' : World) : Prop where
  up : ∀ t g o, D t g o → D' t g o
  new : ∀ t g o, D' t g o → D t g o ∨ (w.heap.size ≤ g ∧ g < w'.heap.size)
theorem cI {B : Nat} {w w' : World} (h : Below B w w') {g o : Nat} (hg : g < B) : w'.cell? ⟨g, o, none⟩ = w.cell? ⟨g, o, none⟩ := h.cell (p := ⟨g, o, none⟩) hg
theorem DUp.refl (D : uT) (w : World) : DUp D D w w := ⟨fun _ _ _ h => h, fun _ _ _ h => .inl h⟩
theorem DUp.of_same (D : uT) {w w' : World} : DUp D D w w' := ⟨fun _ _ _ h => h, fun _ _ _ h => .inl h⟩
theorem DUp.ok {D D' : uT} {w w' : World} (h : DUp D D' w w') (hD : DOk D w) (hs : w.heap.size ≤ w'.heap.size) : DOk D' w' := fun t g o hd => by
  rcases h.new t g o hd with h1 | h1
  · have := hD t g o h1; omega
  · exact h1.2
section
variable {w w' : World} {D D' : uT} {β : vP}
theorem xF.up (hb : Below w.heap.size w w') (hu : DUp D D' w w') (hD : DOk D w) {v : Value} {d : kY} (h : xF w D v d) : xF w' D' v d :=
  h.mono fun t g o hd => ⟨hu.up t g o hd, cI hb (hD t g o hd)⟩
theorem zL {k : Nat} {o : Obj} (h : w.heap[k]? = some o) : k < w.heap.size := (Array.getElem?_eq_some_iff.1 h).1
theorem vG.up (hb : Below w.heap.size w w') (hu : DUp D D' w w') (hD : DOk D w) {v : Value} {x : SV} (h : vG w D β v x) : vG w' D' β v x := by
  cases x with
  | d x => exact xF.up hb hu hD h
  | ref k o => exact h
  | own k t s n =>
    rcases h with h | ⟨b, cap, vs, h1, h2, h3, h4⟩
    · exact .inl h
    · exact .inr ⟨b, cap, vs, h1, h2, (hb.block b (zL h3)).trans h3, h4⟩
  | clo f ks => exact h
  | emp => exact h
  | view k o n => exact h
  | junk => trivial
theorem yI.up (hb : Below w.heap.size w w') (hu : DUp D D' w w') (hD : DOk D w) {k : Nat} {cs : List SV} (h : yI w D β k cs) : yI w' D' β k cs := by
  rcases h with h | ⟨b, vs, T, h1, h2, h3, h4, h5⟩
  · exact .inl h
  · refine .inr ⟨b, vs, T, h1, (hb.block b (zL h2)).trans h2, h3, fun i x hx => ?_, fun t o hd => ?_⟩
    · obtain ⟨u, e1, e2, e3⟩ := h4 i x hx
      exact ⟨u, e1, e2, e3.up hb hu hD⟩
    · rcases hu.new t b o hd with h6 | h6
      · exact h5 t o h6
      · have := zL h2; omega
theorem Mem.up (hb : Below w.heap.size w w') (hu : DUp D D' w w') (hD : DOk D w) {bs : BS} (h : Mem w D β bs) : Mem w' D' β bs :=
  ⟨fun k cs hk => (h.ok k cs hk).up hb hu hD, h.inj⟩
end
def vP.set (β : vP) (k b : Nat) : vP := fun j => if j = k then some b else β j
theorem vG.frame {w : World} {D : uT} {β β' : vP} {k : Nat} {v : Value} {x : SV} (hβ : ∀ j, j ≠ k → β' j = β j) (hx : x.names k = false) (h : vG w D β v x) : vG w D β' v x := by
  cases x with
  | d x => exact h
  | ref j o =>
    have hj : j ≠ k := fun e => by subst e; simp [SV.names] at hx
    obtain ⟨b, h1, h2⟩ := h
    exact ⟨b, (hβ j hj).trans h1, h2⟩
  | own j t s n =>
    have hj : j ≠ k := fun e => by subst e; simp [SV.names] at hx
    rcases h with ⟨h1, h2⟩ | ⟨b, cap, vs, h1, h2⟩
    · exact .inl ⟨(hβ j hj).trans h1, h2⟩
    · exact .inr ⟨b, cap, vs, (hβ j hj).trans h1, h2⟩
  | clo f ks =>
    obtain ⟨vs, h1, h2, h3⟩ := h
    refine ⟨vs, h1, h2, fun i j hj => ?_⟩
    obtain ⟨b, h4, h5⟩ := h3 i j hj
    have hne : j ≠ k := fun e => by
      subst e
      simp only [SV.names, List.any_eq_false] at hx
      exact hx j (List.mem_of_getElem? hj) (by simp)
    exact ⟨b, (hβ j hne).trans h4, h5⟩
  | emp => exact h
  | view j o n =>
    have hj : j ≠ k := fun e => by subst e; simp [SV.names] at hx
    obtain ⟨b, cap, h1, h2⟩ := h
    exact ⟨b, cap, (hβ j hj).trans h1, h2⟩
  | junk => trivial
def zQ (k : Nat) (cs : List SV) : Bool := cs.any (SV.names k)
theorem yI.frame {w : World} {D : uT} {β β' : vP} {k j : Nat} {cs : List SV} (hβ : ∀ i, i ≠ k → β' i = β i) (hj : j ≠ k) (hx : zQ k cs = false) (h : yI w D β j cs) : yI w D β' j cs := by
  rcases h with ⟨h1, h2⟩ | ⟨b, vs, T, h1, h2, h3, h4, h5⟩
  · exact .inl ⟨(hβ j hj).trans h1, h2⟩
  · refine .inr ⟨b, vs, T, (hβ j hj).trans h1, h2, h3, fun i x hi => ?_, h5⟩
    obtain ⟨u, e1, e2, e3⟩ := h4 i x hi
    simp only [zQ, List.any_eq_false] at hx
    exact ⟨u, e1, e2, e3.frame hβ (by simpa using hx x (List.mem_of_getElem? hi))⟩
structure Wrote (b : Nat) (w w' : World) : Prop where
  os : w'.os = w.os
  tape : w'.tape = w.tape
  output : w'.output = w.output
  size : w'.heap.size = w.heap.size
  block : ∀ k, k ≠ b → w'.heap[k]? = w.heap[k]?
  own : ∀ vs T f, w.heap[b]? = some (.cells vs T f) → ∃ vs', w'.heap[b]? = some (.cells vs' T f) ∧ vs'.size = vs.size
theorem Wrote.rep {w w' : World} {D : uT} {b : Nat} (hw : Wrote b w w') (hp : ∀ t o, ¬ D t b o) {v : Value} {d : kY} (h : xF w D v d) : xF w' D v d :=
  h.mono fun t g o hd => ⟨hd, by
    have : g ≠ b := fun e => hp t o (e ▸ hd)
    exact World.cell?_of_block (hw.block g this)⟩
theorem Wrote.repS {w w' : World} {D : uT} {β : vP} {b : Nat} (hw : Wrote b w w') (hp : ∀ t o, ¬ D t b o) {v : Value} {x : SV} (h : vG w D β v x) : vG w' D β v x := by
  cases x with
  | d x => exact hw.rep hp h
  | ref j o => exact h
  | own j t s n =>
    rcases h with h | ⟨c, cap, vs, h1, h2, h3, h4, h5⟩
    · exact .inl h
    · by_cases hc : c = b
      · subst hc
        obtain ⟨vs', e1, e2⟩ := hw.own _ _ _ h3
        exact .inr ⟨c, cap, vs', h1, h2, e1, e2.trans h4, h5⟩
      · exact .inr ⟨c, cap, vs, h1, h2, (hw.block c hc).trans h3, h4, h5⟩
  | clo f ks => exact h
  | emp => exact h
  | view j o n => exact h
  | junk => trivial
theorem Wrote.blk {w w' : World} {D : uT} {β : vP} {b k : Nat} {cs : List SV} (hw : Wrote b w w') (hp : ∀ t o, ¬ D t b o) (hk : β k ≠ some b) (h : yI w D β k cs) : yI w' D β k cs := by
  rcases h with h | ⟨c, vs, T, h1, h2, h3, h4, h5⟩
  · exact .inl h
  · have hc : c ≠ b := fun e => hk (e ▸ h1)
    refine .inr ⟨c, vs, T, h1, (hw.block c hc).trans h2, h3, fun i x hi => ?_, h5⟩
    obtain ⟨u, e1, e2, e3⟩ := h4 i x hi
    exact ⟨u, e1, e2, hw.repS hp e3⟩
end Go.Fid
namespace Go.Fid
open Go.RowKit (Below)
def ev (S : Nat → SV) : Operand → SV
  | .tmp t => S t
  | .const v => .d (.val v)
  | .func f => .d (.val (.func (.func f) #[] #[]))
  | .global _ => .junk
def Opnds (w : World) (D : uT) (β : vP) (a : Act) (o : Oper) (S : Nat → SV) : Prop := ∀ y ∈ o.op.operands, vG w D β (a.eval y) (ev S y)
def EPost (a : Act) (w : World) (D : uT) (β : vP) (dst : Option Tmp) (x : SV) (a' : Act) (w' : World) : Prop :=
  ∃ v D', a' = a.put dst v ∧ Below w.heap.size w w' ∧ DUp D D' w w' ∧ vG w' D' β v x
def vO (P : Program) (o : Oper) (S : Nat → SV) (rd : List (Nat × List SV)) (x : SV) : Prop :=
  ∀ (a : Act) (w : World) (D : uT) (β : vP) (Q : Exit → Act → World → Prop), Opnds w D β a o S → (∀ p ∈ rd, yI w D β p.1 p.2) → DOk D w → o.wp P a w (EPost a w D β o.dst x) Q
def NPost (a : Act) (w : World) (D : uT) (β : vP) (dst : Option Tmp) (k : Nat) (cs : List SV) (x : SV) (a' : Act) (w' : World) : Prop :=
  ∃ v D' b, a' = a.put dst v ∧ Below w.heap.size w w' ∧ DUp D D' w w' ∧ w.heap.size ≤ b ∧ b < w'.heap.size ∧ (∀ t o, ¬ D' t b o) ∧ yI w' D' (β.set k b) k cs ∧ vG w' D' (β.set k b) v x
def NOk (P : Program) (o : Oper) (S : Nat → SV) (k : Nat) (cs : List SV) (x : SV) : Prop :=
  ∀ (a : Act) (w : World) (D : uT) (β : vP) (Q : Exit → Act → World → Prop), Opnds w D β a o S → DOk D w → o.wp P a w (NPost a w D β o.dst k cs x) Q
def TPost (a : Act) (w : World) (D : uT) (β : vP) (dst : Option Tmp) (k : Nat) (cs : List SV) (a' : Act) (w' : World) : Prop :=
  a' = a.put dst undef ∧ ∃ b, β k = some b ∧ Wrote b w w' ∧ (∀ t o, ¬ D t b o) ∧ yI w' D β k cs
def TOk (P : Program) (o : Oper) (S : Nat → SV) (k : Nat) (old cs : List SV) : Prop :=
  ∀ (a : Act) (w : World) (D : uT) (β : vP) (Q : Exit → Act → World → Prop), Opnds w D β a o S → yI w D β k old → DOk D w → o.wp P a w (TPost a w D β o.dst k cs) Q
section
variable {P : Program} {o : Oper} {S : Nat → SV}
theorem cT {a : Act} {w w' : World} {K : Act → World → Prop} {Q : Exit → Act → World → Prop} {v : Value} (h : (execOp a.eval o).run P w = .ok (.value v) w') (hk : K (a.put o.dst v) w') : o.wp P a w K Q := by
  unfold Oper.wp; rw [h]; exact hk
theorem wp_skip_ {a : Act} {w w' : World} {K : Act → World → Prop} {Q : Exit → Act → World → Prop} (h : (execOp a.eval o).run P w = .ok .skip w') (hk : K (a.put o.dst undef) w') : o.wp P a w K Q := by
  unfold Oper.wp; rw [h]; exact hk
theorem fK {a : Act} {w w' : World} {K : Act → World → Prop} {Q : Exit → Act → World → Prop} {f : FuncId} {args : Array Value} (h : (execOp a.eval o).run P w = .ok (.enter f args) w')
    (hk : Calls P f args w' fun e w'' => ∃ v, e = .returned v ∧ K (a.put o.dst v) w'') : o.wp P a w K Q := by
  unfold Oper.wp; rw [h]
  exact hk.mono fun e w'' ⟨v, he, hK⟩ => by subst he; exact hK
theorem vO.same {rd : List (Nat × List SV)} {x : SV} (h : ∀ (a : Act) (w : World) (D : uT) (β : vP), Opnds w D β a o S → (∀ p ∈ rd, yI w D β p.1 p.2) → ∃ v, (execOp a.eval o).run P w = .ok (.value v) w ∧ vG w D β v x) : vO P o S rd x :=
  fun a w D β Q hop hrd _ => by
    obtain ⟨v, h1, h2⟩ := h a w D β hop hrd
    exact cT h1 ⟨v, D, rfl, Below.refl _ _, DUp.refl _ _, h2⟩
theorem e_move {x : Operand} (ho : o.op = .move x ∨ o.op = .assign x) : vO P o S [] (ev S x) :=
  vO.same fun a w D β hop _ => ⟨a.eval x, by rcases ho with ho | ho <;> simp [execOp, ho], by
    rcases ho with ho | ho <;> exact hop x (by simp [ho, Op.operands])⟩
theorem aD (w : World) (D : uT) (t : TypeId) (s : Nat) : xF w D (.slice none 0 0) (.sl t s []) :=
  .sl 0 0 (fun _ => undef) rfl (Nat.le_refl _) (by simp [maxLen]) (by simp) (by simp) (by simp [uR]) (by simp [uR]) (by simp [uR]) (by simp [uR])
theorem e_nil (t : TypeId) (s : Nat) (ho : o.op = .move (.const (.slice none 0 0)) ∨ o.op = .assign (.const (.slice none 0 0))) : vO P o S [] (.d (.sl t s [])) :=
  vO.same fun a w D β _ _ => ⟨.slice none 0 0, by rcases ho with ho | ho <;> simp [execOp, ho, Act.eval], aD w D t s⟩
theorem rep_bool {w : World} {D : uT} {v : Value} {b : Bool} (h : xF w D v (.val (.bool b))) : v = .bool b := by cases h; rfl
theorem xP {w : World} {D : uT} {v u : Value} (h : xF w D v (.val u)) : v = u := by cases h; rfl
theorem e_pick {c x y : Operand} {b : Bool} (ho : o.op = .pick c x y) (hc : ev S c = .d (.val (.bool b))) : vO P o S [] (if b then ev S x else ev S y) :=
  vO.same fun a w D β hop _ => by
    have h1 := hop c (by simp [ho, Op.operands])
    rw [hc] at h1
    have h2 : a.eval c = .bool b := rep_bool h1
    refine ⟨if b then a.eval x else a.eval y, by simp [execOp, ho, h2, asBool], ?_⟩
    cases b
    · exact hop y (by simp [ho, Op.operands])
    · exact hop x (by simp [ho, Op.operands])
def isAggD : TypeDesc → Bool
  | .struct _ | .array _ _ => true
  | _ => false
def qY (P : Program) (T : TypeId) : Option (Bool × Nat) :=
  match P.underlying T, P.info? T with
  | some d, some i => some (isAggD d, i.size)
  | _, _ => none
theorem shape_of {T : TypeId} {agg : Bool} {sz : Nat} (h : qY P T = some (agg, sz)) : ∃ d i, P.underlying T = some d ∧ P.info? T = some i ∧ isAggD d = agg ∧ i.size = sz := by
  unfold qY at h
  cases h1 : P.underlying T with
  | none => simp [h1] at h
  | some d =>
    cases h2 : P.info? T with
    | none => simp [h1, h2] at h
    | some i =>
      simp [h1, h2] at h
      exact ⟨d, i, rfl, rfl, h.1, h.2⟩
theorem fH {T : TypeId} {d : TypeDesc} (h : P.underlying T = some d) (w : World) : (isAgg T).run P w = .ok (isAggD d) w := by
  unfold isAgg
  simp only [Sem.run_bind, run_underlying h, Result.andThen_ok]
  cases d <;> rfl
theorem xI {T : TypeId} {i : TypeInfo} (h : P.info? T = some i) (w : World) : (sizeOf T).run P w = .ok i.size w := by
  simp [sizeOf, typeInfo, h]
theorem cZ {T : TypeId} {sz : Nat} (h : qY P T = some (true, sz)) (w : World) (ad : Addr) (us : List Value) (hl : us.length = sz) (hc : ∀ (j : Nat) u, us[j]? = some u → w.cell? (ad.add j) = some u) :
    (loadVar T ad).run P w = .ok (.agg us.toArray) w := by
  obtain ⟨d, i, h1, h2, h3, h4⟩ := shape_of h
  subst hl
  have hl := run_loadCells_list (P := P) w ad us hc
  rw [← h4] at hl
  unfold loadVar
  simp [fH h1, h3, xI h2, hl]
theorem dB {T : TypeId} {sz : Nat} (h : qY P T = some (false, sz)) (w : World) (ad : Addr) {u : Value} (hc : w.cell? ad = some u) :
    (loadVar T ad).run P w = .ok u w := by
  obtain ⟨d, i, h1, h2, h3, h4⟩ := shape_of h
  unfold loadVar
  simp [fH h1, h3, hc]
def unD : List SV → Option (List kY)
  | [] => some []
  | .d x :: r => match unD r with
    | some l => some (x :: l)
    | none => none
  | _ :: _ => none
theorem unD_spec : ∀ {l : List SV} {ds : List kY}, unD l = some ds → l = ds.map .d
  | [], ds, h => by simp [unD] at h; subst h; rfl
  | .d x :: r, ds, h => by
    simp only [unD] at h
    cases h1 : unD r with
    | none => simp [h1] at h
    | some l =>
      simp [h1] at h
      subst h
      simp [unD_spec h1]
  | .ref _ _ :: r, ds, h => by simp [unD] at h
  | .own _ _ _ _ :: r, ds, h => by simp [unD] at h
  | .clo _ _ :: r, ds, h => by simp [unD] at h
  | .junk :: r, ds, h => by simp [unD] at h
def gF (agg : Bool) (l : List SV) : SV :=
  match agg with
  | true => match unD l with
    | some ds => .d (.agg ds)
    | none => .junk
  | false => match l with
    | [x] => x
    | _ => .junk
theorem blk_cells {w : World} {D : uT} {β : vP} {k b : Nat} {cs : List SV} (h : yI w D β k cs) (hb : β k = some b) :
    ∃ vs : List Value, vs.length = cs.length ∧ (∀ (j : Nat) u, vs[j]? = some u → w.cell? ⟨b, j, none⟩ = some u ∧ u.oneCell' = true) ∧ ∀ (j : Nat) u x, vs[j]? = some u → cs[j]? = some x → vG w D β u x := by
  rcases h with ⟨h1, _⟩ | ⟨b', vs, T, h1, h2, h3, h4, _⟩
  · rw [h1] at hb; cases hb
  · obtain rfl : b' = b := by rw [h1] at hb; injection hb
    refine ⟨vs.toList.take cs.length, by simp; omega, fun j u hu => ?_, fun j u x hu hx => ?_⟩
    · have hj : j < cs.length := by
        rcases Nat.lt_or_ge j cs.length with hj | hj
        · exact hj
        · rw [List.getElem?_eq_none (by simp; omega)] at hu; cases hu
      obtain ⟨u', e1, e2, _⟩ := h4 j _ (List.getElem?_eq_getElem hj)
      rw [List.getElem?_take_of_lt hj, Array.getElem?_toList, e1] at hu
      injection hu with hu
      subst hu
      exact ⟨by rw [cell_of_row w b' j vs T (0, 0) h2]; exact e1, e2⟩
    · have hj : j < cs.length := (List.getElem?_eq_some_iff.1 hx).1
      obtain ⟨u', e1, _, e3⟩ := h4 j _ hx
      rw [List.getElem?_take_of_lt hj, Array.getElem?_toList, e1] at hu
      injection hu with hu
      subst hu
      exact e3
theorem repS_agg {w : World} {D : uT} {β : vP} {l : List SV} {vs : List Value} (hl : vs.length = l.length) (h1 : ∀ v ∈ vs, v.oneCell' = true) (hr : ∀ (i : Nat) v x, vs[i]? = some v → l[i]? = some x → vG w D β v x) : vG w D β (.agg vs.toArray) (gF true l) := by
  unfold gF
  cases h : unD l with
  | none => trivial
  | some ds =>
    have hd := unD_spec h
    subst hd
    refine xF.agg vs (by simpa using hl) h1 fun i v d hv hd => ?_
    exact hr i v (.d d) hv (by simp [hd])
theorem e_load_ref {T : TypeId} {x : Operand} {k off sz : Nat} {agg : Bool} {cs : List SV} (ho : o.op = .load T x) (hx : ev S x = .ref k off) (hs : qY P T = some (agg, sz)) (h1 : agg = false → sz = 1) (hl : off + sz ≤ cs.length) :
    vO P o S [(k, cs)] (gF agg ((cs.drop off).take sz)) :=
  vO.same fun a w D β hop hrd => by
    have hp := hop x (by simp [ho, Op.operands])
    rw [hx] at hp
    obtain ⟨b, hb, hv⟩ := hp
    obtain ⟨vs, e1, e2, e3⟩ := blk_cells (hrd (k, cs) (by simp)) hb
    dsimp only at e1 e2 e3
    have hun : (execOp a.eval o) = (do pure (.value (← loadVar T ⟨b, off, none⟩))) := by simp [execOp, ho, hv, Instr.loadAt, Instr.sureAddr]
    rw [hun]
    cases agg with
    | true =>
      refine ⟨.agg ((vs.drop off).take sz).toArray, ?_, repS_agg (by simp; omega) (fun v hv => ?_) (fun i v y hv hy => ?_)⟩
      · rw [Sem.run_bind, cZ hs w _ ((vs.drop off).take sz) (by simp; omega) (fun j u hu => ?_)]
        · rfl
        · have hj : j < sz := by
            have := (List.getElem?_eq_some_iff.1 hu).1
            simp at this; omega
          rw [List.getElem?_take_of_lt hj, List.getElem?_drop] at hu
          rw [Addr.add_lit]
          exact (e2 _ _ hu).1
      · have hm := List.mem_of_mem_drop (List.mem_of_mem_take hv)
        obtain ⟨j, hj⟩ := List.getElem?_of_mem hm
        exact (e2 j v hj).2
      · have hj : i < sz := by
          have := (List.getElem?_eq_some_iff.1 hv).1
          simp at this; omega
        rw [List.getElem?_take_of_lt hj, List.getElem?_drop] at hv hy
        exact e3 _ _ _ hv hy
    | false =>
      obtain rfl := h1 rfl
      have hlt : off < cs.length := by omega
      have hlt' : off < vs.length := by omega
      have hu : vs[off]? = some vs[off] := List.getElem?_eq_getElem hlt'
      have hy : cs[off]? = some cs[off] := List.getElem?_eq_getElem hlt
      refine ⟨vs[off], by rw [Sem.run_bind, dB hs w _ (e2 _ _ hu).1]; rfl, ?_⟩
      have : (cs.drop off).take 1 = [cs[off]] := by
        rw [List.drop_eq_getElem_cons hlt]; rfl
      rw [this]
      exact e3 _ _ _ hu hy
theorem rep_cptr {w : World} {D : uT} {v : Value} {t : TypeId} {cs : List kY} {off : Nat} (h : xF w D v (.cptr t cs off)) :
    ∃ g p, v = .pointer (some ⟨g, p + off, none⟩) ∧ ∃ vs : List Value, vs.length = cs.length ∧ (∀ (j : Nat) u, vs[j]? = some u → w.cell? ⟨g, p + j, none⟩ = some u ∧ u.oneCell' = true) ∧ (∀ i, i < cs.length → D t g (p + i)) ∧
      ∀ (j : Nat) u x, vs[j]? = some u → cs[j]? = some x → xF w D u x := by
  cases h with
  | cptr g p u hD hu h1 hr =>
    have key : ∀ (j : Nat) x, ((List.range cs.length).map u)[j]? = some x → j < cs.length ∧ x = u j := fun j x hx => by
      have hj : j < cs.length := by simpa using (List.getElem?_eq_some_iff.1 hx).1
      rw [List.getElem?_map, List.getElem?_range hj] at hx
      injection hx with hx
      exact ⟨hj, hx.symm⟩
    refine ⟨g, p, rfl, (List.range cs.length).map u, by simp, fun j x hx => ?_, hD, fun j x y hx hy => ?_⟩
    · obtain ⟨hj, rfl⟩ := key j x hx
      exact ⟨hu j hj, h1 j hj⟩
    · obtain ⟨hj, rfl⟩ := key j x hx
      exact hr j y hy
theorem e_load_cptr {T t : TypeId} {x : Operand} {off sz : Nat} {agg : Bool} {cs : List kY} (ho : o.op = .load T x) (hx : ev S x = .d (.cptr t cs off)) (hs : qY P T = some (agg, sz)) (h1 : agg = false → sz = 1) (hl : off + sz ≤ cs.length) :
    vO P o S [] (gF agg (((cs.drop off).take sz).map .d)) :=
  vO.same fun a w D β hop _ => by
    have hp := hop x (by simp [ho, Op.operands])
    rw [hx] at hp
    obtain ⟨g, p, hv, vs, e1, e2, _, e3⟩ := rep_cptr hp
    have hun : (execOp a.eval o) = (do pure (.value (← loadVar T ⟨g, p + off, none⟩))) := by simp [execOp, ho, hv, Instr.loadAt, Instr.sureAddr]
    rw [hun]
    cases agg with
    | true =>
      refine ⟨.agg ((vs.drop off).take sz).toArray, ?_, repS_agg (by simp; omega) (fun v hv => ?_) (fun i v y hv hy => ?_)⟩
      · rw [Sem.run_bind, cZ hs w _ ((vs.drop off).take sz) (by simp; omega) (fun j u hu => ?_)]
        · rfl
        · have hj : j < sz := by
            have := (List.getElem?_eq_some_iff.1 hu).1
            simp at this; omega
          rw [List.getElem?_take_of_lt hj, List.getElem?_drop] at hu
          rw [Addr.add_lit, Nat.add_assoc]
          exact (e2 _ _ hu).1
      · have hm := List.mem_of_mem_drop (List.mem_of_mem_take hv)
        obtain ⟨j, hj⟩ := List.getElem?_of_mem hm
        exact (e2 j v hj).2
      · have hj : i < sz := by
          have := (List.getElem?_eq_some_iff.1 hv).1
          simp at this; omega
        rw [List.getElem?_map, Option.map_eq_some_iff] at hy
        obtain ⟨z, hz, rfl⟩ := hy
        rw [List.getElem?_take_of_lt hj, List.getElem?_drop] at hv hz
        exact e3 _ _ _ hv hz
    | false =>
      obtain rfl := h1 rfl
      have hlt : off < cs.length := by omega
      have hlt' : off < vs.length := by omega
      have hu : vs[off]? = some vs[off] := List.getElem?_eq_getElem hlt'
      have hy : cs[off]? = some cs[off] := List.getElem?_eq_getElem hlt
      refine ⟨vs[off], by rw [Sem.run_bind, dB hs w _ (e2 _ _ hu).1]; rfl, ?_⟩
      have : ((cs.drop off).take 1).map SV.d = [.d cs[off]] := by
        rw [List.drop_eq_getElem_cons hlt]; rfl
      rw [this]
      exact e3 _ _ _ hu hy
end
end Go.Fid
namespace Go.Fid
open Go.RowKit (Below)
section
variable {P : Program} {o : Oper} {S : Nat → SV}
def xD (P : Program) (T : TypeId) (f : Nat) : Option Nat :=
  match P.underlying T with
  | some (.struct fs) => match fs[f]? with
    | some fl => match P.info? fl.type with
      | some i => if i.size = 0 then none else some fl.offset
      | none => none
    | none => none
  | _ => none
def xO (P : Program) (T : TypeId) : Option (TypeId × Nat) :=
  match P.underlying T with
  | some (.slice E) => (P.info? E).map fun i => (E, i.size)
  | _ => none
def cX (P : Program) (T : TypeId) : Option (Nat × TypeId × Nat) :=
  match P.underlying T with
  | some (.array n E) => (P.info? E).map fun i => (n, E, i.size)
  | _ => none
def intB (P : Program) (T : TypeId) : Option IntKind :=
  match P.underlying T with
  | some (.int k) => some k
  | _ => none
theorem field_of {T : TypeId} {f off : Nat} (h : xD P T f = some off) : ∃ fs fl i, P.underlying T = some (.struct fs) ∧ fs[f]? = some fl ∧ P.info? fl.type = some i ∧ i.size ≠ 0 ∧ fl.offset = off := by
  unfold xD at h
  split at h
  · rename_i fs hfs
    split at h
    · rename_i fl hfl
      split at h
      · rename_i i hi
        split at h
        · cases h
        · rename_i hne
          injection h with h
          exact ⟨fs, fl, i, hfs, hfl, hi, hne, h⟩
      · cases h
    · cases h
  · cases h
theorem mI {T E : TypeId} {s : Nat} (h : xO P T = some (E, s)) : ∃ i, P.underlying T = some (.slice E) ∧ P.info? E = some i ∧ i.size = s := by
  unfold xO at h
  split at h
  · rename_i E' hE
    rw [Option.map_eq_some_iff] at h
    obtain ⟨i, h1, h2⟩ := h
    simp only [Prod.mk.injEq] at h2
    obtain ⟨rfl, rfl⟩ := h2
    exact ⟨i, hE, h1, rfl⟩
  · cases h
theorem arr_of {T E : TypeId} {n s : Nat} (h : cX P T = some (n, E, s)) : ∃ i, P.underlying T = some (.array n E) ∧ P.info? E = some i ∧ i.size = s := by
  unfold cX at h
  split at h
  · rename_i n' E' hE
    rw [Option.map_eq_some_iff] at h
    obtain ⟨i, h1, h2⟩ := h
    simp only [Prod.mk.injEq] at h2
    obtain ⟨rfl, rfl, rfl⟩ := h2
    exact ⟨i, hE, h1, rfl⟩
  · cases h
theorem int_of {T : TypeId} {k : IntKind} (h : intB P T = some k) : P.underlying T = some (.int k) := by
  unfold intB at h
  split at h
  · rename_i k' hk
    injection h with h
    rw [hk, h]
  · cases h
theorem run_fieldAt {T : TypeId} {f off : Nat} (h : xD P T f = some off) (w : World) (a : Addr) : (Instr.fieldAt T (.pointer (some a)) f).run P w = .ok (.pointer (some (a.add off))) w := by
  obtain ⟨fs, fl, i, h1, h2, h3, h4, h5⟩ := field_of h
  simp [Instr.fieldAt, run_underlying h1, h2, Instr.sureAddr, fieldPlace, xI h3, h4, h5]
theorem e_fieldAddr_ref {T : TypeId} {x : Operand} {f off k p : Nat} (ho : o.op = .fieldAddr T x f) (hx : ev S x = .ref k p) (hf : xD P T f = some off) : vO P o S [] (.ref k (p + off)) :=
  vO.same fun a w D β hop _ => by
    have hp := hop x (by simp [ho, Op.operands])
    rw [hx] at hp
    obtain ⟨b, hb, hv⟩ := hp
    exact ⟨.pointer (some ⟨b, p + off, none⟩), by simp [execOp, ho, hv, run_fieldAt hf, Addr.add_lit], b, hb, rfl⟩
theorem e_fieldAddr_cptr {T t : TypeId} {x : Operand} {f off p : Nat} {cs : List kY} (ho : o.op = .fieldAddr T x f) (hx : ev S x = .d (.cptr t cs p)) (hf : xD P T f = some off) : vO P o S [] (.d (.cptr t cs (p + off))) :=
  vO.same fun a w D β hop _ => by
    have hp := hop x (by simp [ho, Op.operands])
    rw [hx] at hp
    generalize hvv : a.eval x = v at hp
    cases hp with
    | cptr g q u hD hu h1 hr =>
      exact ⟨.pointer (some ⟨g, q + (p + off), none⟩), by simp [execOp, ho, hvv, run_fieldAt hf, Addr.add_lit, Nat.add_assoc], xF.cptr g q u hD hu h1 hr⟩
theorem run_indexAt_sl {T E : TypeId} {s : Nat} (h : xO P T = some (E, s)) (w : World) (a : Addr) (n cap : Nat) (k : IntKind) (i : Int) (h0 : 0 ≤ i) (h1 : i < n) :
    (Instr.indexAt T (.slice (some a) n cap) (.int k i)).run P w = .ok (.pointer (some (a.add (i.toNat * s)))) w := by
  obtain ⟨j, e1, e2, e3⟩ := mI h
  simp [Instr.indexAt, run_underlying e1, asIntOf, h0, h1, xI e2, e3]
theorem run_indexAt_arr {T E : TypeId} {n s : Nat} (h : cX P T = some (n, E, s)) (w : World) (a : Addr) (k : IntKind) (i : Int) (h0 : 0 ≤ i) (h1 : i < n) :
    (Instr.indexAt T (.pointer (some a)) (.int k i)).run P w = .ok (.pointer (some (a.add (i.toNat * s)))) w := by
  obtain ⟨j, e1, e2, e3⟩ := arr_of h
  simp [Instr.indexAt, run_underlying e1, asIntOf, Instr.sureAddr, h0, h1, xI e2, e3]
theorem e_index_sl {T E t : TypeId} {x ix : Operand} {s : Nat} {es : List kY} {k : IntKind} {i : Int} {e : kY} (ho : o.op = .indexAddr T x ix) (hT : xO P T = some (E, s)) (hx : ev S x = .d (.sl t s es)) (hi : ev S ix = .d (.val (.int k i)))
    (h0 : 0 ≤ i) (he : es[i.toNat]? = some e) : vO P o S [] (.d (.cptr t e.cells 0)) :=
  vO.same fun a w D β hop _ => by
    have hp := hop x (by simp [ho, Op.operands])
    have hq := hop ix (by simp [ho, Op.operands])
    rw [hx] at hp
    rw [hi] at hq
    have hiv := xP hq
    have hlt : i.toNat < es.length := (List.getElem?_eq_some_iff.1 he).1
    generalize hvv : a.eval x = v at hp
    cases hp with
    | sl g off u hn hc hm hs ha hD hu h1 hr =>
      rename_i ad n cap
      have hse := hs e (List.mem_of_getElem? he)
      have had := ha (by omega)
      subst had
      have hfl := xK hs
      have hle : i.toNat * s + s ≤ (uR es).length := by
        rw [hfl]
        have := Nat.mul_le_mul_right s (show i.toNat + 1 ≤ es.length by omega)
        rw [Nat.add_mul] at this; omega
      refine ⟨.pointer (some ⟨g, (off + i.toNat * s) + 0, none⟩), ?_, xF.cptr (cs := e.cells) g (off + i.toNat * s) (fun j => u (i.toNat * s + j)) (fun j hj => ?_) (fun j hj => ?_) (fun j hj => ?_) (fun j d hd => ?_)⟩
      · simp [execOp, ho, hvv, hiv, run_indexAt_sl hT w ⟨g, off, none⟩ n cap k i h0 (by omega), Addr.add_lit]
      · rw [Nat.add_assoc]; exact hD _ (by omega)
      · rw [Nat.add_assoc]; exact hu _ (by omega)
      · exact h1 _ (by omega)
      · have hj : j < s := by have := (List.getElem?_eq_some_iff.1 hd).1; omega
        exact hr _ _ ((flat_get hs he hj).trans hd)
theorem e_index_own {T E t : TypeId} {x ix : Operand} {s b n : Nat} {k : IntKind} {i : Int} (ho : o.op = .indexAddr T x ix) (hT : xO P T = some (E, s)) (hx : ev S x = .own b t s n) (hi : ev S ix = .d (.val (.int k i)))
    (h0 : 0 ≤ i) (h1 : i < n) : vO P o S [] (.ref b (i.toNat * s)) :=
  vO.same fun a w D β hop _ => by
    have hp := hop x (by simp [ho, Op.operands])
    have hq := hop ix (by simp [ho, Op.operands])
    rw [hx] at hp
    rw [hi] at hq
    have hiv := xP hq
    rcases hp with ⟨_, h3, _⟩ | ⟨c, cap, vs, e1, e2, _⟩
    · omega
    · exact ⟨.pointer (some ⟨c, i.toNat * s, none⟩), by simp [execOp, ho, e2, hiv, run_indexAt_sl hT w ⟨c, 0, none⟩ n cap k i h0 h1, Addr.add_lit], c, e1, rfl⟩
theorem e_index_aref {T E : TypeId} {x ix : Operand} {s b n p : Nat} {k : IntKind} {i : Int} (ho : o.op = .indexAddr T x ix) (hT : cX P T = some (n, E, s)) (hx : ev S x = .ref b p) (hi : ev S ix = .d (.val (.int k i)))
    (h0 : 0 ≤ i) (h1 : i < n) : vO P o S [] (.ref b (p + i.toNat * s)) :=
  vO.same fun a w D β hop _ => by
    have hp := hop x (by simp [ho, Op.operands])
    have hq := hop ix (by simp [ho, Op.operands])
    rw [hx] at hp
    rw [hi] at hq
    have hiv := xP hq
    obtain ⟨c, e1, e2⟩ := hp
    exact ⟨.pointer (some ⟨c, p + i.toNat * s, none⟩), by simp [execOp, ho, e2, hiv, run_indexAt_arr hT w ⟨c, p, none⟩ k i h0 h1, Addr.add_lit], c, e1, rfl⟩
theorem e_index_acptr {T E t : TypeId} {x ix : Operand} {s n p : Nat} {cs : List kY} {k : IntKind} {i : Int} (ho : o.op = .indexAddr T x ix) (hT : cX P T = some (n, E, s)) (hx : ev S x = .d (.cptr t cs p)) (hi : ev S ix = .d (.val (.int k i)))
    (h0 : 0 ≤ i) (h1 : i < n) : vO P o S [] (.d (.cptr t cs (p + i.toNat * s))) :=
  vO.same fun a w D β hop _ => by
    have hp := hop x (by simp [ho, Op.operands])
    have hq := hop ix (by simp [ho, Op.operands])
    rw [hx] at hp
    rw [hi] at hq
    have hiv := xP hq
    generalize hvv : a.eval x = v at hp
    cases hp with
    | cptr g q u hD hu e1 hr =>
      exact ⟨.pointer (some ⟨g, q + (p + i.toNat * s), none⟩), by simp [execOp, ho, hvv, hiv, run_indexAt_arr hT w ⟨g, q + p, none⟩ k i h0 h1, Addr.add_lit, Nat.add_assoc], xF.cptr g q u hD hu e1 hr⟩
theorem e_len_sl {T E t : TypeId} {x : Operand} {s : Nat} {es : List kY} (ho : o.op = .call { callee := .builtin .len, args := #[x], argTypes := #[T] }) (hT : xO P T = some (E, s)) (hx : ev S x = .d (.sl t s es)) : vO P o S [] (.d (.val (.int .i64 es.length))) :=
  vO.same fun a w D β hop _ => by
    have hp := hop x (by simp [ho, Op.operands, Call.operands])
    rw [hx] at hp
    obtain ⟨i, e1, e2, e3⟩ := mI hT
    generalize hvv : a.eval x = v at hp
    cases hp with
    | sl g off u hn hc hm hs ha hD hu h1 hr =>
      subst hn
      exact ⟨.int .i64 es.length, by simp [execOp, ho, resolve, invoke, builtin, hvv, Builtin.len_, run_underlying e1, goInt], .val _⟩
theorem e_len_own {T E t : TypeId} {x : Operand} {s k n : Nat} (ho : o.op = .call { callee := .builtin .len, args := #[x], argTypes := #[T] }) (hT : xO P T = some (E, s)) (hx : ev S x = .own k t s n) : vO P o S [] (.d (.val (.int .i64 n))) :=
  vO.same fun a w D β hop _ => by
    have hp := hop x (by simp [ho, Op.operands, Call.operands])
    rw [hx] at hp
    obtain ⟨i, e1, e2, e3⟩ := mI hT
    have : ∃ q cap, a.eval x = .slice q n cap := by
      rcases hp with ⟨_, h3, h4⟩ | ⟨c, cap, vs, _, h4, _⟩
      · subst h3; exact ⟨_, _, h4⟩
      · exact ⟨_, _, h4⟩
    obtain ⟨q, cap, hv⟩ := this
    exact ⟨.int .i64 n, by simp [execOp, ho, resolve, invoke, builtin, hv, Builtin.len_, run_underlying e1, goInt], .val _⟩
theorem e_not {T : TypeId} {x : Operand} {b : Bool} (ho : o.op = .unOp .not T x) (hx : ev S x = .d (.val (.bool b))) : vO P o S [] (.d (.val (.bool !b))) :=
  vO.same fun a w D β hop _ => by
    have hp := hop x (by simp [ho, Op.operands])
    rw [hx] at hp
    have hv := xP hp
    exact ⟨.bool !b, by simp [execOp, ho, hv, Op.unary], .val _⟩
theorem e_neg {T : TypeId} {x : Operand} {k : IntKind} {n r : Int} (ho : o.op = .unOp .neg T x) (hx : ev S x = .d (.val (.int k n))) (hr : k.wrap (0 - n) = r) : vO P o S [] (.d (.val (.int k r))) :=
  vO.same fun a w D β hop _ => by
    have hp := hop x (by simp [ho, Op.operands])
    rw [hx] at hp
    have hv := xP hp
    exact ⟨.int k r, by simp only [execOp, ho, hv, Op.unary, Op.intArith]; rw [hr]; rfl, .val _⟩
theorem ints2 {a : Act} {w : World} {D : uT} {β : vP} {x y : Operand} {op : BinOp} {T T' : TypeId} {u v : Value} (ho : o.op = .binOp op T x y T') (hop : Opnds w D β a o S) (hx : ev S x = .d (.val u)) (hy : ev S y = .d (.val v)) : a.eval x = u ∧ a.eval y = v := by
  have h1 := hop x (by simp [ho, Op.operands])
  have h2 := hop y (by simp [ho, Op.operands])
  rw [hx] at h1
  rw [hy] at h2
  exact ⟨xP h1, xP h2⟩
theorem fM {op : BinOp} {T T' : TypeId} {x y : Operand} {u v r : Value} (ho : o.op = .binOp op T x y T') (hx : ev S x = .d (.val u)) (hy : ev S y = .d (.val v)) (hg : eqGuard op T x y u v = pure ()) (hr : ∀ w, (binOp op T u v).run P w = .ok r w) : vO P o S [] (.d (.val r)) :=
  vO.same fun a w D β hop _ => by
    obtain ⟨h1, h2⟩ := ints2 ho hop hx hy
    exact ⟨r, by simp [execOp, ho, h1, h2, hg, hr], .val _⟩
section ints
variable {T T' : TypeId} {x y : Operand} {k : IntKind} {m n r : Int}
theorem e_add (ho : o.op = .binOp .add T x y T') (hx : ev S x = .d (.val (.int k m))) (hy : ev S y = .d (.val (.int k n))) (hr : k.wrap (m + n) = r) : vO P o S [] (.d (.val (.int k r))) :=
  fM ho hx hy rfl fun w => by subst hr; simp [binOp, Op.intArith]
theorem e_sub (ho : o.op = .binOp .sub T x y T') (hx : ev S x = .d (.val (.int k m))) (hy : ev S y = .d (.val (.int k n))) (hr : k.wrap (m - n) = r) : vO P o S [] (.d (.val (.int k r))) :=
  fM ho hx hy rfl fun w => by subst hr; simp [binOp, Op.intArith]
theorem e_mul (ho : o.op = .binOp .mul T x y T') (hx : ev S x = .d (.val (.int k m))) (hy : ev S y = .d (.val (.int k n))) (hr : k.wrap (m * n) = r) : vO P o S [] (.d (.val (.int k r))) :=
  fM ho hx hy rfl fun w => by subst hr; simp [binOp, Op.intArith]
theorem e_quo (ho : o.op = .binOp .quo T x y T') (hx : ev S x = .d (.val (.int k m))) (hy : ev S y = .d (.val (.int k n))) (h0 : n ≠ 0) (hr : k.wrap (m.tdiv n) = r) : vO P o S [] (.d (.val (.int k r))) :=
  fM ho hx hy rfl fun w => by subst hr; simp [binOp, Op.intDiv, h0]
theorem e_rem (ho : o.op = .binOp .rem T x y T') (hx : ev S x = .d (.val (.int k m))) (hy : ev S y = .d (.val (.int k n))) (h0 : n ≠ 0) (hr : m.tmod n = r) : vO P o S [] (.d (.val (.int k r))) :=
  fM ho hx hy rfl fun w => by subst hr; simp [binOp, Op.intDiv, h0]
theorem e_eql (ho : o.op = .binOp .eql T x y T') (hx : ev S x = .d (.val (.int k m))) (hy : ev S y = .d (.val (.int k n))) : vO P o S [] (.d (.val (.bool (m == n)))) :=
  fM ho hx hy (by simp [eqGuard]) fun w => by simp [binOp, Op.intCmp]
theorem e_neq (ho : o.op = .binOp .neq T x y T') (hx : ev S x = .d (.val (.int k m))) (hy : ev S y = .d (.val (.int k n))) : vO P o S [] (.d (.val (.bool (m != n)))) :=
  fM ho hx hy (by simp [eqGuard]) fun w => by simp [binOp, Op.intCmp]
theorem e_lss (ho : o.op = .binOp .lss T x y T') (hx : ev S x = .d (.val (.int k m))) (hy : ev S y = .d (.val (.int k n))) : vO P o S [] (.d (.val (.bool (decide (m < n))))) :=
  fM ho hx hy rfl fun w => by simp [binOp, Op.intCmp]
theorem e_leq (ho : o.op = .binOp .leq T x y T') (hx : ev S x = .d (.val (.int k m))) (hy : ev S y = .d (.val (.int k n))) : vO P o S [] (.d (.val (.bool (decide (m ≤ n))))) :=
  fM ho hx hy rfl fun w => by simp [binOp, Op.intCmp]
theorem e_gtr (ho : o.op = .binOp .gtr T x y T') (hx : ev S x = .d (.val (.int k m))) (hy : ev S y = .d (.val (.int k n))) : vO P o S [] (.d (.val (.bool (decide (n < m))))) :=
  fM ho hx hy rfl fun w => by simp [binOp, Op.intCmp]
theorem e_geq (ho : o.op = .binOp .geq T x y T') (hx : ev S x = .d (.val (.int k m))) (hy : ev S y = .d (.val (.int k n))) : vO P o S [] (.d (.val (.bool (decide (n ≤ m))))) :=
  fM ho hx hy rfl fun w => by simp [binOp, Op.intCmp]
end ints
def boolB (P : Program) (T : TypeId) : Bool :=
  match P.underlying T with
  | some .bool => true
  | _ => false
theorem bool_of {T : TypeId} (h : boolB P T = true) : P.underlying T = some .bool := by
  unfold boolB at h
  split at h
  · assumption
  · cases h
theorem run_equal_bool {T : TypeId} (hT : boolB P T = true) (p q : Bool) (w : World) : (Op.equal T (.bool p) (.bool q)).run P w = .ok (p == q) w := by
  have hd := bool_of hT
  have : ∀ d : Nat, (Op.equalIn (d + 1) T (.bool p) (.bool q)).run P w = .ok (p == q) w := fun d => by
    simp [Op.equalIn, run_underlying hd]
  exact this 9999
theorem e_eqlb {T T' : TypeId} {x y : Operand} {p q : Bool} (ho : o.op = .binOp .eql T x y T') (hT : boolB P T = true) (hx : ev S x = .d (.val (.bool p))) (hy : ev S y = .d (.val (.bool q))) : vO P o S [] (.d (.val (.bool (p == q)))) :=
  fM ho hx hy (by simp [eqGuard]) fun w => by simp [binOp, run_equal_bool hT]
theorem e_neqb {T T' : TypeId} {x y : Operand} {p q : Bool} (ho : o.op = .binOp .neq T x y T') (hT : boolB P T = true) (hx : ev S x = .d (.val (.bool p))) (hy : ev S y = .d (.val (.bool q))) : vO P o S [] (.d (.val (.bool (!(p == q))))) :=
  fM ho hx hy (by simp [eqGuard]) fun w => by simp [binOp, run_equal_bool hT]
theorem e_conv {src dst : TypeId} {x : Operand} {k l : IntKind} {n r : Int} (ho : o.op = .convert src dst x) (hs : (P.underlying src).isSome = true) (hd : intB P dst = some l) (hx : ev S x = .d (.val (.int k n))) (hr : l.wrap n = r) : vO P o S [] (.d (.val (.int l r))) :=
  vO.same fun a w D β hop _ => by
    have hp := hop x (by simp [ho, Op.operands])
    rw [hx] at hp
    have hv := xP hp
    obtain ⟨d, hd'⟩ := Option.isSome_iff_exists.mp hs
    refine ⟨.int l r, ?_, .val _⟩
    subst hr
    simp [execOp, ho, hv, convert, run_underlying hd', run_underlying (int_of hd), Conv.intToInt]
theorem e_max {T T' : TypeId} {x y : Operand} {k : IntKind} {m n : Int} (ho : o.op = .call { callee := .builtin .max, args := #[x, y], argTypes := #[T, T'] }) (hx : ev S x = .d (.val (.int k m))) (hy : ev S y = .d (.val (.int k n))) : vO P o S [] (.d (.val (.int k (if m < n then n else m)))) :=
  vO.same fun a w D β hop _ => by
    have h1 := hop x (by simp [ho, Op.operands, Call.operands])
    have h2 := hop y (by simp [ho, Op.operands, Call.operands])
    rw [hx] at h1
    rw [hy] at h2
    have e1 := xP h1
    have e2 := xP h2
    exact ⟨_, by simp [execOp, ho, resolve, invoke, builtin, e1, e2, Builtin.max_, Builtin.max2], .val _⟩
theorem rep_agg {w : World} {D : uT} {v : Value} {cs : List kY} (h : xF w D v (.agg cs)) :
    ∃ vs : List Value, v = .agg vs.toArray ∧ vs.length = cs.length ∧ (∀ v ∈ vs, v.oneCell' = true) ∧ ∀ (i : Nat) v d, vs[i]? = some v → cs[i]? = some d → xF w D v d := by
  cases h with
  | agg vs hl h1 hr => exact ⟨vs, rfl, hl, h1, hr⟩
theorem rep_tup {w : World} {D : uT} {v : Value} {cs : List kY} (h : xF w D v (.tup cs)) :
    ∃ vs : List Value, v = .tuple vs.toArray ∧ vs.length = cs.length ∧ ∀ (i : Nat) v d, vs[i]? = some v → cs[i]? = some d → xF w D v d := by
  cases h with
  | tup vs hl hr => exact ⟨vs, rfl, hl, hr⟩
theorem e_extract {x : Operand} {i : Nat} {ds : List kY} {d : kY} (ho : o.op = .extract x i) (hx : ev S x = .d (.tup ds)) (hd : ds[i]? = some d) : vO P o S [] (.d d) :=
  vO.same fun a w D β hop _ => by
    have hp := hop x (by simp [ho, Op.operands])
    rw [hx] at hp
    obtain ⟨vs, hv, hl, hr⟩ := rep_tup hp
    have hi : i < vs.length := by rw [hl]; exact (List.getElem?_eq_some_iff.1 hd).1
    exact ⟨vs[i], by simp [execOp, ho, hv, Instr.extract, List.getElem?_eq_getElem hi], hr i _ _ (List.getElem?_eq_getElem hi) hd⟩
theorem run_part {t : TypeId} {agg : Bool} {sz : Nat} (hs : qY P t = some (agg, sz)) (h1 : agg = false → sz = 1) (w : World) (D : uT) {β : vP} (vs : List Value) (cs : List kY) (off : Nat) (hl : vs.length = cs.length) (hone : ∀ v ∈ vs, v.oneCell' = true)
    (hr : ∀ (i : Nat) v d, vs[i]? = some v → cs[i]? = some d → xF w D v d) (hle : off + sz ≤ cs.length) : ∃ v, (part t vs.toArray off).run P w = .ok v w ∧ vG w D β v (gF agg (((cs.drop off).take sz).map .d)) := by
  obtain ⟨d, i, e1, e2, e3, e4⟩ := shape_of hs
  cases agg with
  | true =>
    refine ⟨.agg ((vs.drop off).take sz).toArray, ?_, repS_agg (by simp; omega) (fun v hv => hone v (List.mem_of_mem_drop (List.mem_of_mem_take hv))) (fun j v y hv hy => ?_)⟩
    · simp only [part, Sem.run_bind, fH e1, e3, Result.andThen_ok, if_true, xI e2, e4, Sem.run_pure]
      congr 2
      simp [List.extract_eq_take_drop]
    · have hj : j < sz := by
        have := (List.getElem?_eq_some_iff.1 hv).1
        simp at this; omega
      rw [List.getElem?_map, Option.map_eq_some_iff] at hy
      obtain ⟨z, hz, rfl⟩ := hy
      rw [List.getElem?_take_of_lt hj, List.getElem?_drop] at hv hz
      exact hr _ _ _ hv hz
  | false =>
    obtain rfl := h1 rfl
    have hlt : off < cs.length := by omega
    have hlt' : off < vs.length := by omega
    refine ⟨vs[off], by simp [part, fH e1, e3, List.getElem?_eq_getElem hlt'], ?_⟩
    have : ((cs.drop off).take 1).map SV.d = [.d cs[off]] := by
      rw [List.drop_eq_getElem_cons hlt]; rfl
    rw [this]
    exact hr _ _ _ (List.getElem?_eq_getElem hlt') (List.getElem?_eq_getElem hlt)
def aN (P : Program) (T : TypeId) (f : Nat) : Option (Nat × TypeId) :=
  match P.underlying T with
  | some (.struct fs) => (fs[f]?).map fun fl => (fl.offset, fl.type)
  | _ => none
theorem fieldT_of {T t : TypeId} {f off : Nat} (h : aN P T f = some (off, t)) : ∃ fs fl, P.underlying T = some (.struct fs) ∧ fs[f]? = some fl ∧ fl.offset = off ∧ fl.type = t := by
  unfold aN at h
  split at h
  · rename_i fs hfs
    rw [Option.map_eq_some_iff] at h
    obtain ⟨fl, h1, h2⟩ := h
    simp only [Prod.mk.injEq] at h2
    exact ⟨fs, fl, hfs, h1, h2.1, h2.2⟩
  · cases h
theorem e_field {T t : TypeId} {x : Operand} {f off sz : Nat} {agg : Bool} {cs : List kY} (ho : o.op = .field T x f) (hx : ev S x = .d (.agg cs)) (hf : aN P T f = some (off, t)) (hs : qY P t = some (agg, sz)) (h1 : agg = false → sz = 1) (hle : off + sz ≤ cs.length) :
    vO P o S [] (gF agg (((cs.drop off).take sz).map .d)) :=
  vO.same fun a w D β hop _ => by
    have hp := hop x (by simp [ho, Op.operands])
    rw [hx] at hp
    obtain ⟨vs, hv, hl, hone, hr⟩ := rep_agg hp
    obtain ⟨fs, fl, e1, e2, e3, e4⟩ := fieldT_of hf
    subst e3; subst e4
    obtain ⟨v, h2, h3⟩ := run_part (β := β) hs h1 w D vs cs fl.offset hl hone hr hle
    exact ⟨v, by simp [execOp, ho, hv, Instr.field, run_underlying e1, e2, asAgg, h2], h3⟩
theorem e_index_arr {T E : TypeId} {x ix : Operand} {n s sz : Nat} {agg : Bool} {k : IntKind} {i : Int} {cs : List kY} (ho : o.op = .index T x ix) (hx : ev S x = .d (.agg cs)) (hT : cX P T = some (n, E, s)) (hs : qY P E = some (agg, sz)) (h1 : agg = false → sz = 1)
    (hi : ev S ix = .d (.val (.int k i))) (h0 : 0 ≤ i) (hn : i < n) (hle : i.toNat * s + sz ≤ cs.length) : vO P o S [] (gF agg (((cs.drop (i.toNat * s)).take sz).map .d)) :=
  vO.same fun a w D β hop _ => by
    have hp := hop x (by simp [ho, Op.operands])
    have hq := hop ix (by simp [ho, Op.operands])
    rw [hx] at hp
    rw [hi] at hq
    have hiv := xP hq
    obtain ⟨vs, hv, hl, hone, hr⟩ := rep_agg hp
    obtain ⟨j, e1, e2, e3⟩ := arr_of hT
    obtain ⟨v, h2, h3⟩ := run_part (β := β) hs h1 w D vs cs (i.toNat * s) hl hone hr hle
    exact ⟨v, by simp [execOp, ho, hv, hiv, Instr.index, asIntOf, run_underlying e1, h0, hn, xI e2, e3, h2], h3⟩
end
end Go.Fid
namespace Go.Fid
open Go.RowKit (Below)
section
variable {P : Program} {o : Oper} {S : Nat → SV}
def kY.ok1 : kY → Bool
  | .val u => u.oneCell'
  | .tup _ => false
  | _ => true
theorem cells_one {v : Value} (h : v.oneCell' = true) : v.cells = #[v] := by cases v <;> first | rfl | (simp [Value.oneCell'] at h)
theorem aG {w : World} {D : uT} {v : Value} {d : kY} (h : xF w D v d) (h1 : d.ok1 = true) :
    ∃ vs : List Value, v.cells = vs.toArray ∧ vs.length = d.cells.length ∧ (∀ v ∈ vs, v.oneCell' = true) ∧ ∀ (i : Nat) v y, vs[i]? = some v → d.cells[i]? = some y → xF w D v y := by
  have one : v.oneCell' = true → d.cells = [d] → _ := fun ho hc => (⟨[v], by simp [cells_one ho], by simp [hc], by simpa using ho, fun i u y hu hy => by
    rw [hc] at hy
    cases i with
    | zero => simp at hu hy; subst hu; subst hy; exact h
    | succ i => simp at hu⟩ : ∃ vs : List Value, v.cells = vs.toArray ∧ vs.length = d.cells.length ∧ (∀ v ∈ vs, v.oneCell' = true) ∧ ∀ (i : Nat) v y, vs[i]? = some v → d.cells[i]? = some y → xF w D v y)
  cases h with
  | val v => exact one h1 rfl
  | sl g off u hn hc hm hs ha hD hu h1' hr => exact one rfl rfl
  | agg vs hl h1' hr => exact ⟨vs, rfl, hl, h1', hr⟩
  | tup vs hl hr => simp [kY.ok1] at h1
  | cptr g p u hD hu h1' hr => exact one rfl rfl
def nV : List Value → List kY → Prop
  | [], [] => True
  | v :: vs, d :: ds => ((d = .val v ∧ v.oneCell' = true) ∨ (v = .slice none 0 0 ∧ ∃ t s, d = .sl t s [])) ∧ nV vs ds
  | _, _ => False
theorem fT {w : World} {D : uT} : ∀ {vs : List Value} {ds : List kY}, nV vs ds → vs.length = ds.length ∧ (∀ v ∈ vs, v.oneCell' = true) ∧ ∀ (i : Nat) v d, vs[i]? = some v → ds[i]? = some d → xF w D v d
  | [], [], _ => ⟨rfl, by simp, by simp⟩
  | v :: vs, d :: ds, ⟨h, hr⟩ => by
    obtain ⟨h1, h2, h3⟩ := fT (w := w) (D := D) hr
    refine ⟨by simp [h1], fun u hu => ?_, fun i u e hu he => ?_⟩
    · rcases List.mem_cons.1 hu with rfl | hu
      · rcases h with ⟨_, h⟩ | ⟨rfl, _⟩
        · exact h
        · rfl
      · exact h2 u hu
    · cases i with
      | zero =>
        simp at hu he
        subst hu; subst he
        rcases h with ⟨rfl, _⟩ | ⟨rfl, t, s, rfl⟩
        · exact .val _
        · exact aD w D t s
      | succ i => exact h3 i u e (by simpa using hu) (by simpa using he)
  | [], _ :: _, h => h.elim
  | _ :: _, [], h => h.elim
def xC (P : Program) (T : TypeId) : Option (List Value) :=
  match P.info? T with
  | some i => i.zero.map fun z => z.cells.toList
  | none => none
theorem eM {T : TypeId} {vs : List Value} (h : xC P T = some vs) : ∃ i z, P.info? T = some i ∧ i.zero = some z ∧ z.cells = vs.toArray := by
  unfold xC at h
  split at h
  · rename_i i hi
    rw [Option.map_eq_some_iff] at h
    obtain ⟨z, h1, h2⟩ := h
    exact ⟨i, z, hi, h1, by rw [← h2]⟩
  · cases h
theorem run_zero {T : TypeId} {i : TypeInfo} {z : Value} (h : P.info? T = some i) (hz : i.zero = some z) (w : World) : (zeroValue T).run P w = .ok z w := by
  simp [zeroValue, typeInfo, h, hz]
def patch {α : Type} (l : List α) (off : Nat) (new : List α) : List α := l.take off ++ new ++ l.drop (off + new.length)
theorem nB {α : Type} {l : List α} {off : Nat} {new : List α} (h : off + new.length ≤ l.length) : (patch l off new).length = l.length := by
  simp [patch]; omega
theorem mB {α : Type} {l : List α} {off : Nat} {new : List α} (h : off + new.length ≤ l.length) (i : Nat) : (patch l off new)[i]? = if i < off then l[i]? else if i < off + new.length then new[i - off]? else l[i]? := by
  unfold patch
  rw [List.append_assoc]
  by_cases h1 : i < off
  · rw [if_pos h1, List.getElem?_append_left (by simp; omega), List.getElem?_take_of_lt h1]
  · rw [if_neg h1, List.getElem?_append_right (by simp; omega)]
    have e1 : i - (l.take off).length = i - off := by simp; omega
    rw [e1]
    by_cases h2 : i < off + new.length
    · rw [if_pos h2, List.getElem?_append_left (by omega)]
    · rw [if_neg h2, List.getElem?_append_right (by omega), List.getElem?_drop]
      congr 1; omega
theorem foldl_set (off : Nat) : ∀ (new : List Value) (j : Nat) (cs : Array Value), off + j + new.length ≤ cs.size → ((new.zipIdx j).foldl (fun cs (c, j) => cs.setIfInBounds (off + j) c) cs).toList = patch cs.toList (off + j) new
  | [], j, cs, _ => by simp [patch]
  | c :: new, j, cs, h => by
    simp only [List.length_cons] at h
    rw [List.zipIdx_cons, List.foldl_cons, foldl_set off new (j + 1) _ (by simp; omega)]
    apply List.ext_getElem?
    intro i
    rw [mB (by simp; omega), mB (by simp; omega)]
    simp only [Array.toList_setIfInBounds, List.length_cons]
    by_cases h1 : i < off + j
    · rw [if_pos (by omega), if_pos h1, List.getElem?_set_ne (by omega)]
    · rw [if_neg h1]
      by_cases h2 : i = off + j
      · subst h2
        rw [if_pos (by omega), if_pos (by omega), List.getElem?_set_self (by simp; omega)]
        simp
      · by_cases h3 : i < off + j + (new.length + 1)
        · rw [if_neg (by omega), if_pos (by omega), if_pos h3]
          obtain ⟨q, hq⟩ : ∃ q, i - (off + j) = q + 1 := ⟨i - (off + j) - 1, by omega⟩
          rw [hq, List.getElem?_cons_succ]
          congr 1; omega
        · rw [if_neg (by omega), if_neg (by omega), if_neg h3, List.getElem?_set_ne (by omega)]
def dE {α : Type} (place : Nat → Option (Nat × Nat)) (cells : List α) : List (Nat × List α) → Option (List α)
  | [] => some cells
  | (i, l) :: xR =>
    match place i with
    | none => none
    | some (off, size) => bif Nat.beq l.length size && Nat.ble (off + l.length) cells.length then dE place (patch cells off l) xR else none
def RepL (w : World) (D : uT) (vs : List Value) (ds : List kY) : Prop := vs.length = ds.length ∧ (∀ v ∈ vs, v.oneCell' = true) ∧ ∀ (i : Nat) v d, vs[i]? = some v → ds[i]? = some d → xF w D v d
theorem repL_zero {w : World} {D : uT} {zv : List Value} {zd : List kY} (h : nV zv zd) : RepL w D zv.toArray.toList zd := by
  rw [List.toList_toArray]
  exact fT h
theorem RepL.patch {w : World} {D : uT} {vs us : List Value} {ds es : List kY} {off : Nat} (h : RepL w D vs ds) (k : RepL w D us es) (hle : off + es.length ≤ ds.length) : RepL w D (patch vs off us) (patch ds off es) := by
  obtain ⟨h1, h2, h3⟩ := h
  obtain ⟨k1, k2, k3⟩ := k
  refine ⟨?_, fun v hv => ?_, fun i v d hv hd => ?_⟩
  · rw [nB (by omega), nB hle, h1]
  · simp only [Fid.patch, List.append_assoc, List.mem_append] at hv
    rcases hv with hv | hv | hv
    · exact h2 v (List.mem_of_mem_take hv)
    · exact k2 v hv
    · exact h2 v (List.mem_of_mem_drop hv)
  · rw [mB (by omega)] at hv
    rw [mB hle] at hd
    by_cases c1 : i < off
    · rw [if_pos c1] at hv hd; exact h3 i v d hv hd
    · rw [if_neg c1] at hv hd
      rw [k1] at hv
      by_cases c2 : i < off + es.length
      · rw [if_pos c2] at hv hd; exact k3 _ v d hv hd
      · rw [if_neg c2] at hv hd; exact h3 i v d hv hd
theorem fV {w : World} {D : uT} (place : Nat → Option (Nat × Nat)) : ∀ (ps : List (Nat × Value)) (pd : List (Nat × List kY)) (cs : Array Value) (ds r : List kY),
    ps.map (·.1) = pd.map (·.1) → (∀ (i : Nat) p q, ps[i]? = some p → pd[i]? = some q → ∃ vs : List Value, p.2.cells = vs.toArray ∧ RepL w D vs q.2) → RepL w D cs.toList ds → dE place ds pd = some r →
    ∃ cs', Instr.fill place cs ps = some cs' ∧ RepL w D cs'.toList r
  | [], [], cs, ds, r, _, _, h, hf => by simp [dE] at hf; subst hf; exact ⟨cs, rfl, h⟩
  | [], _ :: _, _, _, _, hm, _, _, _ => by simp at hm
  | _ :: _, [], _, _, _, hm, _, _, _ => by simp at hm
  | (i, v) :: ps, (j, l) :: pd, cs, ds, r, hm, hp, h, hf => by
    simp only [List.map_cons, List.cons.injEq] at hm
    obtain ⟨rfl, hm⟩ := hm
    obtain ⟨vs, e1, e2⟩ := hp 0 (i, v) (i, l) rfl rfl
    simp only [dE] at hf
    cases hpl : place i with
    | none => simp [hpl] at hf
    | some os =>
      obtain ⟨off, size⟩ := os
      simp only [hpl] at hf
      cases hc : (Nat.beq l.length size && Nat.ble (off + l.length) ds.length) with
      | false => simp [hc] at hf
      | true =>
        simp only [hc, cond_true] at hf
        simp only [Bool.and_eq_true] at hc
        have hs : l.length = size := Nat.eq_of_beq_eq_true hc.1
        have hle : off + l.length ≤ ds.length := Nat.le_of_ble_eq_true hc.2
        have e1' : v.cells = vs.toArray := e1
        have hvl : vs.length = l.length := e2.1
        have hcl : cs.size = ds.length := by have := h.1; simpa using this
        have hfold := foldl_set off vs 0 cs (by omega)
        have hnew : RepL w D ((vs.zipIdx 0).foldl (fun cs (c, j) => cs.setIfInBounds (off + j) c) cs).toList (Fid.patch ds off l) := by
          rw [hfold, Nat.add_zero]
          exact h.patch e2 hle
        obtain ⟨cs', f1, f2⟩ := fV place ps pd _ (Fid.patch ds off l) r hm (fun i p q a b => hp (i + 1) p q (by simpa using a) (by simpa using b)) hnew hf
        refine ⟨cs', ?_, f2⟩
        simp only [Instr.fill, hpl, e1']
        rw [if_neg (by simp; omega)]
        have : (vs.toArray.zipIdx.foldl (fun cs (c, j) => cs.setIfInBounds (off + j) c) cs) = ((vs.zipIdx 0).foldl (fun cs (c, j) => cs.setIfInBounds (off + j) c) cs) := by
          rw [← Array.foldl_toList]; simp
        rw [this]
        exact f1
def nT (P : Program) (T : TypeId) : Option (List (Nat × Nat)) :=
  match P.underlying T with
  | some (.struct fs) => fs.toList.mapM fun f => (P.info? f.type).map fun i => (f.offset, i.size)
  | _ => none
theorem run_places (fs : List Field) : ∀ {l : List (Nat × Nat)}, (fs.mapM fun f => (P.info? f.type).map fun i => (f.offset, i.size)) = some l → ∀ w, (fs.mapM (fun f => do pure (f.offset, ← sizeOf f.type) : Field → Sem (Nat × Nat))).run P w = .ok l w := by
  induction fs with
  | nil => intro l h w; simp at h; subst h; simp
  | cons f fs ih =>
    intro l h w
    simp only [List.mapM_cons, Option.bind_eq_bind, Option.bind_eq_some_iff, Option.map_eq_some_iff, Option.pure_def, Option.some.injEq] at h
    obtain ⟨x, ⟨i, h1, rfl⟩, l', h2, rfl⟩ := h
    simp only [List.mapM_cons, Sem.run_bind, xI h1, Result.andThen_ok, Sem.run_pure, ih h2]
theorem eR {a : Act} {w : World} {D : uT} {ps : List (Nat × Operand)} {pd : List (Nat × kY)} (hps : ps.map (fun p => (p.1, ev S p.2)) = pd.map (fun p => (p.1, .d p.2))) (hok : pd.all (fun p => p.2.ok1) = true)
    {β : vP} (hop : ∀ p ∈ ps, vG w D β (a.eval p.2) (ev S p.2)) : (ps.map fun p => (p.1, a.eval p.2)).map (·.1) = (pd.map fun p => (p.1, p.2.cells)).map (·.1) ∧
      ∀ (i : Nat) p q, (ps.map fun p => (p.1, a.eval p.2))[i]? = some p → (pd.map fun p => (p.1, p.2.cells))[i]? = some q → ∃ vs : List Value, p.2.cells = vs.toArray ∧ RepL w D vs q.2 := by
  constructor
  · have := congrArg (List.map (fun x : Nat × SV => x.1)) hps
    simpa [List.map_map, Function.comp_def] using this
  · intro i p q hp hq
    rw [List.getElem?_map, Option.map_eq_some_iff] at hp hq
    obtain ⟨p', hp', rfl⟩ := hp
    obtain ⟨q', hq', rfl⟩ := hq
    have hi := congrArg (fun l : List (Nat × SV) => l[i]?) hps
    simp only [List.getElem?_map, hp', hq', Option.map_some, Option.some.injEq, Prod.mk.injEq] at hi
    have hr := hop p' (List.mem_of_getElem? hp')
    rw [hi.2] at hr
    have h1 : q'.2.ok1 = true := by
      rw [List.all_eq_true] at hok
      exact hok q' (List.mem_of_getElem? hq')
    obtain ⟨vs, e1, e2, e3, e4⟩ := aG hr h1
    exact ⟨vs, e1, e2, e3, e4⟩
theorem repL_agg {w : World} {D : uT} {β : vP} {vs : Array Value} {ds : List kY} (h : RepL w D vs.toList ds) : vG w D β (.agg vs) (.d (.agg ds)) :=
  (xF.agg vs.toList h.1 h.2.1 h.2.2 : xF w D (.agg vs.toList.toArray) (.agg ds))
theorem e_build {T : TypeId} {ps : List (Nat × Operand)} {pd : List (Nat × kY)} {pl : List (Nat × Nat)} {zv : List Value} {zd r : List kY} (ho : o.op = .build T ps.toArray) (hT : nT P T = some pl) (hz : xC P T = some zv) (hzd : nV zv zd)
    (hps : ps.map (fun p => (p.1, ev S p.2)) = pd.map (fun p => (p.1, .d p.2))) (hok : pd.all (fun p => p.2.ok1) = true) (hr : dE (fun i => pl[i]?) zd (pd.map fun p => (p.1, p.2.cells)) = some r) : vO P o S [] (.d (.agg r)) :=
  vO.same fun a w D β hop _ => by
    obtain ⟨i, z, z1, z2, z3⟩ := eM hz
    unfold nT at hT
    split at hT
    case h_2 => cases hT
    rename_i fs hfs
    have hpl := run_places (P := P) fs.toList hT w
    obtain ⟨q1, q2⟩ := eR (a := a) (w := w) (D := D) (β := β) hps hok (fun p hp => hop p.2 (by
      simp only [ho, Op.operands]
      exact List.mem_toArray.2 (by simpa using List.mem_map_of_mem (f := (·.2)) hp)))
    obtain ⟨cs', f1, f2⟩ := fV (fun i => pl[i]?) _ _ zv.toArray zd r q1 q2 (repL_zero hzd) hr
    refine ⟨.agg cs', ?_, repL_agg f2⟩
    have hm : (fs.mapM (fun f => do pure (f.offset, ← sizeOf f.type) : Field → Sem (Nat × Nat))).run P w = .ok pl.toArray w := by
      rw [Array.mapM_eq_mapM_toList, Sem.run_map, hpl]
      rfl
    have hpp : (ps.toArray.map fun p => (p.1, a.eval p.2)).toList = ps.map fun p => (p.1, a.eval p.2) := by simp
    simp only [execOp, ho, Instr.build, Sem.run_bind, run_zero z1 z2, Result.andThen_ok, run_underlying hfs, hm, z3]
    have hf' : Instr.fill (fun x => pl.toArray[x]?) zv.toArray ((ps.toArray.map fun p => (p.1, a.eval p.2)).toList) = some cs' := by
      rw [hpp]
      simpa using f1
    rw [hf']
    rfl
theorem e_build_arr {T E : TypeId} {n s : Nat} {ps : List (Nat × Operand)} {pd : List (Nat × kY)} {zv : List Value} {zd r : List kY} (ho : o.op = .build T ps.toArray) (hT : cX P T = some (n, E, s)) (hz : xC P T = some zv) (hzd : nV zv zd)
    (hps : ps.map (fun p => (p.1, ev S p.2)) = pd.map (fun p => (p.1, .d p.2))) (hok : pd.all (fun p => p.2.ok1) = true) (hr : dE (fun i => some (i * s, s)) zd (pd.map fun p => (p.1, p.2.cells)) = some r) : vO P o S [] (.d (.agg r)) :=
  vO.same fun a w D β hop _ => by
    obtain ⟨i, z, z1, z2, z3⟩ := eM hz
    obtain ⟨j, e1, e2, e3⟩ := arr_of hT
    obtain ⟨q1, q2⟩ := eR (a := a) (w := w) (D := D) (β := β) hps hok (fun p hp => hop p.2 (by
      simp only [ho, Op.operands]
      exact List.mem_toArray.2 (by simpa using List.mem_map_of_mem (f := (·.2)) hp)))
    obtain ⟨cs', f1, f2⟩ := fV (fun i => some (i * s, s)) _ _ zv.toArray zd r q1 q2 (repL_zero hzd) hr
    refine ⟨.agg cs', ?_, repL_agg f2⟩
    have hpp : (ps.toArray.map fun p => (p.1, a.eval p.2)).toList = ps.map fun p => (p.1, a.eval p.2) := by simp
    simp only [execOp, ho, Instr.build, Sem.run_bind, run_zero z1 z2, Result.andThen_ok, run_underlying e1, xI e2, e3, z3]
    rw [hpp, f1]
    rfl
theorem rep_new {w : World} {D : uT} {E : TypeId} {s : Nat} {es : List kY} {cs : Array Value} (h : RepL w D cs.toList (uR es)) (hs : ∀ e ∈ es, e.cells.length = s) (hm : es.length ≤ maxLen) (hD : DOk D w) :
    xF (w.alloc (.cells cs E)) (fun t g p => D t g p ∨ g = w.heap.size) (.slice (some ⟨w.heap.size, 0, none⟩) es.length es.length) (.sl E s es) := by
  obtain ⟨h1, h2, h3⟩ := h
  have hcl : ∀ i, i < (uR es).length → i < cs.size := fun i hi => by
    have : cs.size = (uR es).length := by simpa using h1
    omega
  have hc : ∀ i, i < (uR es).length → (w.alloc (.cells cs E)).cell? ⟨w.heap.size, i, none⟩ = cs[i]? := fun i _ => World.cell?_alloc_new w cs E i
  refine .sl w.heap.size 0 (fun i => cs.getD i undef) rfl (Nat.le_refl _) hm hs (fun _ => rfl) (fun i _ => .inr rfl) (fun i hi => ?_) (fun i hi => ?_) (fun i d hd => ?_)
  · rw [Nat.zero_add, hc i hi]; simp [hcl i hi]
  · have : cs.getD i undef = cs[i]'(hcl i hi) := by simp [hcl i hi]
    rw [this]
    exact h2 _ (by simp)
  · have hi : i < (uR es).length := (List.getElem?_eq_some_iff.1 hd).1
    refine (h3 i (cs.getD i undef) d (by simp [hcl i hi]) hd).mono fun t g p hd => ⟨.inl hd, ?_⟩
    have := hD t g p hd
    exact World.cell?_alloc_lt w _ ⟨g, p, none⟩ this
theorem dup_new {D : uT} {w : World} {o : Obj} : DUp D (fun t g p => D t g p ∨ g = w.heap.size) w (w.alloc o) :=
  ⟨fun _ _ _ h => .inl h, fun _ _ _ h => h.imp id fun e => by subst e; simp⟩
theorem cE (z : Array Value) (s n : Nat) (hz : z.size = s) : ((Array.range (n * s)).map (z[· % z.size]!)).toList = (List.replicate n z.toList).flatten := by
  apply List.ext_getElem?
  intro i
  simp only [Array.toList_map, Array.toList_range, List.getElem?_map]
  rcases Nat.lt_or_ge i (n * s) with hi | hi
  · rw [List.getElem?_range hi]
    have hs : 0 < s := by
      rcases Nat.eq_zero_or_pos s with h | h
      · subst h; simp at hi
      · exact h
    have key : ∀ (n i : Nat), i < n * s → ((List.replicate n z.toList).flatten)[i]? = z[i % s]? := by
      intro n
      induction n with
      | zero => intro i hi; simp at hi
      | succ n ih =>
        intro i hi
        rw [List.replicate_succ, List.flatten_cons]
        by_cases h : i < s
        · rw [List.getElem?_append_left (by simpa [hz] using h), Nat.mod_eq_of_lt h]; simp
        · rw [List.getElem?_append_right (by simp [hz]; omega)]
          have e1 : i - z.toList.length = i - s := by simp [hz]
          rw [e1, ih (i - s) (by rw [Nat.add_mul] at hi; omega)]
          congr 1
          exact (Nat.mod_eq_sub_mod (by omega)).symm
    rw [key n i hi, hz]
    have hlt : i % s < z.size := by rw [hz]; exact Nat.mod_lt _ hs
    simp [hlt]
  · rw [List.getElem?_eq_none (by simpa using hi)]
    rw [List.getElem?_eq_none]
    · rfl
    · simp [List.length_flatten, hz]; exact hi
theorem repL_zeros {w : World} {D : uT} {zv : List Value} {zd : List kY} (h : nV zv zd) (n : Nat) : RepL w D (List.replicate n zv).flatten (List.replicate n zd).flatten := by
  obtain ⟨h1, h2, h3⟩ := fT (w := w) (D := D) h
  induction n with
  | zero => exact ⟨rfl, by simp, by simp⟩
  | succ n ih =>
    obtain ⟨k1, k2, k3⟩ := ih
    rw [List.replicate_succ, List.replicate_succ, List.flatten_cons, List.flatten_cons]
    refine ⟨by simp only [List.length_append]; omega, fun v hv => ?_, fun i v d hv hd => ?_⟩
    · rcases List.mem_append.1 hv with hv | hv
      · exact h2 v hv
      · exact k2 v hv
    · by_cases hi : i < zv.length
      · rw [List.getElem?_append_left hi] at hv
        rw [List.getElem?_append_left (by omega)] at hd
        exact h3 i v d hv hd
      · rw [List.getElem?_append_right (by omega)] at hv
        rw [List.getElem?_append_right (by omega), ← h1] at hd
        exact k3 _ v d hv hd
theorem e_buildSlice {T E : TypeId} {s len : Nat} {ps : List (Nat × Operand)} {pd : List (Nat × kY)} {zv : List Value} {zd es : List kY} (ho : o.op = .buildSlice T len ps.toArray) (hT : xO P T = some (E, s)) (hz : xC P E = some zv) (hzd : nV zv zd) (hzl : zd.length = s)
    (hps : ps.map (fun p => (p.1, ev S p.2)) = pd.map (fun p => (p.1, .d p.2))) (hok : pd.all (fun p => p.2.ok1) = true) (hbig : len * s ≤ 16777216) (hbig' : len ≤ 16777216) (vR : es.length = len) (hs : ∀ e ∈ es, e.cells.length = s)
    (hr : dE (fun i => some (i * s, s)) (List.replicate len zd).flatten (pd.map fun p => (p.1, p.2.cells)) = some (uR es)) : vO P o S [] (.d (.sl E s es)) :=
  fun a w D β Q hop _ hD => by
    obtain ⟨i, z, z1, z2, z3⟩ := eM hz
    obtain ⟨j, e1, e2, e3⟩ := mI hT
    have hij : i = j := by rw [z1] at e2; injection e2
    subst hij
    obtain ⟨q1, q2⟩ := eR (a := a) (w := w) (D := D) (β := β) hps hok (fun p hp => hop p.2 (by
      simp only [ho, Op.operands]
      exact List.mem_toArray.2 (by simpa using List.mem_map_of_mem (f := (·.2)) hp)))
    have hzvl : zv.length = zd.length := (fT (w := w) (D := D) hzd).1
    have hzs : z.cells.size = s := by rw [z3]; simp; omega
    have hrz := cE z.cells s len hzs
    have hzero : RepL w D ((Array.range (len * s)).map (z.cells[· % z.cells.size]!)).toList (List.replicate len zd).flatten := by
      rw [hrz, z3]
      exact repL_zeros hzd len
    obtain ⟨cs', f1, f2⟩ := fV (fun i => some (i * s, s)) _ _ _ _ _ q1 q2 hzero hr
    have hpp : (ps.toArray.map fun p => (p.1, a.eval p.2)).toList = ps.map fun p => (p.1, a.eval p.2) := by simp
    have hrun : (execOp a.eval o).run P w = .ok (.value (.slice (some ⟨w.heap.size, 0, none⟩) len len)) (w.alloc (.cells cs' E)) := by
      by_cases h0 : len * s = 0
      · rw [h0] at f1
        simp only [Array.range_zero', Array.map_empty] at f1
        simp only [execOp, ho, Instr.buildSlice, Sem.run_bind, run_underlying e1, Result.andThen_ok, xI e2, e3, h0, if_true, Array.range_zero', Array.map_empty, hpp, Sem.run_pure]
        rw [if_neg (by omega)]
        simp only [Sem.run_bind, Sem.run_pure, Result.andThen_ok, f1, newRow, run_newObj]
        rfl
      · simp only [execOp, ho, Instr.buildSlice, Sem.run_bind, run_underlying e1, Result.andThen_ok, xI e2, e3, h0, if_false, hpp]
        rw [if_neg (by omega)]
        simp only [Sem.run_bind, Sem.run_pure, Result.andThen_ok, run_zero z1 z2, f1, newRow, run_newObj]
        rfl
    refine cT hrun ⟨_, _, rfl, (Below.refl _ _).alloc (Nat.le_refl _) _, dup_new, ?_⟩
    have := rep_new (E := E) f2 hs (by unfold maxLen; omega) hD
    rw [vR] at this
    exact this
end
end Go.Fid
namespace Go.Fid
open Go.RowKit (Below)
def callB (P : Program) (f : FuncId) : Bool :=
  match P.funcs[f]? with
  | some fn => !(fn.name == "runtime.NumGoroutine") && fn.body.isSome
  | none => false
def Args (w : World) (D : uT) (vs : List Value) (ds : List kY) : Prop := vs.length = ds.length ∧ ∀ (i : Nat) v d, vs[i]? = some v → ds[i]? = some d → xF w D v d
def FPost (w : World) (D : uT) (r : kY) (e : Ending) (w' : World) : Prop := ∃ v D', e = .returned v ∧ Below w.heap.size w w' ∧ DUp D D' w w' ∧ xF w' D' v r
structure kD (P : Program) (f : FuncId) (ds : List kY) (r : kY) : Prop where
  may : callB P f = true
  run : ∀ (w : World) (D : uT) (vs : List Value), DOk D w → Args w D vs ds → Calls P f vs.toArray w (FPost w D r)
section
variable {P : Program} {o : Oper} {S : Nat → SV}
theorem nE {f : FuncId} (h : callB P f = true) (args : Array Value) (w : World) : (callFunc f args).run P w = .ok (.enter f args) w := by
  unfold callB at h
  split at h
  · rename_i fn hfn
    simp only [Bool.and_eq_true, Bool.not_eq_true'] at h
    obtain ⟨b, hb⟩ := Option.isSome_iff_exists.1 h.2
    have hne : ¬ fn.name = "runtime.NumGoroutine" := beq_eq_false_iff_ne.1 h.1
    simp [callFunc, hfn, hne, hb]
  · cases h
theorem e_call {y : Operand} {xs : List Operand} {ats : Array TypeId} {f : FuncId} {ds : List kY} {r : kY} (ho : o.op = .call { callee := .value y, args := xs.toArray, argTypes := ats }) (hy : ev S y = .d (.val (.func (.func f) #[] #[])))
    (hx : xs.map (ev S) = ds.map .d) (hf : kD P f ds r) : vO P o S [] (.d r) :=
  fun a w D β Q hop _ hD => by
    have hyv := hop y (by simp [ho, Op.operands, Call.operands])
    rw [hy] at hyv
    have hyv' := xP hyv
    have hargs : Args w D (xs.map a.eval) ds := by
      have hl : xs.length = ds.length := by simpa using congrArg List.length hx
      refine ⟨by simpa using hl, fun i v d hv hd => ?_⟩
      rw [List.getElem?_map, Option.map_eq_some_iff] at hv
      obtain ⟨x, hxi, rfl⟩ := hv
      have hm := hop x (by simp [ho, Op.operands, Call.operands, List.mem_of_getElem? hxi])
      have hi := congrArg (fun l : List SV => l[i]?) hx
      simp only [List.getElem?_map, hxi, hd, Option.map_some, Option.some.injEq] at hi
      rw [hi] at hm
      exact hm
    have hrun : (execOp a.eval o).run P w = .ok (.enter f (xs.map a.eval).toArray) w := by
      simp only [execOp, ho, resolve, Deferred.ofValue, hyv', Sem.run_bind, Sem.run_pure, Result.andThen_ok, invoke, Array.empty_append, Array.append_empty]
      rw [nE hf.may]
      simp
    refine fK hrun ((hf.run w D _ hD hargs).mono fun e w' h => ?_)
    obtain ⟨v, D', he, h1, h2, h3⟩ := h
    exact ⟨v, he, v, D', rfl, h1, h2, h3⟩
def optInt (S : Nat → SV) (y : Option Operand) (k : IntKind) (dflt n : Nat) : Prop := match y with
  | none => n = dflt
  | some z => ev S z = .d (.val (.int k (n : Int)))
theorem rep_slice {w : World} {D : uT} {a : Option Addr} {n cap : Nat} {t : TypeId} {s l h : Nat} {es : List kY} (hr : xF w D (.slice a n cap) (.sl t s es)) (h1 : l ≤ h) (h2 : h ≤ es.length) :
    xF w D (.slice (if cap = l then a else a.map (·.add (l * s))) (h - l) (cap - l)) (.sl t s ((es.take h).drop l)) := by
  cases hr with
  | sl g off u hn hc hm hs ha hD hu h1' hr =>
    have hs' : ∀ e ∈ (es.take h).drop l, e.cells.length = s := fun e he => hs e (List.mem_of_mem_take (List.mem_of_mem_drop he))
    have hfl := xK hs
    have hfl' : (uR ((es.take h).drop l)).length = (h - l) * s := by
      rw [xK hs']; simp only [List.length_drop, List.length_take]; congr 1; omega
    have hb : ∀ i, i < (uR ((es.take h).drop l)).length → l * s + i < (uR es).length := fun i hi => by
      rw [hfl'] at hi
      rw [hfl]
      have : (h - l) * s + l * s ≤ es.length * s := by rw [← Nat.add_mul]; exact Nat.mul_le_mul_right s (by omega)
      omega
    have hget : ∀ (i : Nat) d, (uR ((es.take h).drop l))[i]? = some d → (uR es)[l * s + i]? = some d := fun i d hd => by
      have e1 : uR es = uR (es.take l) ++ (uR ((es.take h).drop l) ++ uR (es.drop h)) := by
        rw [← flat_append, ← flat_append]
        congr 1
        have e2 : es.take l = (es.take h).take l := by rw [List.take_take]; congr 1; omega
        rw [e2, ← List.append_assoc, List.take_append_drop, List.take_append_drop]
      have e3 : (uR (es.take l)).length = l * s := by
        rw [xK (s := s) (fun e he => hs e (List.mem_of_mem_take he))]; simp only [List.length_take]; congr 1; omega
      have hi := (List.getElem?_eq_some_iff.1 hd).1
      rw [e1, List.getElem?_append_right (by omega), e3, List.getElem?_append_left (by omega)]
      rw [← hd]; congr 1; omega
    refine .sl g (off + l * s) (fun i => u (l * s + i)) (by simp only [List.length_drop, List.length_take]; omega) (by omega) (by omega) hs' (fun h0 => ?_) (fun i hi => ?_) (fun i hi => ?_) (fun i hi => h1' _ (hb i hi)) (fun i d hd => hr _ _ (hget i d hd))
    · rw [if_neg (by omega), ha (by omega)]
      simp [Addr.add_lit]
    · rw [Nat.add_assoc]; exact hD _ (hb i hi)
    · rw [Nat.add_assoc]; exact hu _ (hb i hi)
theorem run_sliceBound {k : IntKind} {i y : Nat} {code : BoundsCode} (h : i ≤ y) (w : World) : (Instr.sliceBound (.int k (i : Int)) y code).run P w = .ok i w := by
  have h1 : (0 : Int) ≤ (i : Int) ∧ (i : Int) ≤ (y : Int) := by omega
  simp only [Instr.sliceBound, asIntOf, Sem.run_bind, Sem.run_pure, Result.andThen_ok, h1, and_self, if_true, Int.toNat_natCast]
theorem e_slice {T E t : TypeId} {x : Operand} {lo hi : Option Operand} {s l h : Nat} {kl kh : IntKind} {es : List kY} (ho : o.op = .slice T x lo hi none) (hT : xO P T = some (E, s)) (hx : ev S x = .d (.sl t s es)) (hlo : optInt S lo kl 0 l) (hhi : optInt S hi kh es.length h)
    (h1 : l ≤ h) (h2 : h ≤ es.length) : vO P o S [] (.d (.sl t s ((es.take h).drop l))) :=
  vO.same fun a w D β hop _ => by
    have hp := hop x (by simp [ho, Op.operands])
    rw [hx] at hp
    obtain ⟨i, e1, e2, e3⟩ := mI hT
    generalize hvv : a.eval x = v at hp
    cases v with
    | slice q n cap =>
      have hrs := rep_slice hp h1 h2
      cases hp with
      | sl g off u hn hc hm hs ha hD hu h1' hr =>
      refine ⟨_, ?_, hrs⟩
      have hl : lo.map a.eval = none ∧ l = 0 ∨ lo.map a.eval = some (.int kl (l : Int)) := by
        cases lo with
        | none => exact .inl ⟨rfl, hlo⟩
        | some z =>
          have := hop z (by simp [ho, Op.operands])
          rw [show ev S z = _ from hlo] at this
          exact .inr (by rw [Option.map_some, xP this])
      have hh : hi.map a.eval = none ∧ h = es.length ∨ hi.map a.eval = some (.int kh (h : Int)) := by
        cases hi with
        | none => exact .inl ⟨rfl, hhi⟩
        | some z =>
          have := hop z (by simp [ho, Op.operands])
          rw [show ev S z = _ from hhi] at this
          exact .inr (by rw [Option.map_some, xP this])
      have hb : (Instr.sliceBounds true n cap (lo.map a.eval) (hi.map a.eval) none).run P w = .ok (l, h, cap) w := by
        have b1 : ∀ c : BoundsCode, (Instr.sliceBound (.int kh (h : Int)) cap c).run P w = .ok h w := fun _ => run_sliceBound (by omega) w
        have b2 : ∀ c : BoundsCode, (Instr.sliceBound (.int kl (l : Int)) h c).run P w = .ok l w := fun _ => run_sliceBound h1 w
        rcases hl with ⟨hl, rfl⟩ | hl <;> rcases hh with ⟨hh, hhe⟩ | hh
        · subst hhe; subst hn; simp [Instr.sliceBounds, hl, hh]
        · simp [Instr.sliceBounds, hl, hh, b1]
        · subst hhe; subst hn; simp [Instr.sliceBounds, hl, hh, b2]
        · simp [Instr.sliceBounds, hl, hh, b1, b2]
      simp [execOp, ho, hvv, Instr.sliceAt, run_underlying e1, Instr.slice, hb, xI e2, e3]
    | _ => cases hp
theorem blk_new {w : World} {D : uT} {β : vP} {k : Nat} {T : TypeId} {vs : Array Value} {ds : List kY} (hD : DOk D w) (h : RepL w D vs.toList ds) :
    yI (w.alloc (.cells vs T)) D (β.set k w.heap.size) k (ds.map .d) := by
  obtain ⟨h1, h2, h3⟩ := h
  refine .inr ⟨w.heap.size, vs, T, by simp [vP.set], heap_alloc_new w _, by simp at h1 ⊢; omega, fun i x hx => ?_, fun t o hd => Nat.lt_irrefl _ (hD t _ o hd)⟩
  rw [List.getElem?_map, Option.map_eq_some_iff] at hx
  obtain ⟨d, hd, rfl⟩ := hx
  have hi : i < vs.size := by
    have := (List.getElem?_eq_some_iff.1 hd).1
    simp at h1; omega
  refine ⟨vs[i], by simp [hi], h2 _ (by simp), ?_⟩
  exact (h3 i vs[i] d (by simp [hi]) hd).mono fun t g p hd => ⟨hd, World.cell?_alloc_lt w _ ⟨g, p, none⟩ (hD t g p hd)⟩
theorem npost_new {a : Act} {w : World} {D : uT} {β : vP} {k : Nat} {T : TypeId} {vs : Array Value} {ds : List kY} (hD : DOk D w) (h : RepL w D vs.toList ds) {Q : Exit → Act → World → Prop} {v : Value} {x : SV}
    (hrun : (execOp a.eval o).run P w = .ok (.value v) (w.alloc (.cells vs T))) (hx : vG (w.alloc (.cells vs T)) D (β.set k w.heap.size) v x) : o.wp P a w (NPost a w D β o.dst k (ds.map .d) x) Q :=
  cT hrun ⟨v, D, w.heap.size, rfl, (Below.refl _ _).alloc (Nat.le_refl _) _, DUp.of_same D, Nat.le_refl _, by simp, fun t o hd => Nat.lt_irrefl _ (hD t _ o hd), blk_new hD h, hx⟩
theorem n_box {T : TypeId} {x : Operand} {d : kY} (k : Nat) (ho : o.op = .box T x) (hx : ev S x = .d d) (h1 : d.ok1 = true) : NOk P o S k (d.cells.map .d) (.ref k 0) :=
  fun a w D β Q hop hD => by
    have hp := hop x (by simp [ho, Op.operands])
    rw [hx] at hp
    obtain ⟨vs, e1, e2⟩ := aG hp h1
    refine npost_new (vs := vs.toArray) (T := T) (v := .pointer (some ⟨w.heap.size, 0, none⟩)) hD (by rw [List.toList_toArray]; exact e2) ?_ ⟨w.heap.size, by simp [vP.set], rfl⟩
    simp only [execOp, ho, Instr.box, newVar, newRow, e1, Sem.run_bind, run_newObj, Result.andThen_ok, Sem.run_pure]
    rfl
theorem n_alloc {T : TypeId} {zv : List Value} {zd : List kY} (k : Nat) (ho : o.op = .alloc T) (hz : xC P T = some zv) (hzd : nV zv zd) : NOk P o S k (zd.map .d) (.ref k 0) :=
  fun a w D β Q _ hD => by
    obtain ⟨i, z, z1, z2, z3⟩ := eM hz
    refine npost_new (vs := zv.toArray) (T := T) (v := .pointer (some ⟨w.heap.size, 0, none⟩)) hD (repL_zero hzd) ?_ ⟨w.heap.size, by simp [vP.set], rfl⟩
    simp only [execOp, ho, Instr.alloc, newVar, newRow, Sem.run_bind, run_zero z1 z2, z3, run_newObj, Result.andThen_ok, Sem.run_pure]
    rfl
def nK (P : Program) (T : TypeId) : Option Nat := (P.info? T).map (·.bytes)
theorem n_makeSlice {T E : TypeId} {l c : Operand} {s n m bytes : Nat} {kl kc : IntKind} {zv : List Value} {zd : List kY} (k : Nat) (ho : o.op = .makeSlice T l c) (hT : xO P T = some (E, s)) (hz : xC P E = some zv) (hzd : nV zv zd) (hzl : zd.length = s) (hby : nK P E = some bytes)
    (hl : ev S l = .d (.val (.int kl (n : Int)))) (hc : ev S c = .d (.val (.int kc (m : Int)))) (hnm : n ≤ m) (hb : bytes * m ≤ 281474976710656) (hm : m ≤ maxLen) : NOk P o S k ((List.replicate m zd).flatten.map .d) (.own k E s n) :=
  fun a w D β Q hop hD => by
    have h1 := hop l (by simp [ho, Op.operands])
    have h2 := hop c (by simp [ho, Op.operands])
    rw [hl] at h1
    rw [hc] at h2
    have e1 := xP h1
    have e2 := xP h2
    obtain ⟨i, z, z1, z2, z3⟩ := eM hz
    obtain ⟨j, f1, f2, f3⟩ := mI hT
    have hij : i = j := by rw [z1] at f2; injection f2
    subst hij
    have hbi : i.bytes = bytes := by
      unfold nK at hby
      rw [z1] at hby
      simpa using hby
    have hmm : (m : Int) ≤ 9223372036854775807 := by
      unfold maxLen at hm
      omega
    have hbb : (i.bytes : Int) * (m : Int) ≤ 281474976710656 := by
      rw [hbi]
      omega
    have hr := run_make (P := P) w T E i z f1 z1 z2 kl kc (n : Int) (m : Int) (by omega) (by omega) hbb hmm
    have hzvl : zv.length = zd.length := (fT (w := w) (D := D) hzd).1
    have hzs : z.cells.size = s := by rw [z3]; simp; omega
    simp only [Int.toNat_natCast, f3] at hr
    refine npost_new (vs := madeCells z.cells (m * s)) (T := E) (v := .slice (some ⟨w.heap.size, 0, none⟩) n m) hD ?_ ?_ ?_
    · show RepL w D ((Array.range (m * s)).map (z.cells[· % z.cells.size]!)).toList _
      rw [cE z.cells s m hzs, z3]
      exact repL_zeros hzd m
    · simp only [execOp, ho, e1, e2, Sem.run_bind, hr, Result.andThen_ok, Sem.run_pure]
    · exact .inr ⟨w.heap.size, m, madeCells z.cells (m * s), by simp [vP.set], rfl, heap_alloc_new w _, size_madeCells _ _, hnm, hm⟩
theorem sv_cells {w : World} {D : uT} {β : vP} {v : Value} {x : SV} {l : List SV} (h : vG w D β v x) (hl : (∃ d : kY, x = .d d ∧ d.ok1 = true ∧ l = d.cells.map .d) ∨ ((∃ k t s n, x = .own k t s n) ∧ l = [x])) :
    ∃ vs : List Value, v.cells = vs.toArray ∧ vs.length = l.length ∧ (∀ v ∈ vs, v.oneCell' = true) ∧ ∀ (i : Nat) v y, vs[i]? = some v → l[i]? = some y → vG w D β v y := by
  rcases hl with ⟨d, rfl, h1, rfl⟩ | ⟨⟨k, t, s, n, rfl⟩, rfl⟩
  · obtain ⟨vs, e1, e2, e3, e4⟩ := aG h h1
    refine ⟨vs, e1, by simpa using e2, e3, fun i v y hv hy => ?_⟩
    rw [List.getElem?_map, Option.map_eq_some_iff] at hy
    obtain ⟨d', hd, rfl⟩ := hy
    exact e4 i v d' hv hd
  · have hv1 : ∃ p q c, v = .slice p q c := by
      rcases h with ⟨_, _, h3⟩ | ⟨c, cap, vs, _, h4, _⟩
      · exact ⟨_, _, _, h3⟩
      · exact ⟨_, _, _, h4⟩
    obtain ⟨p, q, c, rfl⟩ := hv1
    exact ⟨[.slice p q c], rfl, rfl, by simp [Value.oneCell'], fun i v y hv hy => by
      cases i with
      | zero => simp at hv hy; subst hv; subst hy; exact h
      | succ i => simp at hv⟩
theorem wrote_setRow (w : World) (b : Nat) (cs : Array Value) (hs : ∀ vs T f, w.heap[b]? = some (.cells vs T f) → cs.size = vs.size) : Wrote b w (w.setRow b cs) :=
  ⟨rfl, rfl, rfl, by simp, fun k hk => setRow_other w b k cs hk, fun vs T f h => ⟨cs, setRow_heap w b vs cs T f h, hs vs T f h⟩⟩
theorem t_store {T : TypeId} {x y : Operand} {k off sz : Nat} {agg : Bool} {old l : List SV} {z : SV} (ho : o.op = .store T x y) (hx : ev S x = .ref k off) (hy : ev S y = z) (hs : qY P T = some (agg, sz))
    (hl : (∃ d : kY, z = .d d ∧ d.ok1 = true ∧ l = d.cells.map .d) ∨ ((∃ k t s n, z = .own k t s n) ∧ l = [z])) (vR : l.length = sz) (hle : off + sz ≤ old.length) : TOk P o S k old (patch old off l) :=
  fun a w D β Q hop hb hD => by
    have hp := hop x (by simp [ho, Op.operands])
    have hq := hop y (by simp [ho, Op.operands])
    rw [hx] at hp
    rw [hy] at hq
    obtain ⟨b, hb1, hv⟩ := hp
    obtain ⟨us, e1, e2, e3, e4⟩ := sv_cells hq hl
    rcases hb with ⟨hb2, _⟩ | ⟨b', vs, T', hb2, h2, h3, h4, h5⟩
    · rw [hb1] at hb2; cases hb2
    · obtain rfl : b' = b := by rw [hb1] at hb2; injection hb2 with h; exact h.symm
      obtain ⟨d, i, s1, s2, s3, s4⟩ := shape_of hs
      have hst := run_storeCells_at P b' off T' us 0 vs w h2 (by omega) e3
      have hrun : (execOp a.eval o).run P w = .ok .skip (w.setRow b' (patch vs.toList off us).toArray) := by
        have hsz : us.toArray.size = i.size := by simp; omega
        simp only [execOp, ho, hv, Instr.storeAt, Instr.sureAddr, storeVar, e1, Sem.run_bind, Sem.run_pure, Result.andThen_ok, xI s2, ne_eq, hsz, not_true_eq_false, if_false, hst]
        simp [patch]
      have hw := wrote_setRow w b' (patch vs.toList off us).toArray (fun vs' T f h => by
        rw [h2] at h
        injection h with h
        injection h with h
        subst h
        have := nB (l := vs.toList) (off := off) (new := us) (by simp; omega)
        simpa using this)
      refine wp_skip_ hrun ⟨rfl, b', hb1, hw, h5, ?_⟩
      refine .inr ⟨b', _, T', hb1, setRow_heap w b' vs _ T' _ h2, ?_, fun j x hx => ?_, h5⟩
      · have p1 := nB (l := vs.toList) (off := off) (new := us) (by simp; omega)
        have p2 := nB (l := old) (off := off) (new := l) (by omega)
        simp only [List.size_toArray]
        simp only [Array.length_toList] at p1
        omega
      · rw [mB (by omega)] at hx
        have hg : (patch vs.toList off us).toArray[j]? = if j < off then vs.toList[j]? else if j < off + us.length then us[j - off]? else vs.toList[j]? := by
          rw [List.getElem?_toArray]
          exact mB (by simp; omega) j
        rw [hg]
        by_cases c1 : j < off
        · rw [if_pos c1] at hx ⊢
          obtain ⟨u, g1, g2, g3⟩ := h4 j x hx
          exact ⟨u, by simpa using g1, g2, hw.repS h5 g3⟩
        · rw [if_neg c1] at hx ⊢
          rw [e2]
          by_cases c2 : j < off + l.length
          · rw [if_pos c2] at hx ⊢
            have hj : j - off < us.length := by omega
            exact ⟨us[j - off], List.getElem?_eq_getElem hj, e3 _ (List.getElem_mem hj), hw.repS h5 (e4 _ _ _ (List.getElem?_eq_getElem hj) hx)⟩
          · rw [if_neg c2] at hx ⊢
            obtain ⟨u, g1, g2, g3⟩ := h4 j x hx
            exact ⟨u, by simpa using g1, g2, hw.repS h5 g3⟩
end
end Go.Fid
namespace Go.Fid
open Go.RowKit (Below)
structure PS where
  sl : SL
  bs : BS
structure Fr where
  lo : Nat
  hi : Nat
  rd : Option Nat
structure Ctx where
  w0 : World
  D0 : uT
  w1 : World
  tm : Array Value
  n : Fr
inductive DfOk (B : Nat) (w : World) : List Deferred → Prop
  | nil : DfOk B w []
  | cons {q : Nat} {ds : List Deferred} (h1 : B ≤ q) (h2 : w.heap[q]? = some (Obj.deferred (some []))) (h3 : ∀ d ∈ ds, d.target ≠ .collected q) (h : DfOk B w ds) : DfOk B w ({ target := .collected q, args := #[] } :: ds)
theorem DfOk.keep {B : Nat} {w w' : World} {ds : List Deferred} (h : DfOk B w ds) (hk : ∀ q : Nat, w.heap[q]? = some (Obj.deferred (some [])) → (∃ d ∈ ds, d.target = .collected q) → w'.heap[q]? = some (Obj.deferred (some []))) : DfOk B w' ds := by
  induction h with
  | nil => exact .nil
  | cons h1 h2 h3 h ih => exact .cons h1 (hk _ h2 ⟨_, List.mem_cons_self, rfl⟩) h3 (ih fun q hq ⟨d, hd, e⟩ => hk q hq ⟨d, List.mem_cons_of_mem _ hd, e⟩)
structure Base (C : Ctx) (a : Act) (w : World) (D : uT) : Prop where
  defers : DfOk C.w0.heap.size w a.defers
  size : a.tmps.size = C.n.hi
  keep : ∀ t g o, C.D0 t g o → w.cell? ⟨g, o, none⟩ = C.w1.cell? ⟨g, o, none⟩
  oth : ∀ (k : Nat) (o : Obj), C.w1.heap[k]? = some o → o.isCells = false → w.heap[k]? = some o
  pin : ∀ t, t < C.n.lo → a.tmps.getD t undef = C.tm.getD t undef
  below : Below C.w0.heap.size C.w0 w
  dmono : ∀ t g o, C.D0 t g o → D t g o
  dnew : ∀ t g o, D t g o → C.D0 t g o ∨ C.w0.heap.size ≤ g
  dok : DOk D w
structure SimAt (C : Ctx) (a : Act) (w : World) (st : PS) (D : uT) (β : vP) : Prop where
  base : Base C a w D
  mem : Mem w D β st.bs
  high : ∀ k c, uJ st.bs k = some c → ∀ b, β k = some b → C.w0.heap.size ≤ b
  slots : ∀ t, vG w D β (a.tmps.getD t undef) (qB st.sl t)
def cS (C : Ctx) (a : Act) (w : World) (st : PS) : Prop := ∃ D β, SimAt C a w st D β
def putS (dst : Option Tmp) (x : SV) (sl : SL) : SL := match dst with
  | some d => (d, x) :: sl
  | none => sl
def hN (n : Fr) (dst : Option Tmp) : Bool := match dst with
  | some d => Nat.ble n.lo d && Nat.blt d n.hi
  | none => true
def gQ (k : Nat) (st : PS) : Bool :=
  (st.sl.all fun p => !p.2.names k) && (st.bs.all fun p => (!(Nat.beq p.1 k)) && match p.2 with
    | some cs => !(zQ k cs)
    | none => true)
def yG (ops : Array Oper) (sl : SL) (o : Oper) : Option Bool := match o.guard with
  | none => some true
  | some (j, want) => match (ops[j]?).bind (·.dst) with
    | some d => match qB sl d with
      | .d (.val (.bool b)) => some (b == want)
      | .d (.tup []) => some false
      | _ => none
    | none => none
theorem xN {a : Act} {dst : Option Tmp} {v : Value} {n : Fr} {t : Nat} (hs : a.tmps.size = n.hi) (hd : hN n dst = true) : (a.put dst v).tmps.getD t undef = if dst = some t then v else a.tmps.getD t undef := by
  cases dst with
  | none => simp [Act.put]
  | some d =>
    have hlt : d < a.tmps.size := by
      simp only [hN, Bool.and_eq_true] at hd
      rw [hs]; exact Nat.le_of_ble_eq_true hd.2
    simp only [Act.put, Array.getD_eq_getD_getElem?, Array.getElem?_setIfInBounds, Option.some.injEq]
    by_cases h : d = t
    · subst h; simp [hlt]
    · simp [h]
theorem put_size {a : Act} {dst : Option Tmp} {v : Value} : (a.put dst v).tmps.size = a.tmps.size := by
  cases dst <;> simp [Act.put]
theorem put_defers {a : Act} {dst : Option Tmp} {v : Value} : (a.put dst v).defers = a.defers := by
  cases dst <;> rfl
theorem zB (dst : Option Tmp) (x : SV) (sl : SL) (t : Tmp) : qB (putS dst x sl) t = if dst = some t then x else qB sl t := by
  cases dst with
  | none => simp [putS]
  | some d => simp only [putS, vS, Option.some.injEq]
theorem Base.put {C : Ctx} {a : Act} {w : World} {D : uT} (h : Base C a w D) {dst : Option Tmp} (hd : hN C.n dst = true) (v : Value) : Base C (a.put dst v) w D :=
  ⟨put_defers.symm ▸ h.defers, put_size.trans h.size, h.keep, h.oth, fun t ht => by
    rw [xN h.size hd, if_neg (fun e => by subst e; simp only [hN, Bool.and_eq_true] at hd; have := Nat.le_of_ble_eq_true hd.1; omega)]
    exact h.pin t ht, h.below, h.dmono, h.dnew, h.dok⟩
theorem Base.up {C : Ctx} {a : Act} {w w' : World} {D D' : uT} (h : Base C a w D) (hb : Below w.heap.size w w') (hu : DUp D D' w w') : Base C a w' D' :=
  ⟨DfOk.keep h.defers (fun q hq _ => (hb.block q (zL hq)).trans hq), h.size, fun t g o hd => (cI hb (h.dok t g o (h.dmono _ _ _ hd))).trans (h.keep t g o hd), fun k o hk ho => (hb.block k (zL (h.oth k o hk ho))).trans (h.oth k o hk ho), h.pin,
    h.below.trans (hb.mono h.below.size), fun t g o hd => hu.up _ _ _ (h.dmono _ _ _ hd), fun t g o hd => by
    rcases hu.new t g o hd with h1 | h1
    · exact h.dnew t g o h1
    · have := h.below.size; exact .inr (by omega), hu.ok h.dok hb.size⟩
theorem Base.wrote {C : Ctx} {a : Act} {w w' : World} {D : uT} {b : Nat} (h : Base C a w D) (hw : Wrote b w w') (hb : C.w0.heap.size ≤ b) (hc : ∃ vs T f, w.heap[b]? = some (.cells vs T f)) (hp : ∀ t o, ¬ D t b o) : Base C a w' D := by
  obtain ⟨vs, T, f, hc⟩ := hc
  refine ⟨DfOk.keep h.defers (fun q hq _ => ?_), h.size, fun t g o hd => ?_, fun k o hk ho => ?_, h.pin, ⟨hw.os.trans h.below.os, hw.tape.trans h.below.tape, hw.output.trans h.below.output, by have := h.below.size; have := hw.size; omega, fun k hk => (hw.block k (by omega)).trans (h.below.block k hk)⟩, h.dmono, h.dnew, fun t g o hd => by have := h.dok t g o hd; have := hw.size; omega⟩
  · have hne : q ≠ b := fun e => by subst e; rw [hc] at hq; cases hq
    exact (hw.block q hne).trans hq
  · have hne : g ≠ b := fun e => hp t o (e ▸ h.dmono _ _ _ hd)
    exact (World.cell?_of_block (hw.block g hne)).trans (h.keep t g o hd)
  · have h1 := h.oth k o hk ho
    have hne : k ≠ b := fun e => by subst e; rw [hc] at h1; injection h1 with h1; subst h1; cases ho
    exact (hw.block k hne).trans h1
theorem Base.draw {C : Ctx} {a : Act} {w : World} {D : uT} (h : Base C a w D) : Base C a { w with drawn := w.drawn + 1 } D := ⟨h.defers.keep (fun _ hq _ => hq), h.size, h.keep, h.oth, h.pin, ⟨h.below.os, h.below.tape, h.below.output, h.below.size, h.below.block⟩, h.dmono, h.dnew, h.dok⟩
theorem blk_heap {w : World} {D : uT} {β : vP} {k b : Nat} {cs : List SV} (h : yI w D β k cs) (hk : β k = some b) : ∃ vs T f, w.heap[b]? = some (.cells vs T f) := by
  rcases h with ⟨h1, _⟩ | ⟨b', vs, T, h1, h2, _⟩
  · rw [hk] at h1; cases h1
  · rw [hk] at h1; injection h1 with h1; subst h1; exact ⟨vs, T, _, h2⟩
theorem below_draw (w : World) : Below w.heap.size w { w with drawn := w.drawn + 1 } := ⟨rfl, rfl, rfl, Nat.le_refl _, fun _ _ => rfl⟩
theorem rep_tup0 {w : World} {D : uT} {v : Value} (h : xF w D v (.tup [])) : v = .tuple #[] := by
  cases h with
  | tup vs hl hr => rw [List.eq_nil_of_length_eq_zero hl]
theorem rep_undef (w : World) (D : uT) : xF w D undef (.tup []) := xF.tup [] rfl (by simp)
theorem wanted_of {ops : Array Oper} {sl : SL} {o : Oper} {a : Act} {w : World} {D : uT} {β : vP} {bv : Bool} (hg : yG ops sl o = some bv)
    (hs : ∀ j want d, o.guard = some (j, want) → (ops[j]?).bind (·.dst) = some d → vG w D β (a.tmps.getD d undef) (qB sl d)) : Region.wanted o (yielded ops a.tmps) = bv := by
  unfold yG at hg
  unfold Region.wanted
  cases h : o.guard with
  | none => simp [h] at hg; simp [hg]
  | some p =>
    obtain ⟨j, want⟩ := p
    simp only [h] at hg
    cases hj : (ops[j]?).bind (·.dst) with
    | none => simp [hj] at hg
    | some d =>
      have hr := hs j want d h hj
      simp only [hj] at hg
      split at hg
      · rename_i b hb
        rw [hb] at hr
        have hv := rep_bool hr
        have hx : a.tmps[d]? = some (.bool b) := by
          rw [Array.getD_eq_getD_getElem?] at hv
          cases hq : a.tmps[d]? with
          | none => simp [hq, undef] at hv
          | some u => simp [hq] at hv; rw [hv]
        injection hg with hg
        subst hg
        simp [yielded, hj, hx]
      · rename_i hb
        rw [hb] at hr
        have hv : a.tmps.getD d undef = .tuple #[] := rep_tup0 hr
        injection hg with hg
        subst hg
        have hx : yielded ops a.tmps j = none := by
          unfold yielded
          rw [hj]
          rw [Array.getD_eq_getD_getElem?] at hv
          cases hq : a.tmps[d]? with
          | none => simp [hq]
          | some u => simp [hq] at hv; simp [hq, hv]
        simp [hx]
      · cases hg
inductive Step (P : Program) (n : Fr) (ops : Array Oper) (st : PS) (o : Oper) : PS → Prop
  | e {rd : List (Nat × List SV)} {x : SV} (h : vO P o (qB st.sl) rd x) (hg : yG ops st.sl o = some true) (hd : hN n o.dst = true) (hrd : ∀ p ∈ rd, uJ st.bs p.1 = some p.2) : Step P n ops st o ⟨putS o.dst x st.sl, st.bs⟩
  | n {k : Nat} {cs : List SV} {x : SV} (h : NOk P o (qB st.sl) k cs x) (hg : yG ops st.sl o = some true) (hd : hN n o.dst = true) (hf : gQ k st = true) : Step P n ops st o ⟨putS o.dst x st.sl, (k, some cs) :: st.bs⟩
  | t {k : Nat} {old cs : List SV} (h : TOk P o (qB st.sl) k old cs) (hg : yG ops st.sl o = some true) (hd : hN n o.dst = true) (hb : uJ st.bs k = some old) : Step P n ops st o ⟨putS o.dst .junk st.sl, (k, some cs) :: st.bs⟩
  | skip (hg : yG ops st.sl o = some false) (hd : hN n o.dst = true) : Step P n ops st o ⟨putS o.dst (.d (.tup [])) st.sl, st.bs⟩
  | sem {st' : PS} (h : ∀ (C : Ctx) (a : Act) (w : World) (Q : Exit → Act → World → Prop), C.n = n → cS C a w st → o.wp P a w (fun a' w' => cS C a' w' st') Q) (hg : yG ops st.sl o = some true) : Step P n ops st o st'
inductive Steps (P : Program) (n : Fr) (ops : Array Oper) : PS → List Oper → PS → Prop
  | nil {st : PS} : Steps P n ops st [] st
  | cons {st st1 st2 : PS} {o : Oper} {l : List Oper} (h : Step P n ops st o st1) (hr : Steps P n ops st1 l st2) : Steps P n ops st (o :: l) st2
theorem fresh_slot {k : Nat} {st : PS} (h : gQ k st = true) (t : Nat) : (qB st.sl t).names k = false := by
  simp only [gQ, Bool.and_eq_true, List.all_eq_true] at h
  have : ∀ (l : SL), (∀ p ∈ l, (!p.2.names k) = true) → (qB l t).names k = false := by
    intro l
    induction l with
    | nil => intro _; rfl
    | cons p l ih =>
      intro hl
      obtain ⟨j, x⟩ := p
      rw [vS]
      split
      · simpa using hl (j, x) (by simp)
      · exact ih fun q hq => hl q (by simp [hq])
  exact this st.sl h.1
theorem bget_mem {bs : BS} {k : Nat} {c : List SV} (h : uJ bs k = some c) : (k, some c) ∈ bs := by
  induction bs with
  | nil => simp [uJ] at h
  | cons p bs ih =>
    obtain ⟨j, x⟩ := p
    rw [kX] at h
    split at h
    · rename_i e; subst e; subst h; simp
    · exact List.mem_cons_of_mem _ (ih h)
theorem fresh_blk {k : Nat} {st : PS} (h : gQ k st = true) {j : Nat} {c : List SV} (hj : uJ st.bs j = some c) : j ≠ k ∧ zQ k c = false := by
  simp only [gQ, Bool.and_eq_true, List.all_eq_true] at h
  have := h.2 _ (bget_mem hj)
  simp only [Bool.not_eq_true'] at this
  refine ⟨beq_false_ne this.1, this.2⟩
theorem Mem.new {w w' : World} {D D' : uT} {β : vP} {bs : BS} {k b : Nat} {cs : List SV} (h : Mem w D β bs) (hb : Below w.heap.size w w') (hu : DUp D D' w w') (hD : DOk D w) (hge : w.heap.size ≤ b)
    (hn : ∀ j c, uJ bs j = some c → j ≠ k ∧ zQ k c = false) (hk : yI w' D' (β.set k b) k cs) : Mem w' D' (β.set k b) ((k, some cs) :: bs) := by
  have hβ : ∀ j, j ≠ k → (β.set k b) j = β j := fun j hj => by simp [vP.set, hj]
  have hlt : ∀ j c, uJ bs j = some c → ∀ b', β j = some b' → b' < w.heap.size ∨ c = [] := fun j c hj b' hb' => by
    rcases h.ok j c hj with ⟨h1, _⟩ | ⟨b2, vs, T, h1, h2, _⟩
    · rw [h1] at hb'; cases hb'
    · rw [h1] at hb'; injection hb' with e; subst e; exact .inl (zL h2)
  have hlt' : ∀ j c, uJ bs j = some c → ∀ b', β j = some b' → b' < w.heap.size := fun j c hj b' hb' => by
    rcases h.ok j c hj with ⟨h1, _⟩ | ⟨b2, vs, T, h1, h2, _⟩
    · rw [h1] at hb'; cases hb'
    · rw [h1] at hb'; injection hb' with e; subst e; exact zL h2
  refine ⟨fun j c hj => ?_, fun j1 j2 c1 c2 h1 h2 b' e1 e2 => ?_⟩
  · rw [kX] at hj
    split at hj
    · rename_i e; subst e; injection hj with hj; subst hj; exact hk
    · obtain ⟨hne, hna⟩ := hn j c hj
      exact ((h.ok j c hj).up hb hu hD).frame hβ hne hna
  · rw [kX] at h1 h2
    by_cases c1' : k = j1 <;> by_cases c2' : k = j2
    · omega
    · rw [if_neg c2'] at h2
      subst c1'
      rw [hβ j2 (fun e => c2' e.symm)] at e2
      have := hlt' j2 _ h2 b' e2
      simp [vP.set] at e1
      omega
    · rw [if_neg c1'] at h1
      subst c2'
      rw [hβ j1 (fun e => c1' e.symm)] at e1
      have := hlt' j1 _ h1 b' e1
      simp [vP.set] at e2
      omega
    · rw [if_neg c1'] at h1
      rw [if_neg c2'] at h2
      rw [hβ j1 (fun e => c1' e.symm)] at e1
      rw [hβ j2 (fun e => c2' e.symm)] at e2
      exact h.inj j1 j2 _ _ h1 h2 b' e1 e2
theorem Mem.write {w w' : World} {D : uT} {β : vP} {bs : BS} {k b : Nat} {old cs : List SV} (h : Mem w D β bs) (hw : Wrote b w w') (hp : ∀ t o, ¬ D t b o) (hkb : β k = some b) (hold : uJ bs k = some old) (hk : yI w' D β k cs) : Mem w' D β ((k, some cs) :: bs) := by
  refine ⟨fun j c hj => ?_, fun j1 j2 c1 c2 h1 h2 b' e1 e2 => ?_⟩
  · rw [kX] at hj
    split at hj
    · rename_i e; subst e; injection hj with hj; subst hj; exact hk
    · rename_i hne
      exact hw.blk hp (fun e => hne (h.inj k j _ _ hold hj b hkb e)) (h.ok j c hj)
  · have g : ∀ j c, uJ ((k, some cs) :: bs) j = some c → ∃ c', uJ bs j = some c' := fun j c hj => by
      rw [kX] at hj
      split at hj
      · rename_i e; subst e; exact ⟨_, hold⟩
      · exact ⟨_, hj⟩
    obtain ⟨d1, g1⟩ := g j1 c1 h1
    obtain ⟨d2, g2⟩ := g j2 c2 h2
    exact h.inj j1 j2 d1 d2 g1 g2 b' e1 e2
section
variable {P : Program} {n : Fr} {ops : Array Oper} {C : Ctx}
theorem step_sound {st st' : PS} {o : Oper} (h : Step P n ops st o st') (hn : C.n = n) {a : Act} {w : World} (hs : cS C a w st) {Q : Exit → Act → World → Prop} {K : Act → World → Prop} (hk : ∀ a' w', cS C a' w' st' → K a' w') :
    if Region.wanted o (yielded ops a.tmps) then o.wp P a w K Q else K (a.put o.dst undef) w := by
  have hsim := hs
  obtain ⟨D, β, hs⟩ := hs
  have hop : Opnds w D β a o (qB st.sl) := fun y _ => by
    cases y with
    | tmp t => exact hs.slots t
    | const v => exact xF.val v
    | func f => exact xF.val _
    | global g => trivial
  have hwant : ∀ bv, yG ops st.sl o = some bv → Region.wanted o (yielded ops a.tmps) = bv := fun bv hg => wanted_of hg fun j want d _ _ => hs.slots d
  subst hn
  cases h with
  | e h hg hd hrd =>
    rename_i rd x
    rw [hwant true hg, if_pos rfl]
    refine Oper.wp_mono (fun a' w' hp => hk a' w' ?_) (h a w D β Q hop (fun p hp => hs.mem.ok _ _ (hrd p hp)) hs.base.dok)
    obtain ⟨v, D', rfl, h1, h2, h3⟩ := hp
    refine ⟨D', β, (hs.base.up h1 h2).put hd _, hs.mem.up h1 h2 hs.base.dok, hs.high, fun t => ?_⟩
    rw [xN hs.base.size hd, zB]
    split
    · exact h3
    · exact (hs.slots t).up h1 h2 hs.base.dok
  | n h hg hd hf =>
    rename_i k cs x
    rw [hwant true hg, if_pos rfl]
    refine Oper.wp_mono (fun a' w' hp => hk a' w' ?_) (h a w D β Q hop hs.base.dok)
    obtain ⟨v, D', b, rfl, h1, h2, h3, h4, h5, h6, h7⟩ := hp
    have hβ : ∀ j, j ≠ k → (β.set k b) j = β j := fun j hj => by simp [vP.set, hj]
    refine ⟨D', β.set k b, (hs.base.up h1 h2).put hd _, hs.mem.new h1 h2 hs.base.dok h3 (fun j c hj => fresh_blk hf hj) h6, fun j c hj b' hb' => ?_, fun t => ?_⟩
    · rw [kX] at hj
      split at hj
      · rename_i e; subst e
        simp [vP.set] at hb'
        have := hs.base.below.size
        omega
      · rename_i hne
        rw [hβ j (fun e => hne e.symm)] at hb'
        exact hs.high j c hj b' hb'
    · rw [xN hs.base.size hd, zB]
      split
      · exact h7
      · exact ((hs.slots t).up h1 h2 hs.base.dok).frame hβ (fresh_slot hf t)
  | t h hg hd hb =>
    rename_i k old cs
    rw [hwant true hg, if_pos rfl]
    refine Oper.wp_mono (fun a' w' hp => hk a' w' ?_) (h a w D β Q hop (hs.mem.ok _ _ hb) hs.base.dok)
    obtain ⟨rfl, b, h1, h2, h3, h4⟩ := hp
    refine ⟨D, β, (hs.base.wrote h2 (hs.high k _ hb b h1) (blk_heap (hs.mem.ok _ _ hb) h1) h3).put hd _, hs.mem.write h2 h3 h1 hb h4, fun j c hj b' hb' => ?_, fun t => ?_⟩
    · rw [kX] at hj
      split at hj
      · rename_i e; subst e; exact hs.high k _ hb b' hb'
      · exact hs.high j c hj b' hb'
    · rw [xN hs.base.size hd, zB]
      split
      · trivial
      · exact h2.repS h3 (hs.slots t)
  | skip hg hd =>
    rw [hwant false hg]
    refine hk _ _ ⟨D, β, hs.base.put hd _, hs.mem, hs.high, fun t => ?_⟩
    rw [xN hs.base.size hd, zB]
    split
    · exact rep_undef _ _
    · exact hs.slots t
  | sem h hg =>
    rw [hwant true hg, if_pos rfl]
    exact Oper.wp_mono (fun a' w' hp => hk a' w' hp) (h C a w Q rfl hsim)
def fen (n : Fr) : Fence := { Fence.wide with round := n.rd }
def gZ (o : Oper) : Bool := match o.op with
  | .defer _ => false
  | _ => true
theorem op_lift {N : Nat} {o : Oper} {a : Act} {w : World} {K : Act → World → Prop} {Q : Exit → Act → World → Prop} (hp : gZ o = true) (h : o.wp P a w K Q) : o.wpIn (fen n) N P a w K Q := by
  have hne : ∀ c, o.op ≠ .defer c := fun c e => by simp [gZ, e] at hp
  refine ⟨fun _ _ => trivial, ?_⟩
  rw [Oper.semAt_eq _ _ _ hne]
  unfold Oper.wp at h
  generalize (execOp a.eval o).run P w = r at h
  cases r with
  | ok x w' =>
    cases x <;> simp only [Oper.upon] at h
    case value v => exact h
    case skip => exact h
    case defer d => exact h
    case enter f args => exact ⟨fun e => by simp [fen, Fence.wide] at e, callsIn_wide.2 h⟩
    case row row args =>
      refine ⟨fun e => by simp [fen, Fence.wide] at e, fun c cs _ => ?_⟩
      obtain ⟨v, w'', h1, h2⟩ := h c cs
      exact ⟨v, w'', h1, stepsIn_wide.2 h2⟩
  | halt x w' => cases x <;> simp only [Oper.upon] at h; exact h
theorem steps_sound {st st' : PS} {l : List Oper} (h : Steps P n ops st l st') (hp : l.all gZ = true) (hn : C.n = n) {N : Nat} {Q : Exit → Act → World → Prop} (hk : ∀ a' w', cS C a' w' st' → Q .normal a' w') : ∀ {a : Act} {w : World}, cS C a w st → wpListIn (fen n) N P ops Q l a w := by
  induction h with
  | nil => intro a w hs; exact wpListIn_nil (hk a w hs)
  | cons h hr ih =>
    intro a w hs
    simp only [List.all_cons, Bool.and_eq_true] at hp
    refine wpListIn_step fun K hK => ?_
    have h1 := step_sound h hn hs (Q := Q) fun a' w' hs' => hK a' w' (ih hp.2 hk hs')
    split
    · rename_i e; rw [if_pos e] at h1; exact op_lift hp.1 h1
    · rename_i e; rw [if_neg e] at h1; exact ⟨fun _ _ => trivial, h1⟩
end
end Go.Fid
