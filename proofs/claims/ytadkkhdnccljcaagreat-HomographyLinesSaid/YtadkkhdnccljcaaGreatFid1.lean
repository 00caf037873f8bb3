/-
  What a Go value stands for: pure data ('Dat'), what a slot of a frame stands for ('SV'), when a value in a world stands for it ('Rep', 'RepS'), and how that is kept while the world grows. For any program.
-/
import Derived.WalkKit
import Derived.WalkSpells
import Derived.WalkLawsBesides
import Derived.Orders
import Derived.KernelRfl
import Derived.RangeFuncFrom
import Derived.RangeFuncLeaves
import Derived.OrdersIn
import Derived.TacticsIn
namespace Go.Fid
open Go.RowKit (Below)
abbrev DSet := TypeId → Nat → Nat → Prop
abbrev BMap := Nat → Option Nat
inductive Dat where
  | val (v : Value)
  | sl (t : TypeId) (s : Nat) (es : List Dat)
  | agg (cs : List Dat)
  | tup (vs : List Dat)
  | cptr (t : TypeId) (cs : List Dat) (off : Nat)
instance : Inhabited Dat := ⟨.tup []⟩
def Dat.cells : Dat → List Dat
  | .agg cs => cs
  | d => [d]
def flat (es : List Dat) : List Dat := es.flatMap Dat.cells
theorem flat_cons (e : Dat) (es : List Dat) : flat (e :: es) = e.cells ++ flat es := by simp [flat]
theorem flat_append (a b : List Dat) : flat (a ++ b) = flat a ++ flat b := by simp [flat]
theorem flat_length {s : Nat} : ∀ {es : List Dat}, (∀ e ∈ es, e.cells.length = s) → (flat es).length = es.length * s
  | [], _ => by simp [flat]
  | e :: es, h => by
    rw [flat_cons, List.length_append, h e (by simp), flat_length (es := es) (fun x hx => h x (by simp [hx])), List.length_cons, Nat.add_mul]
    omega
theorem flat_get {s : Nat} : ∀ {es : List Dat} {i j : Nat} {e : Dat}, (∀ e ∈ es, e.cells.length = s) → es[i]? = some e → j < s → (flat es)[i * s + j]? = e.cells[j]?
  | [], i, j, e, _, h, _ => by simp at h
  | x :: es, 0, j, e, hs, h, hj => by
    simp at h
    subst h
    rw [flat_cons, Nat.zero_mul, Nat.zero_add, List.getElem?_append_left (by rw [hs x (by simp)]; exact hj)]
  | x :: es, i + 1, j, e, hs, h, hj => by
    have hx := hs x (by simp)
    have ih := flat_get (es := es) (i := i) (j := j) (e := e) (fun y hy => hs y (by simp [hy])) (by simpa using h) hj
    have h1 : (i + 1) * s = i * s + s := by rw [Nat.add_mul]; omega
    rw [flat_cons, List.getElem?_append_right (by omega), hx, ← ih]
    congr 1
    omega
inductive Rep (w : World) (D : DSet) : Value → Dat → Prop
  | val (v : Value) : Rep w D v (.val v)
  | sl {t : TypeId} {s : Nat} {es : List Dat} {a : Option Addr} {n cap : Nat} (g off : Nat) (u : Nat → Value) (hn : n = es.length) (hc : n ≤ cap) (hm : cap ≤ maxLen)
      (hs : ∀ e ∈ es, e.cells.length = s) (ha : 0 < n → a = some ⟨g, off, none⟩)
      (hD : ∀ i, i < (flat es).length → D t g (off + i)) (hu : ∀ i, i < (flat es).length → w.cell? ⟨g, off + i, none⟩ = some (u i))
      (h1 : ∀ i, i < (flat es).length → (u i).oneCell' = true) (hr : ∀ (i : Nat) d, (flat es)[i]? = some d → Rep w D (u i) d) : Rep w D (.slice a n cap) (.sl t s es)
  | agg {cs : List Dat} (vs : List Value) (hl : vs.length = cs.length) (h1 : ∀ v ∈ vs, v.oneCell' = true) (hr : ∀ (i : Nat) v d, vs[i]? = some v → cs[i]? = some d → Rep w D v d) : Rep w D (.agg vs.toArray) (.agg cs)
  | tup {ds : List Dat} (vs : List Value) (hl : vs.length = ds.length) (hr : ∀ (i : Nat) v d, vs[i]? = some v → ds[i]? = some d → Rep w D v d) : Rep w D (.tuple vs.toArray) (.tup ds)
  | cptr {t : TypeId} {cs : List Dat} {off : Nat} (g o : Nat) (u : Nat → Value)
      (hD : ∀ i, i < cs.length → D t g (o + i)) (hu : ∀ i, i < cs.length → w.cell? ⟨g, o + i, none⟩ = some (u i))
      (h1 : ∀ i, i < cs.length → (u i).oneCell' = true) (hr : ∀ (i : Nat) d, cs[i]? = some d → Rep w D (u i) d) : Rep w D (.pointer (some ⟨g, o + off, none⟩)) (.cptr t cs off)
theorem Rep.mono {w w' : World} {D D' : DSet} (hk : ∀ t g o, D t g o → D' t g o ∧ w'.cell? ⟨g, o, none⟩ = w.cell? ⟨g, o, none⟩) {v : Value} {d : Dat} (h : Rep w D v d) : Rep w' D' v d := by
  induction h with
  | val v => exact .val v
  | sl g off u hn hc hm hs ha hD hu h1 hr ih => exact .sl g off u hn hc hm hs ha (fun i hi => (hk _ _ _ (hD i hi)).1) (fun i hi => ((hk _ _ _ (hD i hi)).2).trans (hu i hi)) h1 ih
  | agg vs hl h1 hr ih => exact .agg vs hl h1 ih
  | tup vs hl hr ih => exact .tup vs hl ih
  | cptr g o u hD hu h1 hr ih => exact .cptr g o u (fun i hi => (hk _ _ _ (hD i hi)).1) (fun i hi => ((hk _ _ _ (hD i hi)).2).trans (hu i hi)) h1 ih
inductive SV where
  | d (x : Dat)
  | ref (k o : Nat)
  | own (k : Nat) (t : TypeId) (s n : Nat)
  | clo (f : FuncId) (ks : List Nat)
  | emp
  | view (k o n : Nat)
  | junk
instance : Inhabited SV := ⟨.junk⟩
def RepS (w : World) (D : DSet) (β : BMap) : Value → SV → Prop
  | v, .d x => Rep w D v x
  | v, .ref k o => ∃ b, β k = some b ∧ v = .pointer (some ⟨b, o, none⟩)
  | v, .own k t s n => (β k = none ∧ n = 0 ∧ v = .slice none 0 0) ∨ ∃ b cap vs, β k = some b ∧ v = .slice (some ⟨b, 0, none⟩) n cap ∧ w.heap[b]? = some (.cells vs t (0, 0)) ∧ vs.size = cap * s ∧ n ≤ cap ∧ cap ≤ maxLen
  | v, .clo f ks => ∃ vs : List Value, v = .func (.func f) #[] vs.toArray ∧ vs.length = ks.length ∧ ∀ (i k : Nat), ks[i]? = some k → ∃ b, β k = some b ∧ vs[i]? = some (.pointer (some ⟨b, 0, none⟩))
  | v, .emp => ∃ ao, v = .slice ao 0 0
  | v, .view k o n => ∃ b cap, β k = some b ∧ v = .slice (some ⟨b, o, none⟩) n cap ∧ n ≤ cap ∧ cap ≤ maxLen
  | _, .junk => True
def SV.names (k : Nat) : SV → Bool
  | .ref j _ => Nat.beq k j
  | .own j _ _ _ => Nat.beq k j
  | .view j _ _ => Nat.beq k j
  | .clo _ ks => ks.any (Nat.beq k)
  | _ => false
abbrev BS := List (Nat × Option (List SV))
def bget : BS → Nat → Option (List SV)
  | [], _ => none
  | (j, c) :: r, k => bif Nat.beq j k then c else bget r k
abbrev SL := List (Nat × SV)
def sget : SL → Nat → SV
  | [], _ => .junk
  | (j, x) :: r, t => bif Nat.beq j t then x else sget r t
theorem beq_false_ne {a b : Nat} (h : Nat.beq a b = false) : a ≠ b := Nat.ne_of_beq_eq_false h
theorem sget_cons (j : Nat) (x : SV) (r : SL) (t : Nat) : sget ((j, x) :: r) t = if j = t then x else sget r t := by
  simp only [sget]
  by_cases h : j = t
  · subst h; simp
  · have : Nat.beq j t = false := by rw [← Bool.not_eq_true]; exact fun e => h (Nat.eq_of_beq_eq_true e)
    simp [this, h]
theorem bget_cons (j : Nat) (x : Option (List SV)) (r : BS) (t : Nat) : bget ((j, x) :: r) t = if j = t then x else bget r t := by
  simp only [bget]
  by_cases h : j = t
  · subst h; simp
  · have : Nat.beq j t = false := by rw [← Bool.not_eq_true]; exact fun e => h (Nat.eq_of_beq_eq_true e)
    simp [this, h]
def BlkOk (w : World) (D : DSet) (β : BMap) (k : Nat) (cs : List SV) : Prop :=
  (β k = none ∧ cs = []) ∨ ∃ b vs T, β k = some b ∧ w.heap[b]? = some (.cells vs T (0, 0)) ∧ cs.length ≤ vs.size ∧
    (∀ (i : Nat) x, cs[i]? = some x → ∃ u, vs[i]? = some u ∧ u.oneCell' = true ∧ RepS w D β u x) ∧ ∀ t o, ¬ D t b o
structure Mem (w : World) (D : DSet) (β : BMap) (bs : BS) : Prop where
  ok : ∀ k cs, bget bs k = some cs → BlkOk w D β k cs
  inj : ∀ k1 k2 c1 c2, bget bs k1 = some c1 → bget bs k2 = some c2 → ∀ b, β k1 = some b → β k2 = some b → k1 = k2
def DOk (D : DSet) (w : World) : Prop := ∀ t g o, D t g o → g < w.heap.size
structure DUp (D D' : DSet) (w w' : World) : Prop where
  up : ∀ t g o, D t g o → D' t g o
  new : ∀ t g o, D' t g o → D t g o ∨ (w.heap.size ≤ g ∧ g < w'.heap.size)
theorem cell_below {B : Nat} {w w' : World} (h : Below B w w') {g o : Nat} (hg : g < B) : w'.cell? ⟨g, o, none⟩ = w.cell? ⟨g, o, none⟩ := h.cell (p := ⟨g, o, none⟩) hg
theorem DUp.refl (D : DSet) (w : World) : DUp D D w w := ⟨fun _ _ _ h => h, fun _ _ _ h => .inl h⟩
theorem DUp.of_same (D : DSet) {w w' : World} : DUp D D w w' := ⟨fun _ _ _ h => h, fun _ _ _ h => .inl h⟩
theorem DUp.ok {D D' : DSet} {w w' : World} (h : DUp D D' w w') (hD : DOk D w) (hs : w.heap.size ≤ w'.heap.size) : DOk D' w' := fun t g o hd => by
  rcases h.new t g o hd with h1 | h1
  · have := hD t g o h1; omega
  · exact h1.2
section
variable {w w' : World} {D D' : DSet} {β : BMap}
theorem Rep.up (hb : Below w.heap.size w w') (hu : DUp D D' w w') (hD : DOk D w) {v : Value} {d : Dat} (h : Rep w D v d) : Rep w' D' v d :=
  h.mono fun t g o hd => ⟨hu.up t g o hd, cell_below hb (hD t g o hd)⟩
theorem heap_lt {k : Nat} {o : Obj} (h : w.heap[k]? = some o) : k < w.heap.size := (Array.getElem?_eq_some_iff.1 h).1
theorem RepS.up (hb : Below w.heap.size w w') (hu : DUp D D' w w') (hD : DOk D w) {v : Value} {x : SV} (h : RepS w D β v x) : RepS w' D' β v x := by
  cases x with
  | d x => exact Rep.up hb hu hD h
  | ref k o => exact h
  | own k t s n =>
    rcases h with h | ⟨b, cap, vs, h1, h2, h3, h4⟩
    · exact .inl h
    · exact .inr ⟨b, cap, vs, h1, h2, (hb.block b (heap_lt h3)).trans h3, h4⟩
  | clo f ks => exact h
  | emp => exact h
  | view k o n => exact h
  | junk => trivial
theorem BlkOk.up (hb : Below w.heap.size w w') (hu : DUp D D' w w') (hD : DOk D w) {k : Nat} {cs : List SV} (h : BlkOk w D β k cs) : BlkOk w' D' β k cs := by
  rcases h with h | ⟨b, vs, T, h1, h2, h3, h4, h5⟩
  · exact .inl h
  · refine .inr ⟨b, vs, T, h1, (hb.block b (heap_lt h2)).trans h2, h3, fun i x hx => ?_, fun t o hd => ?_⟩
    · obtain ⟨u, e1, e2, e3⟩ := h4 i x hx
      exact ⟨u, e1, e2, e3.up hb hu hD⟩
    · rcases hu.new t b o hd with h6 | h6
      · exact h5 t o h6
      · have := heap_lt h2; omega
theorem Mem.up (hb : Below w.heap.size w w') (hu : DUp D D' w w') (hD : DOk D w) {bs : BS} (h : Mem w D β bs) : Mem w' D' β bs :=
  ⟨fun k cs hk => (h.ok k cs hk).up hb hu hD, h.inj⟩
end
def BMap.set (β : BMap) (k b : Nat) : BMap := fun j => if j = k then some b else β j
theorem RepS.frame {w : World} {D : DSet} {β β' : BMap} {k : Nat} {v : Value} {x : SV} (hβ : ∀ j, j ≠ k → β' j = β j) (hx : x.names k = false) (h : RepS w D β v x) : RepS w D β' v x := by
  cases x with
  | d x => exact h
  | ref j o =>
    have hj : j ≠ k := fun e => by subst e; simp [SV.names] at hx
    obtain ⟨b, h1, h2⟩ := h
    exact ⟨b, (hβ j hj).trans h1, h2⟩
  | own j t s n =>
    have hj : j ≠ k := fun e => by subst e; simp [SV.names] at hx
    rcases h with ⟨h1, h2⟩ | ⟨b, cap, vs, h1, h2⟩
    · exact .inl ⟨(hβ j hj).trans h1, h2⟩
    · exact .inr ⟨b, cap, vs, (hβ j hj).trans h1, h2⟩
  | clo f ks =>
    obtain ⟨vs, h1, h2, h3⟩ := h
    refine ⟨vs, h1, h2, fun i j hj => ?_⟩
    obtain ⟨b, h4, h5⟩ := h3 i j hj
    have hne : j ≠ k := fun e => by
      subst e
      simp only [SV.names, List.any_eq_false] at hx
      exact hx j (List.mem_of_getElem? hj) (by simp)
    exact ⟨b, (hβ j hne).trans h4, h5⟩
  | emp => exact h
  | view j o n =>
    have hj : j ≠ k := fun e => by subst e; simp [SV.names] at hx
    obtain ⟨b, cap, h1, h2⟩ := h
    exact ⟨b, cap, (hβ j hj).trans h1, h2⟩
  | junk => trivial
def namesAny (k : Nat) (cs : List SV) : Bool := cs.any (SV.names k)
theorem BlkOk.frame {w : World} {D : DSet} {β β' : BMap} {k j : Nat} {cs : List SV} (hβ : ∀ i, i ≠ k → β' i = β i) (hj : j ≠ k) (hx : namesAny k cs = false) (h : BlkOk w D β j cs) : BlkOk w D β' j cs := by
  rcases h with ⟨h1, h2⟩ | ⟨b, vs, T, h1, h2, h3, h4, h5⟩
  · exact .inl ⟨(hβ j hj).trans h1, h2⟩
  · refine .inr ⟨b, vs, T, (hβ j hj).trans h1, h2, h3, fun i x hi => ?_, h5⟩
    obtain ⟨u, e1, e2, e3⟩ := h4 i x hi
    simp only [namesAny, List.any_eq_false] at hx
    exact ⟨u, e1, e2, e3.frame hβ (by simpa using hx x (List.mem_of_getElem? hi))⟩
structure Wrote (b : Nat) (w w' : World) : Prop where
  os : w'.os = w.os
  tape : w'.tape = w.tape
  output : w'.output = w.output
  size : w'.heap.size = w.heap.size
  block : ∀ k, k ≠ b → w'.heap[k]? = w.heap[k]?
  own : ∀ vs T f, w.heap[b]? = some (.cells vs T f) → ∃ vs', w'.heap[b]? = some (.cells vs' T f) ∧ vs'.size = vs.size
theorem Wrote.rep {w w' : World} {D : DSet} {b : Nat} (hw : Wrote b w w') (hp : ∀ t o, ¬ D t b o) {v : Value} {d : Dat} (h : Rep w D v d) : Rep w' D v d :=
  h.mono fun t g o hd => ⟨hd, by
    have : g ≠ b := fun e => hp t o (e ▸ hd)
    exact World.cell?_of_block (hw.block g this)⟩
theorem Wrote.repS {w w' : World} {D : DSet} {β : BMap} {b : Nat} (hw : Wrote b w w') (hp : ∀ t o, ¬ D t b o) {v : Value} {x : SV} (h : RepS w D β v x) : RepS w' D β v x := by
  cases x with
  | d x => exact hw.rep hp h
  | ref j o => exact h
  | own j t s n =>
    rcases h with h | ⟨c, cap, vs, h1, h2, h3, h4, h5⟩
    · exact .inl h
    · by_cases hc : c = b
      · subst hc
        obtain ⟨vs', e1, e2⟩ := hw.own _ _ _ h3
        exact .inr ⟨c, cap, vs', h1, h2, e1, e2.trans h4, h5⟩
      · exact .inr ⟨c, cap, vs, h1, h2, (hw.block c hc).trans h3, h4, h5⟩
  | clo f ks => exact h
  | emp => exact h
  | view j o n => exact h
  | junk => trivial
theorem Wrote.blk {w w' : World} {D : DSet} {β : BMap} {b k : Nat} {cs : List SV} (hw : Wrote b w w') (hp : ∀ t o, ¬ D t b o) (hk : β k ≠ some b) (h : BlkOk w D β k cs) : BlkOk w' D β k cs := by
  rcases h with h | ⟨c, vs, T, h1, h2, h3, h4, h5⟩
  · exact .inl h
  · have hc : c ≠ b := fun e => hk (e ▸ h1)
    refine .inr ⟨c, vs, T, h1, (hw.block c hc).trans h2, h3, fun i x hi => ?_, h5⟩
    obtain ⟨u, e1, e2, e3⟩ := h4 i x hi
    exact ⟨u, e1, e2, hw.repS hp e3⟩
end Go.Fid
