/-
  The state of a frame in pure data ('PS'), when a frame and a world stand for it ('Sim'), and regions: one after the other, and in whatever order the language leaves open. For any program.
-/
import Derived.Test.YtadkkhdnccljcaaGreatFid5
namespace Go.Fid
open Go.RowKit (Below)
structure PS where
  sl : SL
  bs : BS
structure Fr where
  lo : Nat
  hi : Nat
  rd : Option Nat
structure Ctx where
  w0 : World
  D0 : DSet
  w1 : World
  tm : Array Value
  n : Fr
inductive DfOk (B : Nat) (w : World) : List Deferred → Prop
  | nil : DfOk B w []
  | cons {q : Nat} {ds : List Deferred} (h1 : B ≤ q) (h2 : w.heap[q]? = some (Obj.deferred (some []))) (h3 : ∀ d ∈ ds, d.target ≠ .collected q) (h : DfOk B w ds) : DfOk B w ({ target := .collected q, args := #[] } :: ds)
theorem DfOk.keep {B : Nat} {w w' : World} {ds : List Deferred} (h : DfOk B w ds) (hk : ∀ q : Nat, w.heap[q]? = some (Obj.deferred (some [])) → (∃ d ∈ ds, d.target = .collected q) → w'.heap[q]? = some (Obj.deferred (some []))) : DfOk B w' ds := by
  induction h with
  | nil => exact .nil
  | cons h1 h2 h3 h ih => exact .cons h1 (hk _ h2 ⟨_, List.mem_cons_self, rfl⟩) h3 (ih fun q hq ⟨d, hd, e⟩ => hk q hq ⟨d, List.mem_cons_of_mem _ hd, e⟩)
structure Base (C : Ctx) (a : Act) (w : World) (D : DSet) : Prop where
  defers : DfOk C.w0.heap.size w a.defers
  size : a.tmps.size = C.n.hi
  keep : ∀ t g o, C.D0 t g o → w.cell? ⟨g, o, none⟩ = C.w1.cell? ⟨g, o, none⟩
  oth : ∀ (k : Nat) (o : Obj), C.w1.heap[k]? = some o → o.isCells = false → w.heap[k]? = some o
  pin : ∀ t, t < C.n.lo → a.tmps.getD t undef = C.tm.getD t undef
  below : Below C.w0.heap.size C.w0 w
  dmono : ∀ t g o, C.D0 t g o → D t g o
  dnew : ∀ t g o, D t g o → C.D0 t g o ∨ C.w0.heap.size ≤ g
  dok : DOk D w
structure SimAt (C : Ctx) (a : Act) (w : World) (st : PS) (D : DSet) (β : BMap) : Prop where
  base : Base C a w D
  mem : Mem w D β st.bs
  high : ∀ k c, bget st.bs k = some c → ∀ b, β k = some b → C.w0.heap.size ≤ b
  slots : ∀ t, RepS w D β (a.tmps.getD t undef) (sget st.sl t)
def Sim (C : Ctx) (a : Act) (w : World) (st : PS) : Prop := ∃ D β, SimAt C a w st D β
def putS (dst : Option Tmp) (x : SV) (sl : SL) : SL := match dst with
  | some d => (d, x) :: sl
  | none => sl
def dstB (n : Fr) (dst : Option Tmp) : Bool := match dst with
  | some d => Nat.ble n.lo d && Nat.blt d n.hi
  | none => true
def freshB (k : Nat) (st : PS) : Bool :=
  (st.sl.all fun p => !p.2.names k) && (st.bs.all fun p => (!(Nat.beq p.1 k)) && match p.2 with
    | some cs => !(namesAny k cs)
    | none => true)
def guardSt (ops : Array Oper) (sl : SL) (o : Oper) : Option Bool := match o.guard with
  | none => some true
  | some (j, want) => match (ops[j]?).bind (·.dst) with
    | some d => match sget sl d with
      | .d (.val (.bool b)) => some (b == want)
      | .d (.tup []) => some false
      | _ => none
    | none => none
theorem put_getD {a : Act} {dst : Option Tmp} {v : Value} {n : Fr} {t : Nat} (hs : a.tmps.size = n.hi) (hd : dstB n dst = true) : (a.put dst v).tmps.getD t undef = if dst = some t then v else a.tmps.getD t undef := by
  cases dst with
  | none => simp [Act.put]
  | some d =>
    have hlt : d < a.tmps.size := by
      simp only [dstB, Bool.and_eq_true] at hd
      rw [hs]; exact Nat.le_of_ble_eq_true hd.2
    simp only [Act.put, Array.getD_eq_getD_getElem?, Array.getElem?_setIfInBounds, Option.some.injEq]
    by_cases h : d = t
    · subst h; simp [hlt]
    · simp [h]
theorem put_size {a : Act} {dst : Option Tmp} {v : Value} : (a.put dst v).tmps.size = a.tmps.size := by
  cases dst <;> simp [Act.put]
theorem put_defers {a : Act} {dst : Option Tmp} {v : Value} : (a.put dst v).defers = a.defers := by
  cases dst <;> rfl
theorem sget_putS (dst : Option Tmp) (x : SV) (sl : SL) (t : Tmp) : sget (putS dst x sl) t = if dst = some t then x else sget sl t := by
  cases dst with
  | none => simp [putS]
  | some d => simp only [putS, sget_cons, Option.some.injEq]
theorem Base.put {C : Ctx} {a : Act} {w : World} {D : DSet} (h : Base C a w D) {dst : Option Tmp} (hd : dstB C.n dst = true) (v : Value) : Base C (a.put dst v) w D :=
  ⟨put_defers.symm ▸ h.defers, put_size.trans h.size, h.keep, h.oth, fun t ht => by
    rw [put_getD h.size hd, if_neg (fun e => by subst e; simp only [dstB, Bool.and_eq_true] at hd; have := Nat.le_of_ble_eq_true hd.1; omega)]
    exact h.pin t ht, h.below, h.dmono, h.dnew, h.dok⟩
theorem Base.up {C : Ctx} {a : Act} {w w' : World} {D D' : DSet} (h : Base C a w D) (hb : Below w.heap.size w w') (hu : DUp D D' w w') : Base C a w' D' :=
  ⟨DfOk.keep h.defers (fun q hq _ => (hb.block q (heap_lt hq)).trans hq), h.size, fun t g o hd => (cell_below hb (h.dok t g o (h.dmono _ _ _ hd))).trans (h.keep t g o hd), fun k o hk ho => (hb.block k (heap_lt (h.oth k o hk ho))).trans (h.oth k o hk ho), h.pin,
    h.below.trans (hb.mono h.below.size), fun t g o hd => hu.up _ _ _ (h.dmono _ _ _ hd), fun t g o hd => by
    rcases hu.new t g o hd with h1 | h1
    · exact h.dnew t g o h1
    · have := h.below.size; exact .inr (by omega), hu.ok h.dok hb.size⟩
theorem Base.wrote {C : Ctx} {a : Act} {w w' : World} {D : DSet} {b : Nat} (h : Base C a w D) (hw : Wrote b w w') (hb : C.w0.heap.size ≤ b) (hc : ∃ vs T f, w.heap[b]? = some (.cells vs T f)) (hp : ∀ t o, ¬ D t b o) : Base C a w' D := by
  obtain ⟨vs, T, f, hc⟩ := hc
  refine ⟨DfOk.keep h.defers (fun q hq _ => ?_), h.size, fun t g o hd => ?_, fun k o hk ho => ?_, h.pin, ⟨hw.os.trans h.below.os, hw.tape.trans h.below.tape, hw.output.trans h.below.output, by have := h.below.size; have := hw.size; omega, fun k hk => (hw.block k (by omega)).trans (h.below.block k hk)⟩, h.dmono, h.dnew, fun t g o hd => by have := h.dok t g o hd; have := hw.size; omega⟩
  · have hne : q ≠ b := fun e => by subst e; rw [hc] at hq; cases hq
    exact (hw.block q hne).trans hq
  · have hne : g ≠ b := fun e => hp t o (e ▸ h.dmono _ _ _ hd)
    exact (World.cell?_of_block (hw.block g hne)).trans (h.keep t g o hd)
  · have h1 := h.oth k o hk ho
    have hne : k ≠ b := fun e => by subst e; rw [hc] at h1; injection h1 with h1; subst h1; cases ho
    exact (hw.block k hne).trans h1
theorem Base.draw {C : Ctx} {a : Act} {w : World} {D : DSet} (h : Base C a w D) : Base C a { w with drawn := w.drawn + 1 } D := ⟨h.defers.keep (fun _ hq _ => hq), h.size, h.keep, h.oth, h.pin, ⟨h.below.os, h.below.tape, h.below.output, h.below.size, h.below.block⟩, h.dmono, h.dnew, h.dok⟩
theorem blk_heap {w : World} {D : DSet} {β : BMap} {k b : Nat} {cs : List SV} (h : BlkOk w D β k cs) (hk : β k = some b) : ∃ vs T f, w.heap[b]? = some (.cells vs T f) := by
  rcases h with ⟨h1, _⟩ | ⟨b', vs, T, h1, h2, _⟩
  · rw [hk] at h1; cases h1
  · rw [hk] at h1; injection h1 with h1; subst h1; exact ⟨vs, T, _, h2⟩
theorem below_draw (w : World) : Below w.heap.size w { w with drawn := w.drawn + 1 } := ⟨rfl, rfl, rfl, Nat.le_refl _, fun _ _ => rfl⟩
theorem rep_tup0 {w : World} {D : DSet} {v : Value} (h : Rep w D v (.tup [])) : v = .tuple #[] := by
  cases h with
  | tup vs hl hr => rw [List.eq_nil_of_length_eq_zero hl]
theorem rep_undef (w : World) (D : DSet) : Rep w D undef (.tup []) := Rep.tup [] rfl (by simp)
theorem wanted_of {ops : Array Oper} {sl : SL} {o : Oper} {a : Act} {w : World} {D : DSet} {β : BMap} {bv : Bool} (hg : guardSt ops sl o = some bv)
    (hs : ∀ j want d, o.guard = some (j, want) → (ops[j]?).bind (·.dst) = some d → RepS w D β (a.tmps.getD d undef) (sget sl d)) : Region.wanted o (yielded ops a.tmps) = bv := by
  unfold guardSt at hg
  unfold Region.wanted
  cases h : o.guard with
  | none => simp [h] at hg; simp [hg]
  | some p =>
    obtain ⟨j, want⟩ := p
    simp only [h] at hg
    cases hj : (ops[j]?).bind (·.dst) with
    | none => simp [hj] at hg
    | some d =>
      have hr := hs j want d h hj
      simp only [hj] at hg
      split at hg
      · rename_i b hb
        rw [hb] at hr
        have hv := rep_bool hr
        have hx : a.tmps[d]? = some (.bool b) := by
          rw [Array.getD_eq_getD_getElem?] at hv
          cases hq : a.tmps[d]? with
          | none => simp [hq, undef] at hv
          | some u => simp [hq] at hv; rw [hv]
        injection hg with hg
        subst hg
        simp [yielded, hj, hx]
      · rename_i hb
        rw [hb] at hr
        have hv : a.tmps.getD d undef = .tuple #[] := rep_tup0 hr
        injection hg with hg
        subst hg
        have hx : yielded ops a.tmps j = none := by
          unfold yielded
          rw [hj]
          rw [Array.getD_eq_getD_getElem?] at hv
          cases hq : a.tmps[d]? with
          | none => simp [hq]
          | some u => simp [hq] at hv; simp [hq, hv]
        simp [hx]
      · cases hg
inductive Step (P : Program) (n : Fr) (ops : Array Oper) (st : PS) (o : Oper) : PS → Prop
  | e {rd : List (Nat × List SV)} {x : SV} (h : EOk P o (sget st.sl) rd x) (hg : guardSt ops st.sl o = some true) (hd : dstB n o.dst = true) (hrd : ∀ p ∈ rd, bget st.bs p.1 = some p.2) : Step P n ops st o ⟨putS o.dst x st.sl, st.bs⟩
  | n {k : Nat} {cs : List SV} {x : SV} (h : NOk P o (sget st.sl) k cs x) (hg : guardSt ops st.sl o = some true) (hd : dstB n o.dst = true) (hf : freshB k st = true) : Step P n ops st o ⟨putS o.dst x st.sl, (k, some cs) :: st.bs⟩
  | t {k : Nat} {old cs : List SV} (h : TOk P o (sget st.sl) k old cs) (hg : guardSt ops st.sl o = some true) (hd : dstB n o.dst = true) (hb : bget st.bs k = some old) : Step P n ops st o ⟨putS o.dst .junk st.sl, (k, some cs) :: st.bs⟩
  | skip (hg : guardSt ops st.sl o = some false) (hd : dstB n o.dst = true) : Step P n ops st o ⟨putS o.dst (.d (.tup [])) st.sl, st.bs⟩
  | sem {st' : PS} (h : ∀ (C : Ctx) (a : Act) (w : World) (Q : Exit → Act → World → Prop), C.n = n → Sim C a w st → o.wp P a w (fun a' w' => Sim C a' w' st') Q) (hg : guardSt ops st.sl o = some true) : Step P n ops st o st'
inductive Steps (P : Program) (n : Fr) (ops : Array Oper) : PS → List Oper → PS → Prop
  | nil {st : PS} : Steps P n ops st [] st
  | cons {st st1 st2 : PS} {o : Oper} {l : List Oper} (h : Step P n ops st o st1) (hr : Steps P n ops st1 l st2) : Steps P n ops st (o :: l) st2
theorem fresh_slot {k : Nat} {st : PS} (h : freshB k st = true) (t : Nat) : (sget st.sl t).names k = false := by
  simp only [freshB, Bool.and_eq_true, List.all_eq_true] at h
  have : ∀ (l : SL), (∀ p ∈ l, (!p.2.names k) = true) → (sget l t).names k = false := by
    intro l
    induction l with
    | nil => intro _; rfl
    | cons p l ih =>
      intro hl
      obtain ⟨j, x⟩ := p
      rw [sget_cons]
      split
      · simpa using hl (j, x) (by simp)
      · exact ih fun q hq => hl q (by simp [hq])
  exact this st.sl h.1
theorem bget_mem {bs : BS} {k : Nat} {c : List SV} (h : bget bs k = some c) : (k, some c) ∈ bs := by
  induction bs with
  | nil => simp [bget] at h
  | cons p bs ih =>
    obtain ⟨j, x⟩ := p
    rw [bget_cons] at h
    split at h
    · rename_i e; subst e; subst h; simp
    · exact List.mem_cons_of_mem _ (ih h)
theorem fresh_blk {k : Nat} {st : PS} (h : freshB k st = true) {j : Nat} {c : List SV} (hj : bget st.bs j = some c) : j ≠ k ∧ namesAny k c = false := by
  simp only [freshB, Bool.and_eq_true, List.all_eq_true] at h
  have := h.2 _ (bget_mem hj)
  simp only [Bool.not_eq_true'] at this
  refine ⟨beq_false_ne this.1, this.2⟩
theorem Mem.new {w w' : World} {D D' : DSet} {β : BMap} {bs : BS} {k b : Nat} {cs : List SV} (h : Mem w D β bs) (hb : Below w.heap.size w w') (hu : DUp D D' w w') (hD : DOk D w) (hge : w.heap.size ≤ b)
    (hn : ∀ j c, bget bs j = some c → j ≠ k ∧ namesAny k c = false) (hk : BlkOk w' D' (β.set k b) k cs) : Mem w' D' (β.set k b) ((k, some cs) :: bs) := by
  have hβ : ∀ j, j ≠ k → (β.set k b) j = β j := fun j hj => by simp [BMap.set, hj]
  have hlt : ∀ j c, bget bs j = some c → ∀ b', β j = some b' → b' < w.heap.size ∨ c = [] := fun j c hj b' hb' => by
    rcases h.ok j c hj with ⟨h1, _⟩ | ⟨b2, vs, T, h1, h2, _⟩
    · rw [h1] at hb'; cases hb'
    · rw [h1] at hb'; injection hb' with e; subst e; exact .inl (heap_lt h2)
  have hlt' : ∀ j c, bget bs j = some c → ∀ b', β j = some b' → b' < w.heap.size := fun j c hj b' hb' => by
    rcases h.ok j c hj with ⟨h1, _⟩ | ⟨b2, vs, T, h1, h2, _⟩
    · rw [h1] at hb'; cases hb'
    · rw [h1] at hb'; injection hb' with e; subst e; exact heap_lt h2
  refine ⟨fun j c hj => ?_, fun j1 j2 c1 c2 h1 h2 b' e1 e2 => ?_⟩
  · rw [bget_cons] at hj
    split at hj
    · rename_i e; subst e; injection hj with hj; subst hj; exact hk
    · obtain ⟨hne, hna⟩ := hn j c hj
      exact ((h.ok j c hj).up hb hu hD).frame hβ hne hna
  · rw [bget_cons] at h1 h2
    by_cases c1' : k = j1 <;> by_cases c2' : k = j2
    · omega
    · rw [if_neg c2'] at h2
      subst c1'
      rw [hβ j2 (fun e => c2' e.symm)] at e2
      have := hlt' j2 _ h2 b' e2
      simp [BMap.set] at e1
      omega
    · rw [if_neg c1'] at h1
      subst c2'
      rw [hβ j1 (fun e => c1' e.symm)] at e1
      have := hlt' j1 _ h1 b' e1
      simp [BMap.set] at e2
      omega
    · rw [if_neg c1'] at h1
      rw [if_neg c2'] at h2
      rw [hβ j1 (fun e => c1' e.symm)] at e1
      rw [hβ j2 (fun e => c2' e.symm)] at e2
      exact h.inj j1 j2 _ _ h1 h2 b' e1 e2
theorem Mem.write {w w' : World} {D : DSet} {β : BMap} {bs : BS} {k b : Nat} {old cs : List SV} (h : Mem w D β bs) (hw : Wrote b w w') (hp : ∀ t o, ¬ D t b o) (hkb : β k = some b) (hold : bget bs k = some old) (hk : BlkOk w' D β k cs) : Mem w' D β ((k, some cs) :: bs) := by
  refine ⟨fun j c hj => ?_, fun j1 j2 c1 c2 h1 h2 b' e1 e2 => ?_⟩
  · rw [bget_cons] at hj
    split at hj
    · rename_i e; subst e; injection hj with hj; subst hj; exact hk
    · rename_i hne
      exact hw.blk hp (fun e => hne (h.inj k j _ _ hold hj b hkb e)) (h.ok j c hj)
  · have g : ∀ j c, bget ((k, some cs) :: bs) j = some c → ∃ c', bget bs j = some c' := fun j c hj => by
      rw [bget_cons] at hj
      split at hj
      · rename_i e; subst e; exact ⟨_, hold⟩
      · exact ⟨_, hj⟩
    obtain ⟨d1, g1⟩ := g j1 c1 h1
    obtain ⟨d2, g2⟩ := g j2 c2 h2
    exact h.inj j1 j2 d1 d2 g1 g2 b' e1 e2
section
variable {P : Program} {n : Fr} {ops : Array Oper} {C : Ctx}
theorem step_sound {st st' : PS} {o : Oper} (h : Step P n ops st o st') (hn : C.n = n) {a : Act} {w : World} (hs : Sim C a w st) {Q : Exit → Act → World → Prop} {K : Act → World → Prop} (hk : ∀ a' w', Sim C a' w' st' → K a' w') :
    if Region.wanted o (yielded ops a.tmps) then o.wp P a w K Q else K (a.put o.dst undef) w := by
  have hsim := hs
  obtain ⟨D, β, hs⟩ := hs
  have hop : Opnds w D β a o (sget st.sl) := fun y _ => by
    cases y with
    | tmp t => exact hs.slots t
    | const v => exact Rep.val v
    | func f => exact Rep.val _
    | global g => trivial
  have hwant : ∀ bv, guardSt ops st.sl o = some bv → Region.wanted o (yielded ops a.tmps) = bv := fun bv hg => wanted_of hg fun j want d _ _ => hs.slots d
  subst hn
  cases h with
  | e h hg hd hrd =>
    rename_i rd x
    rw [hwant true hg, if_pos rfl]
    refine Oper.wp_mono (fun a' w' hp => hk a' w' ?_) (h a w D β Q hop (fun p hp => hs.mem.ok _ _ (hrd p hp)) hs.base.dok)
    obtain ⟨v, D', rfl, h1, h2, h3⟩ := hp
    refine ⟨D', β, (hs.base.up h1 h2).put hd _, hs.mem.up h1 h2 hs.base.dok, hs.high, fun t => ?_⟩
    rw [put_getD hs.base.size hd, sget_putS]
    split
    · exact h3
    · exact (hs.slots t).up h1 h2 hs.base.dok
  | n h hg hd hf =>
    rename_i k cs x
    rw [hwant true hg, if_pos rfl]
    refine Oper.wp_mono (fun a' w' hp => hk a' w' ?_) (h a w D β Q hop hs.base.dok)
    obtain ⟨v, D', b, rfl, h1, h2, h3, h4, h5, h6, h7⟩ := hp
    have hβ : ∀ j, j ≠ k → (β.set k b) j = β j := fun j hj => by simp [BMap.set, hj]
    refine ⟨D', β.set k b, (hs.base.up h1 h2).put hd _, hs.mem.new h1 h2 hs.base.dok h3 (fun j c hj => fresh_blk hf hj) h6, fun j c hj b' hb' => ?_, fun t => ?_⟩
    · rw [bget_cons] at hj
      split at hj
      · rename_i e; subst e
        simp [BMap.set] at hb'
        have := hs.base.below.size
        omega
      · rename_i hne
        rw [hβ j (fun e => hne e.symm)] at hb'
        exact hs.high j c hj b' hb'
    · rw [put_getD hs.base.size hd, sget_putS]
      split
      · exact h7
      · exact ((hs.slots t).up h1 h2 hs.base.dok).frame hβ (fresh_slot hf t)
  | t h hg hd hb =>
    rename_i k old cs
    rw [hwant true hg, if_pos rfl]
    refine Oper.wp_mono (fun a' w' hp => hk a' w' ?_) (h a w D β Q hop (hs.mem.ok _ _ hb) hs.base.dok)
    obtain ⟨rfl, b, h1, h2, h3, h4⟩ := hp
    refine ⟨D, β, (hs.base.wrote h2 (hs.high k _ hb b h1) (blk_heap (hs.mem.ok _ _ hb) h1) h3).put hd _, hs.mem.write h2 h3 h1 hb h4, fun j c hj b' hb' => ?_, fun t => ?_⟩
    · rw [bget_cons] at hj
      split at hj
      · rename_i e; subst e; exact hs.high k _ hb b' hb'
      · exact hs.high j c hj b' hb'
    · rw [put_getD hs.base.size hd, sget_putS]
      split
      · trivial
      · exact h2.repS h3 (hs.slots t)
  | skip hg hd =>
    rw [hwant false hg]
    refine hk _ _ ⟨D, β, hs.base.put hd _, hs.mem, hs.high, fun t => ?_⟩
    rw [put_getD hs.base.size hd, sget_putS]
    split
    · exact rep_undef _ _
    · exact hs.slots t
  | sem h hg =>
    rw [hwant true hg, if_pos rfl]
    exact Oper.wp_mono (fun a' w' hp => hk a' w' hp) (h C a w Q rfl hsim)
def fen (n : Fr) : Fence := { Fence.wide with round := n.rd }
def plainB (o : Oper) : Bool := match o.op with
  | .defer _ => false
  | _ => true
theorem op_lift {N : Nat} {o : Oper} {a : Act} {w : World} {K : Act → World → Prop} {Q : Exit → Act → World → Prop} (hp : plainB o = true) (h : o.wp P a w K Q) : o.wpIn (fen n) N P a w K Q := by
  have hne : ∀ c, o.op ≠ .defer c := fun c e => by simp [plainB, e] at hp
  refine ⟨fun _ _ => trivial, ?_⟩
  rw [Oper.semAt_eq _ _ _ hne]
  unfold Oper.wp at h
  generalize (execOp a.eval o).run P w = r at h
  cases r with
  | ok x w' =>
    cases x <;> simp only [Oper.upon] at h
    case value v => exact h
    case skip => exact h
    case defer d => exact h
    case enter f args => exact ⟨fun e => by simp [fen, Fence.wide] at e, callsIn_wide.2 h⟩
    case row row args =>
      refine ⟨fun e => by simp [fen, Fence.wide] at e, fun c cs _ => ?_⟩
      obtain ⟨v, w'', h1, h2⟩ := h c cs
      exact ⟨v, w'', h1, stepsIn_wide.2 h2⟩
  | halt x w' => cases x <;> simp only [Oper.upon] at h; exact h
theorem steps_sound {st st' : PS} {l : List Oper} (h : Steps P n ops st l st') (hp : l.all plainB = true) (hn : C.n = n) {N : Nat} {Q : Exit → Act → World → Prop} (hk : ∀ a' w', Sim C a' w' st' → Q .normal a' w') : ∀ {a : Act} {w : World}, Sim C a w st → wpListIn (fen n) N P ops Q l a w := by
  induction h with
  | nil => intro a w hs; exact wpListIn_nil (hk a w hs)
  | cons h hr ih =>
    intro a w hs
    simp only [List.all_cons, Bool.and_eq_true] at hp
    refine wpListIn_step fun K hK => ?_
    have h1 := step_sound h hn hs (Q := Q) fun a' w' hs' => hK a' w' (ih hp.2 hk hs')
    split
    · rename_i e; rw [if_pos e] at h1; exact op_lift hp.1 h1
    · rename_i e; rw [if_neg e] at h1; exact ⟨fun _ _ => trivial, h1⟩
end
end Go.Fid
