/-
  Operations that build, call, make and write. For any program.
-/
import Derived.Test.YtadkkhdnccljcaaGreatFid3
namespace Go.Fid
open Go.RowKit (Below)
section
variable {P : Program} {o : Oper} {S : Nat → SV}
def Dat.ok1 : Dat → Bool
  | .val u => u.oneCell'
  | .tup _ => false
  | _ => true
theorem cells_one {v : Value} (h : v.oneCell' = true) : v.cells = #[v] := by cases v <;> first | rfl | (simp [Value.oneCell'] at h)
theorem cells_of_rep {w : World} {D : DSet} {v : Value} {d : Dat} (h : Rep w D v d) (h1 : d.ok1 = true) :
    ∃ vs : List Value, v.cells = vs.toArray ∧ vs.length = d.cells.length ∧ (∀ v ∈ vs, v.oneCell' = true) ∧ ∀ (i : Nat) v y, vs[i]? = some v → d.cells[i]? = some y → Rep w D v y := by
  have one : v.oneCell' = true → d.cells = [d] → _ := fun ho hc => (⟨[v], by simp [cells_one ho], by simp [hc], by simpa using ho, fun i u y hu hy => by
    rw [hc] at hy
    cases i with
    | zero => simp at hu hy; subst hu; subst hy; exact h
    | succ i => simp at hu⟩ : ∃ vs : List Value, v.cells = vs.toArray ∧ vs.length = d.cells.length ∧ (∀ v ∈ vs, v.oneCell' = true) ∧ ∀ (i : Nat) v y, vs[i]? = some v → d.cells[i]? = some y → Rep w D v y)
  cases h with
  | val v => exact one h1 rfl
  | sl g off u hn hc hm hs ha hD hu h1' hr => exact one rfl rfl
  | agg vs hl h1' hr => exact ⟨vs, rfl, hl, h1', hr⟩
  | tup vs hl hr => simp [Dat.ok1] at h1
  | cptr g p u hD hu h1' hr => exact one rfl rfl
def ZOk : List Value → List Dat → Prop
  | [], [] => True
  | v :: vs, d :: ds => ((d = .val v ∧ v.oneCell' = true) ∨ (v = .slice none 0 0 ∧ ∃ t s, d = .sl t s [])) ∧ ZOk vs ds
  | _, _ => False
theorem zok_spec {w : World} {D : DSet} : ∀ {vs : List Value} {ds : List Dat}, ZOk vs ds → vs.length = ds.length ∧ (∀ v ∈ vs, v.oneCell' = true) ∧ ∀ (i : Nat) v d, vs[i]? = some v → ds[i]? = some d → Rep w D v d
  | [], [], _ => ⟨rfl, by simp, by simp⟩
  | v :: vs, d :: ds, ⟨h, hr⟩ => by
    obtain ⟨h1, h2, h3⟩ := zok_spec (w := w) (D := D) hr
    refine ⟨by simp [h1], fun u hu => ?_, fun i u e hu he => ?_⟩
    · rcases List.mem_cons.1 hu with rfl | hu
      · rcases h with ⟨_, h⟩ | ⟨rfl, _⟩
        · exact h
        · rfl
      · exact h2 u hu
    · cases i with
      | zero =>
        simp at hu he
        subst hu; subst he
        rcases h with ⟨rfl, _⟩ | ⟨rfl, t, s, rfl⟩
        · exact .val _
        · exact rep_nil w D t s
      | succ i => exact h3 i u e (by simpa using hu) (by simpa using he)
  | [], _ :: _, h => h.elim
  | _ :: _, [], h => h.elim
def zeroB (P : Program) (T : TypeId) : Option (List Value) :=
  match P.info? T with
  | some i => i.zero.map fun z => z.cells.toList
  | none => none
theorem zero_of {T : TypeId} {vs : List Value} (h : zeroB P T = some vs) : ∃ i z, P.info? T = some i ∧ i.zero = some z ∧ z.cells = vs.toArray := by
  unfold zeroB at h
  split at h
  · rename_i i hi
    rw [Option.map_eq_some_iff] at h
    obtain ⟨z, h1, h2⟩ := h
    exact ⟨i, z, hi, h1, by rw [← h2]⟩
  · cases h
theorem run_zero {T : TypeId} {i : TypeInfo} {z : Value} (h : P.info? T = some i) (hz : i.zero = some z) (w : World) : (zeroValue T).run P w = .ok z w := by
  simp [zeroValue, typeInfo, h, hz]
def patch {α : Type} (l : List α) (off : Nat) (new : List α) : List α := l.take off ++ new ++ l.drop (off + new.length)
theorem patch_length {α : Type} {l : List α} {off : Nat} {new : List α} (h : off + new.length ≤ l.length) : (patch l off new).length = l.length := by
  simp [patch]; omega
theorem patch_get {α : Type} {l : List α} {off : Nat} {new : List α} (h : off + new.length ≤ l.length) (i : Nat) : (patch l off new)[i]? = if i < off then l[i]? else if i < off + new.length then new[i - off]? else l[i]? := by
  unfold patch
  rw [List.append_assoc]
  by_cases h1 : i < off
  · rw [if_pos h1, List.getElem?_append_left (by simp; omega), List.getElem?_take_of_lt h1]
  · rw [if_neg h1, List.getElem?_append_right (by simp; omega)]
    have e1 : i - (l.take off).length = i - off := by simp; omega
    rw [e1]
    by_cases h2 : i < off + new.length
    · rw [if_pos h2, List.getElem?_append_left (by omega)]
    · rw [if_neg h2, List.getElem?_append_right (by omega), List.getElem?_drop]
      congr 1; omega
theorem foldl_set (off : Nat) : ∀ (new : List Value) (j : Nat) (cs : Array Value), off + j + new.length ≤ cs.size → ((new.zipIdx j).foldl (fun cs (c, j) => cs.setIfInBounds (off + j) c) cs).toList = patch cs.toList (off + j) new
  | [], j, cs, _ => by simp [patch]
  | c :: new, j, cs, h => by
    simp only [List.length_cons] at h
    rw [List.zipIdx_cons, List.foldl_cons, foldl_set off new (j + 1) _ (by simp; omega)]
    apply List.ext_getElem?
    intro i
    rw [patch_get (by simp; omega), patch_get (by simp; omega)]
    simp only [Array.toList_setIfInBounds, List.length_cons]
    by_cases h1 : i < off + j
    · rw [if_pos (by omega), if_pos h1, List.getElem?_set_ne (by omega)]
    · rw [if_neg h1]
      by_cases h2 : i = off + j
      · subst h2
        rw [if_pos (by omega), if_pos (by omega), List.getElem?_set_self (by simp; omega)]
        simp
      · by_cases h3 : i < off + j + (new.length + 1)
        · rw [if_neg (by omega), if_pos (by omega), if_pos h3]
          obtain ⟨q, hq⟩ : ∃ q, i - (off + j) = q + 1 := ⟨i - (off + j) - 1, by omega⟩
          rw [hq, List.getElem?_cons_succ]
          congr 1; omega
        · rw [if_neg (by omega), if_neg (by omega), if_neg h3, List.getElem?_set_ne (by omega)]
def fillL {α : Type} (place : Nat → Option (Nat × Nat)) (cells : List α) : List (Nat × List α) → Option (List α)
  | [] => some cells
  | (i, l) :: rest =>
    match place i with
    | none => none
    | some (off, size) => bif Nat.beq l.length size && Nat.ble (off + l.length) cells.length then fillL place (patch cells off l) rest else none
def RepL (w : World) (D : DSet) (vs : List Value) (ds : List Dat) : Prop := vs.length = ds.length ∧ (∀ v ∈ vs, v.oneCell' = true) ∧ ∀ (i : Nat) v d, vs[i]? = some v → ds[i]? = some d → Rep w D v d
theorem repL_zero {w : World} {D : DSet} {zv : List Value} {zd : List Dat} (h : ZOk zv zd) : RepL w D zv.toArray.toList zd := by
  rw [List.toList_toArray]
  exact zok_spec h
theorem RepL.patch {w : World} {D : DSet} {vs us : List Value} {ds es : List Dat} {off : Nat} (h : RepL w D vs ds) (k : RepL w D us es) (hle : off + es.length ≤ ds.length) : RepL w D (patch vs off us) (patch ds off es) := by
  obtain ⟨h1, h2, h3⟩ := h
  obtain ⟨k1, k2, k3⟩ := k
  refine ⟨?_, fun v hv => ?_, fun i v d hv hd => ?_⟩
  · rw [patch_length (by omega), patch_length hle, h1]
  · simp only [Fid.patch, List.append_assoc, List.mem_append] at hv
    rcases hv with hv | hv | hv
    · exact h2 v (List.mem_of_mem_take hv)
    · exact k2 v hv
    · exact h2 v (List.mem_of_mem_drop hv)
  · rw [patch_get (by omega)] at hv
    rw [patch_get hle] at hd
    by_cases c1 : i < off
    · rw [if_pos c1] at hv hd; exact h3 i v d hv hd
    · rw [if_neg c1] at hv hd
      rw [k1] at hv
      by_cases c2 : i < off + es.length
      · rw [if_pos c2] at hv hd; exact k3 _ v d hv hd
      · rw [if_neg c2] at hv hd; exact h3 i v d hv hd
theorem fill_spec {w : World} {D : DSet} (place : Nat → Option (Nat × Nat)) : ∀ (ps : List (Nat × Value)) (pd : List (Nat × List Dat)) (cs : Array Value) (ds r : List Dat),
    ps.map (·.1) = pd.map (·.1) → (∀ (i : Nat) p q, ps[i]? = some p → pd[i]? = some q → ∃ vs : List Value, p.2.cells = vs.toArray ∧ RepL w D vs q.2) → RepL w D cs.toList ds → fillL place ds pd = some r →
    ∃ cs', Instr.fill place cs ps = some cs' ∧ RepL w D cs'.toList r
  | [], [], cs, ds, r, _, _, h, hf => by simp [fillL] at hf; subst hf; exact ⟨cs, rfl, h⟩
  | [], _ :: _, _, _, _, hm, _, _, _ => by simp at hm
  | _ :: _, [], _, _, _, hm, _, _, _ => by simp at hm
  | (i, v) :: ps, (j, l) :: pd, cs, ds, r, hm, hp, h, hf => by
    simp only [List.map_cons, List.cons.injEq] at hm
    obtain ⟨rfl, hm⟩ := hm
    obtain ⟨vs, e1, e2⟩ := hp 0 (i, v) (i, l) rfl rfl
    simp only [fillL] at hf
    cases hpl : place i with
    | none => simp [hpl] at hf
    | some os =>
      obtain ⟨off, size⟩ := os
      simp only [hpl] at hf
      cases hc : (Nat.beq l.length size && Nat.ble (off + l.length) ds.length) with
      | false => simp [hc] at hf
      | true =>
        simp only [hc, cond_true] at hf
        simp only [Bool.and_eq_true] at hc
        have hs : l.length = size := Nat.eq_of_beq_eq_true hc.1
        have hle : off + l.length ≤ ds.length := Nat.le_of_ble_eq_true hc.2
        have e1' : v.cells = vs.toArray := e1
        have hvl : vs.length = l.length := e2.1
        have hcl : cs.size = ds.length := by have := h.1; simpa using this
        have hfold := foldl_set off vs 0 cs (by omega)
        have hnew : RepL w D ((vs.zipIdx 0).foldl (fun cs (c, j) => cs.setIfInBounds (off + j) c) cs).toList (Fid.patch ds off l) := by
          rw [hfold, Nat.add_zero]
          exact h.patch e2 hle
        obtain ⟨cs', f1, f2⟩ := fill_spec place ps pd _ (Fid.patch ds off l) r hm (fun i p q a b => hp (i + 1) p q (by simpa using a) (by simpa using b)) hnew hf
        refine ⟨cs', ?_, f2⟩
        simp only [Instr.fill, hpl, e1']
        rw [if_neg (by simp; omega)]
        have : (vs.toArray.zipIdx.foldl (fun cs (c, j) => cs.setIfInBounds (off + j) c) cs) = ((vs.zipIdx 0).foldl (fun cs (c, j) => cs.setIfInBounds (off + j) c) cs) := by
          rw [← Array.foldl_toList]; simp
        rw [this]
        exact f1
def placesB (P : Program) (T : TypeId) : Option (List (Nat × Nat)) :=
  match P.underlying T with
  | some (.struct fs) => fs.toList.mapM fun f => (P.info? f.type).map fun i => (f.offset, i.size)
  | _ => none
theorem run_places (fs : List Field) : ∀ {l : List (Nat × Nat)}, (fs.mapM fun f => (P.info? f.type).map fun i => (f.offset, i.size)) = some l → ∀ w, (fs.mapM (fun f => do pure (f.offset, ← sizeOf f.type) : Field → Sem (Nat × Nat))).run P w = .ok l w := by
  induction fs with
  | nil => intro l h w; simp at h; subst h; simp
  | cons f fs ih =>
    intro l h w
    simp only [List.mapM_cons, Option.bind_eq_bind, Option.bind_eq_some_iff, Option.map_eq_some_iff, Option.pure_def, Option.some.injEq] at h
    obtain ⟨x, ⟨i, h1, rfl⟩, l', h2, rfl⟩ := h
    simp only [List.mapM_cons, Sem.run_bind, run_sizeOf h1, Result.andThen_ok, Sem.run_pure, ih h2]
theorem opnds_parts {a : Act} {w : World} {D : DSet} {ps : List (Nat × Operand)} {pd : List (Nat × Dat)} (hps : ps.map (fun p => (p.1, ev S p.2)) = pd.map (fun p => (p.1, .d p.2))) (hok : pd.all (fun p => p.2.ok1) = true)
    {β : BMap} (hop : ∀ p ∈ ps, RepS w D β (a.eval p.2) (ev S p.2)) : (ps.map fun p => (p.1, a.eval p.2)).map (·.1) = (pd.map fun p => (p.1, p.2.cells)).map (·.1) ∧
      ∀ (i : Nat) p q, (ps.map fun p => (p.1, a.eval p.2))[i]? = some p → (pd.map fun p => (p.1, p.2.cells))[i]? = some q → ∃ vs : List Value, p.2.cells = vs.toArray ∧ RepL w D vs q.2 := by
  constructor
  · have := congrArg (List.map (fun x : Nat × SV => x.1)) hps
    simpa [List.map_map, Function.comp_def] using this
  · intro i p q hp hq
    rw [List.getElem?_map, Option.map_eq_some_iff] at hp hq
    obtain ⟨p', hp', rfl⟩ := hp
    obtain ⟨q', hq', rfl⟩ := hq
    have hi := congrArg (fun l : List (Nat × SV) => l[i]?) hps
    simp only [List.getElem?_map, hp', hq', Option.map_some, Option.some.injEq, Prod.mk.injEq] at hi
    have hr := hop p' (List.mem_of_getElem? hp')
    rw [hi.2] at hr
    have h1 : q'.2.ok1 = true := by
      rw [List.all_eq_true] at hok
      exact hok q' (List.mem_of_getElem? hq')
    obtain ⟨vs, e1, e2, e3, e4⟩ := cells_of_rep hr h1
    exact ⟨vs, e1, e2, e3, e4⟩
theorem repL_agg {w : World} {D : DSet} {β : BMap} {vs : Array Value} {ds : List Dat} (h : RepL w D vs.toList ds) : RepS w D β (.agg vs) (.d (.agg ds)) :=
  (Rep.agg vs.toList h.1 h.2.1 h.2.2 : Rep w D (.agg vs.toList.toArray) (.agg ds))
theorem e_build {T : TypeId} {ps : List (Nat × Operand)} {pd : List (Nat × Dat)} {pl : List (Nat × Nat)} {zv : List Value} {zd r : List Dat} (ho : o.op = .build T ps.toArray) (hT : placesB P T = some pl) (hz : zeroB P T = some zv) (hzd : ZOk zv zd)
    (hps : ps.map (fun p => (p.1, ev S p.2)) = pd.map (fun p => (p.1, .d p.2))) (hok : pd.all (fun p => p.2.ok1) = true) (hr : fillL (fun i => pl[i]?) zd (pd.map fun p => (p.1, p.2.cells)) = some r) : EOk P o S [] (.d (.agg r)) :=
  EOk.same fun a w D β hop _ => by
    obtain ⟨i, z, z1, z2, z3⟩ := zero_of hz
    unfold placesB at hT
    split at hT
    case h_2 => cases hT
    rename_i fs hfs
    have hpl := run_places (P := P) fs.toList hT w
    obtain ⟨q1, q2⟩ := opnds_parts (a := a) (w := w) (D := D) (β := β) hps hok (fun p hp => hop p.2 (by
      simp only [ho, Op.operands]
      exact List.mem_toArray.2 (by simpa using List.mem_map_of_mem (f := (·.2)) hp)))
    obtain ⟨cs', f1, f2⟩ := fill_spec (fun i => pl[i]?) _ _ zv.toArray zd r q1 q2 (repL_zero hzd) hr
    refine ⟨.agg cs', ?_, repL_agg f2⟩
    have hm : (fs.mapM (fun f => do pure (f.offset, ← sizeOf f.type) : Field → Sem (Nat × Nat))).run P w = .ok pl.toArray w := by
      rw [Array.mapM_eq_mapM_toList, Sem.run_map, hpl]
      rfl
    have hpp : (ps.toArray.map fun p => (p.1, a.eval p.2)).toList = ps.map fun p => (p.1, a.eval p.2) := by simp
    simp only [execOp, ho, Instr.build, Sem.run_bind, run_zero z1 z2, Result.andThen_ok, run_underlying hfs, hm, z3]
    have hf' : Instr.fill (fun x => pl.toArray[x]?) zv.toArray ((ps.toArray.map fun p => (p.1, a.eval p.2)).toList) = some cs' := by
      rw [hpp]
      simpa using f1
    rw [hf']
    rfl
theorem e_build_arr {T E : TypeId} {n s : Nat} {ps : List (Nat × Operand)} {pd : List (Nat × Dat)} {zv : List Value} {zd r : List Dat} (ho : o.op = .build T ps.toArray) (hT : arrB P T = some (n, E, s)) (hz : zeroB P T = some zv) (hzd : ZOk zv zd)
    (hps : ps.map (fun p => (p.1, ev S p.2)) = pd.map (fun p => (p.1, .d p.2))) (hok : pd.all (fun p => p.2.ok1) = true) (hr : fillL (fun i => some (i * s, s)) zd (pd.map fun p => (p.1, p.2.cells)) = some r) : EOk P o S [] (.d (.agg r)) :=
  EOk.same fun a w D β hop _ => by
    obtain ⟨i, z, z1, z2, z3⟩ := zero_of hz
    obtain ⟨j, e1, e2, e3⟩ := arr_of hT
    obtain ⟨q1, q2⟩ := opnds_parts (a := a) (w := w) (D := D) (β := β) hps hok (fun p hp => hop p.2 (by
      simp only [ho, Op.operands]
      exact List.mem_toArray.2 (by simpa using List.mem_map_of_mem (f := (·.2)) hp)))
    obtain ⟨cs', f1, f2⟩ := fill_spec (fun i => some (i * s, s)) _ _ zv.toArray zd r q1 q2 (repL_zero hzd) hr
    refine ⟨.agg cs', ?_, repL_agg f2⟩
    have hpp : (ps.toArray.map fun p => (p.1, a.eval p.2)).toList = ps.map fun p => (p.1, a.eval p.2) := by simp
    simp only [execOp, ho, Instr.build, Sem.run_bind, run_zero z1 z2, Result.andThen_ok, run_underlying e1, run_sizeOf e2, e3, z3]
    rw [hpp, f1]
    rfl
theorem rep_new {w : World} {D : DSet} {E : TypeId} {s : Nat} {es : List Dat} {cs : Array Value} (h : RepL w D cs.toList (flat es)) (hs : ∀ e ∈ es, e.cells.length = s) (hm : es.length ≤ maxLen) (hD : DOk D w) :
    Rep (w.alloc (.cells cs E)) (fun t g p => D t g p ∨ g = w.heap.size) (.slice (some ⟨w.heap.size, 0, none⟩) es.length es.length) (.sl E s es) := by
  obtain ⟨h1, h2, h3⟩ := h
  have hcl : ∀ i, i < (flat es).length → i < cs.size := fun i hi => by
    have : cs.size = (flat es).length := by simpa using h1
    omega
  have hc : ∀ i, i < (flat es).length → (w.alloc (.cells cs E)).cell? ⟨w.heap.size, i, none⟩ = cs[i]? := fun i _ => World.cell?_alloc_new w cs E i
  refine .sl w.heap.size 0 (fun i => cs.getD i undef) rfl (Nat.le_refl _) hm hs (fun _ => rfl) (fun i _ => .inr rfl) (fun i hi => ?_) (fun i hi => ?_) (fun i d hd => ?_)
  · rw [Nat.zero_add, hc i hi]; simp [hcl i hi]
  · have : cs.getD i undef = cs[i]'(hcl i hi) := by simp [hcl i hi]
    rw [this]
    exact h2 _ (by simp)
  · have hi : i < (flat es).length := (List.getElem?_eq_some_iff.1 hd).1
    refine (h3 i (cs.getD i undef) d (by simp [hcl i hi]) hd).mono fun t g p hd => ⟨.inl hd, ?_⟩
    have := hD t g p hd
    exact World.cell?_alloc_lt w _ ⟨g, p, none⟩ this
theorem dup_new {D : DSet} {w : World} {o : Obj} : DUp D (fun t g p => D t g p ∨ g = w.heap.size) w (w.alloc o) :=
  ⟨fun _ _ _ h => .inl h, fun _ _ _ h => h.imp id fun e => by subst e; simp⟩
theorem range_zero_cells (z : Array Value) (s n : Nat) (hz : z.size = s) : ((Array.range (n * s)).map (z[· % z.size]!)).toList = (List.replicate n z.toList).flatten := by
  apply List.ext_getElem?
  intro i
  simp only [Array.toList_map, Array.toList_range, List.getElem?_map]
  rcases Nat.lt_or_ge i (n * s) with hi | hi
  · rw [List.getElem?_range hi]
    have hs : 0 < s := by
      rcases Nat.eq_zero_or_pos s with h | h
      · subst h; simp at hi
      · exact h
    have key : ∀ (n i : Nat), i < n * s → ((List.replicate n z.toList).flatten)[i]? = z[i % s]? := by
      intro n
      induction n with
      | zero => intro i hi; simp at hi
      | succ n ih =>
        intro i hi
        rw [List.replicate_succ, List.flatten_cons]
        by_cases h : i < s
        · rw [List.getElem?_append_left (by simpa [hz] using h), Nat.mod_eq_of_lt h]; simp
        · rw [List.getElem?_append_right (by simp [hz]; omega)]
          have e1 : i - z.toList.length = i - s := by simp [hz]
          rw [e1, ih (i - s) (by rw [Nat.add_mul] at hi; omega)]
          congr 1
          exact (Nat.mod_eq_sub_mod (by omega)).symm
    rw [key n i hi, hz]
    have hlt : i % s < z.size := by rw [hz]; exact Nat.mod_lt _ hs
    simp [hlt]
  · rw [List.getElem?_eq_none (by simpa using hi)]
    rw [List.getElem?_eq_none]
    · rfl
    · simp [List.length_flatten, hz]; exact hi
theorem repL_zeros {w : World} {D : DSet} {zv : List Value} {zd : List Dat} (h : ZOk zv zd) (n : Nat) : RepL w D (List.replicate n zv).flatten (List.replicate n zd).flatten := by
  obtain ⟨h1, h2, h3⟩ := zok_spec (w := w) (D := D) h
  induction n with
  | zero => exact ⟨rfl, by simp, by simp⟩
  | succ n ih =>
    obtain ⟨k1, k2, k3⟩ := ih
    rw [List.replicate_succ, List.replicate_succ, List.flatten_cons, List.flatten_cons]
    refine ⟨by simp only [List.length_append]; omega, fun v hv => ?_, fun i v d hv hd => ?_⟩
    · rcases List.mem_append.1 hv with hv | hv
      · exact h2 v hv
      · exact k2 v hv
    · by_cases hi : i < zv.length
      · rw [List.getElem?_append_left hi] at hv
        rw [List.getElem?_append_left (by omega)] at hd
        exact h3 i v d hv hd
      · rw [List.getElem?_append_right (by omega)] at hv
        rw [List.getElem?_append_right (by omega), ← h1] at hd
        exact k3 _ v d hv hd
theorem e_buildSlice {T E : TypeId} {s len : Nat} {ps : List (Nat × Operand)} {pd : List (Nat × Dat)} {zv : List Value} {zd es : List Dat} (ho : o.op = .buildSlice T len ps.toArray) (hT : elemB P T = some (E, s)) (hz : zeroB P E = some zv) (hzd : ZOk zv zd) (hzl : zd.length = s)
    (hps : ps.map (fun p => (p.1, ev S p.2)) = pd.map (fun p => (p.1, .d p.2))) (hok : pd.all (fun p => p.2.ok1) = true) (hbig : len * s ≤ 16777216) (hbig' : len ≤ 16777216) (hlen : es.length = len) (hs : ∀ e ∈ es, e.cells.length = s)
    (hr : fillL (fun i => some (i * s, s)) (List.replicate len zd).flatten (pd.map fun p => (p.1, p.2.cells)) = some (flat es)) : EOk P o S [] (.d (.sl E s es)) :=
  fun a w D β Q hop _ hD => by
    obtain ⟨i, z, z1, z2, z3⟩ := zero_of hz
    obtain ⟨j, e1, e2, e3⟩ := elem_of hT
    have hij : i = j := by rw [z1] at e2; injection e2
    subst hij
    obtain ⟨q1, q2⟩ := opnds_parts (a := a) (w := w) (D := D) (β := β) hps hok (fun p hp => hop p.2 (by
      simp only [ho, Op.operands]
      exact List.mem_toArray.2 (by simpa using List.mem_map_of_mem (f := (·.2)) hp)))
    have hzvl : zv.length = zd.length := (zok_spec (w := w) (D := D) hzd).1
    have hzs : z.cells.size = s := by rw [z3]; simp; omega
    have hrz := range_zero_cells z.cells s len hzs
    have hzero : RepL w D ((Array.range (len * s)).map (z.cells[· % z.cells.size]!)).toList (List.replicate len zd).flatten := by
      rw [hrz, z3]
      exact repL_zeros hzd len
    obtain ⟨cs', f1, f2⟩ := fill_spec (fun i => some (i * s, s)) _ _ _ _ _ q1 q2 hzero hr
    have hpp : (ps.toArray.map fun p => (p.1, a.eval p.2)).toList = ps.map fun p => (p.1, a.eval p.2) := by simp
    have hrun : (execOp a.eval o).run P w = .ok (.value (.slice (some ⟨w.heap.size, 0, none⟩) len len)) (w.alloc (.cells cs' E)) := by
      by_cases h0 : len * s = 0
      · rw [h0] at f1
        simp only [Array.range_zero', Array.map_empty] at f1
        simp only [execOp, ho, Instr.buildSlice, Sem.run_bind, run_underlying e1, Result.andThen_ok, run_sizeOf e2, e3, h0, if_true, Array.range_zero', Array.map_empty, hpp, Sem.run_pure]
        rw [if_neg (by omega)]
        simp only [Sem.run_bind, Sem.run_pure, Result.andThen_ok, f1, newRow, run_newObj]
        rfl
      · simp only [execOp, ho, Instr.buildSlice, Sem.run_bind, run_underlying e1, Result.andThen_ok, run_sizeOf e2, e3, h0, if_false, hpp]
        rw [if_neg (by omega)]
        simp only [Sem.run_bind, Sem.run_pure, Result.andThen_ok, run_zero z1 z2, f1, newRow, run_newObj]
        rfl
    refine wp_value hrun ⟨_, _, rfl, (Below.refl _ _).alloc (Nat.le_refl _) _, dup_new, ?_⟩
    have := rep_new (E := E) f2 hs (by unfold maxLen; omega) hD
    rw [hlen] at this
    exact this
end
end Go.Fid
