/-
  Each operation of a region, said of what its operands stand for: 'EOk' (it makes a value), 'NOk' (it makes a private block), 'TOk' (it writes a private block). For any program.
-/
import Derived.Test.YtadkkhdnccljcaaGreatFid1
namespace Go.Fid
open Go.RowKit (Below)
def ev (S : Nat → SV) : Operand → SV
  | .tmp t => S t
  | .const v => .d (.val v)
  | .func f => .d (.val (.func (.func f) #[] #[]))
  | .global _ => .junk
def Opnds (w : World) (D : DSet) (β : BMap) (a : Act) (o : Oper) (S : Nat → SV) : Prop := ∀ y ∈ o.op.operands, RepS w D β (a.eval y) (ev S y)
def EPost (a : Act) (w : World) (D : DSet) (β : BMap) (dst : Option Tmp) (x : SV) (a' : Act) (w' : World) : Prop :=
  ∃ v D', a' = a.put dst v ∧ Below w.heap.size w w' ∧ DUp D D' w w' ∧ RepS w' D' β v x
def EOk (P : Program) (o : Oper) (S : Nat → SV) (rd : List (Nat × List SV)) (x : SV) : Prop :=
  ∀ (a : Act) (w : World) (D : DSet) (β : BMap) (Q : Exit → Act → World → Prop), Opnds w D β a o S → (∀ p ∈ rd, BlkOk w D β p.1 p.2) → DOk D w → o.wp P a w (EPost a w D β o.dst x) Q
def NPost (a : Act) (w : World) (D : DSet) (β : BMap) (dst : Option Tmp) (k : Nat) (cs : List SV) (x : SV) (a' : Act) (w' : World) : Prop :=
  ∃ v D' b, a' = a.put dst v ∧ Below w.heap.size w w' ∧ DUp D D' w w' ∧ w.heap.size ≤ b ∧ b < w'.heap.size ∧ (∀ t o, ¬ D' t b o) ∧ BlkOk w' D' (β.set k b) k cs ∧ RepS w' D' (β.set k b) v x
def NOk (P : Program) (o : Oper) (S : Nat → SV) (k : Nat) (cs : List SV) (x : SV) : Prop :=
  ∀ (a : Act) (w : World) (D : DSet) (β : BMap) (Q : Exit → Act → World → Prop), Opnds w D β a o S → DOk D w → o.wp P a w (NPost a w D β o.dst k cs x) Q
def TPost (a : Act) (w : World) (D : DSet) (β : BMap) (dst : Option Tmp) (k : Nat) (cs : List SV) (a' : Act) (w' : World) : Prop :=
  a' = a.put dst undef ∧ ∃ b, β k = some b ∧ Wrote b w w' ∧ (∀ t o, ¬ D t b o) ∧ BlkOk w' D β k cs
def TOk (P : Program) (o : Oper) (S : Nat → SV) (k : Nat) (old cs : List SV) : Prop :=
  ∀ (a : Act) (w : World) (D : DSet) (β : BMap) (Q : Exit → Act → World → Prop), Opnds w D β a o S → BlkOk w D β k old → DOk D w → o.wp P a w (TPost a w D β o.dst k cs) Q
section
variable {P : Program} {o : Oper} {S : Nat → SV}
theorem wp_value {a : Act} {w w' : World} {K : Act → World → Prop} {Q : Exit → Act → World → Prop} {v : Value} (h : (execOp a.eval o).run P w = .ok (.value v) w') (hk : K (a.put o.dst v) w') : o.wp P a w K Q := by
  unfold Oper.wp; rw [h]; exact hk
theorem wp_skip_ {a : Act} {w w' : World} {K : Act → World → Prop} {Q : Exit → Act → World → Prop} (h : (execOp a.eval o).run P w = .ok .skip w') (hk : K (a.put o.dst undef) w') : o.wp P a w K Q := by
  unfold Oper.wp; rw [h]; exact hk
theorem wp_enter {a : Act} {w w' : World} {K : Act → World → Prop} {Q : Exit → Act → World → Prop} {f : FuncId} {args : Array Value} (h : (execOp a.eval o).run P w = .ok (.enter f args) w')
    (hk : Calls P f args w' fun e w'' => ∃ v, e = .returned v ∧ K (a.put o.dst v) w'') : o.wp P a w K Q := by
  unfold Oper.wp; rw [h]
  exact hk.mono fun e w'' ⟨v, he, hK⟩ => by subst he; exact hK
theorem EOk.same {rd : List (Nat × List SV)} {x : SV} (h : ∀ (a : Act) (w : World) (D : DSet) (β : BMap), Opnds w D β a o S → (∀ p ∈ rd, BlkOk w D β p.1 p.2) → ∃ v, (execOp a.eval o).run P w = .ok (.value v) w ∧ RepS w D β v x) : EOk P o S rd x :=
  fun a w D β Q hop hrd _ => by
    obtain ⟨v, h1, h2⟩ := h a w D β hop hrd
    exact wp_value h1 ⟨v, D, rfl, Below.refl _ _, DUp.refl _ _, h2⟩
theorem e_move {x : Operand} (ho : o.op = .move x ∨ o.op = .assign x) : EOk P o S [] (ev S x) :=
  EOk.same fun a w D β hop _ => ⟨a.eval x, by rcases ho with ho | ho <;> simp [execOp, ho], by
    rcases ho with ho | ho <;> exact hop x (by simp [ho, Op.operands])⟩
theorem rep_nil (w : World) (D : DSet) (t : TypeId) (s : Nat) : Rep w D (.slice none 0 0) (.sl t s []) :=
  .sl 0 0 (fun _ => undef) rfl (Nat.le_refl _) (by simp [maxLen]) (by simp) (by simp) (by simp [flat]) (by simp [flat]) (by simp [flat]) (by simp [flat])
theorem e_nil (t : TypeId) (s : Nat) (ho : o.op = .move (.const (.slice none 0 0)) ∨ o.op = .assign (.const (.slice none 0 0))) : EOk P o S [] (.d (.sl t s [])) :=
  EOk.same fun a w D β _ _ => ⟨.slice none 0 0, by rcases ho with ho | ho <;> simp [execOp, ho, Act.eval], rep_nil w D t s⟩
theorem rep_bool {w : World} {D : DSet} {v : Value} {b : Bool} (h : Rep w D v (.val (.bool b))) : v = .bool b := by cases h; rfl
theorem rep_val {w : World} {D : DSet} {v u : Value} (h : Rep w D v (.val u)) : v = u := by cases h; rfl
theorem e_pick {c x y : Operand} {b : Bool} (ho : o.op = .pick c x y) (hc : ev S c = .d (.val (.bool b))) : EOk P o S [] (if b then ev S x else ev S y) :=
  EOk.same fun a w D β hop _ => by
    have h1 := hop c (by simp [ho, Op.operands])
    rw [hc] at h1
    have h2 : a.eval c = .bool b := rep_bool h1
    refine ⟨if b then a.eval x else a.eval y, by simp [execOp, ho, h2, asBool], ?_⟩
    cases b
    · exact hop y (by simp [ho, Op.operands])
    · exact hop x (by simp [ho, Op.operands])
def isAggD : TypeDesc → Bool
  | .struct _ | .array _ _ => true
  | _ => false
def shapeB (P : Program) (T : TypeId) : Option (Bool × Nat) :=
  match P.underlying T, P.info? T with
  | some d, some i => some (isAggD d, i.size)
  | _, _ => none
theorem shape_of {T : TypeId} {agg : Bool} {sz : Nat} (h : shapeB P T = some (agg, sz)) : ∃ d i, P.underlying T = some d ∧ P.info? T = some i ∧ isAggD d = agg ∧ i.size = sz := by
  unfold shapeB at h
  cases h1 : P.underlying T with
  | none => simp [h1] at h
  | some d =>
    cases h2 : P.info? T with
    | none => simp [h1, h2] at h
    | some i =>
      simp [h1, h2] at h
      exact ⟨d, i, rfl, rfl, h.1, h.2⟩
theorem run_isAgg {T : TypeId} {d : TypeDesc} (h : P.underlying T = some d) (w : World) : (isAgg T).run P w = .ok (isAggD d) w := by
  unfold isAgg
  simp only [Sem.run_bind, run_underlying h, Result.andThen_ok]
  cases d <;> rfl
theorem run_sizeOf {T : TypeId} {i : TypeInfo} (h : P.info? T = some i) (w : World) : (sizeOf T).run P w = .ok i.size w := by
  simp [sizeOf, typeInfo, h]
theorem run_loadVar_agg {T : TypeId} {sz : Nat} (h : shapeB P T = some (true, sz)) (w : World) (ad : Addr) (us : List Value) (hl : us.length = sz) (hc : ∀ (j : Nat) u, us[j]? = some u → w.cell? (ad.add j) = some u) :
    (loadVar T ad).run P w = .ok (.agg us.toArray) w := by
  obtain ⟨d, i, h1, h2, h3, h4⟩ := shape_of h
  subst hl
  have hl := run_loadCells_list (P := P) w ad us hc
  rw [← h4] at hl
  unfold loadVar
  simp [run_isAgg h1, h3, run_sizeOf h2, hl]
theorem run_loadVar_one {T : TypeId} {sz : Nat} (h : shapeB P T = some (false, sz)) (w : World) (ad : Addr) {u : Value} (hc : w.cell? ad = some u) :
    (loadVar T ad).run P w = .ok u w := by
  obtain ⟨d, i, h1, h2, h3, h4⟩ := shape_of h
  unfold loadVar
  simp [run_isAgg h1, h3, hc]
def unD : List SV → Option (List Dat)
  | [] => some []
  | .d x :: r => match unD r with
    | some l => some (x :: l)
    | none => none
  | _ :: _ => none
theorem unD_spec : ∀ {l : List SV} {ds : List Dat}, unD l = some ds → l = ds.map .d
  | [], ds, h => by simp [unD] at h; subst h; rfl
  | .d x :: r, ds, h => by
    simp only [unD] at h
    cases h1 : unD r with
    | none => simp [h1] at h
    | some l =>
      simp [h1] at h
      subst h
      simp [unD_spec h1]
  | .ref _ _ :: r, ds, h => by simp [unD] at h
  | .own _ _ _ _ :: r, ds, h => by simp [unD] at h
  | .clo _ _ :: r, ds, h => by simp [unD] at h
  | .junk :: r, ds, h => by simp [unD] at h
def gather (agg : Bool) (l : List SV) : SV :=
  match agg with
  | true => match unD l with
    | some ds => .d (.agg ds)
    | none => .junk
  | false => match l with
    | [x] => x
    | _ => .junk
theorem blk_cells {w : World} {D : DSet} {β : BMap} {k b : Nat} {cs : List SV} (h : BlkOk w D β k cs) (hb : β k = some b) :
    ∃ vs : List Value, vs.length = cs.length ∧ (∀ (j : Nat) u, vs[j]? = some u → w.cell? ⟨b, j, none⟩ = some u ∧ u.oneCell' = true) ∧ ∀ (j : Nat) u x, vs[j]? = some u → cs[j]? = some x → RepS w D β u x := by
  rcases h with ⟨h1, _⟩ | ⟨b', vs, T, h1, h2, h3, h4, _⟩
  · rw [h1] at hb; cases hb
  · obtain rfl : b' = b := by rw [h1] at hb; injection hb
    refine ⟨vs.toList.take cs.length, by simp; omega, fun j u hu => ?_, fun j u x hu hx => ?_⟩
    · have hj : j < cs.length := by
        rcases Nat.lt_or_ge j cs.length with hj | hj
        · exact hj
        · rw [List.getElem?_eq_none (by simp; omega)] at hu; cases hu
      obtain ⟨u', e1, e2, _⟩ := h4 j _ (List.getElem?_eq_getElem hj)
      rw [List.getElem?_take_of_lt hj, Array.getElem?_toList, e1] at hu
      injection hu with hu
      subst hu
      exact ⟨by rw [cell_of_row w b' j vs T (0, 0) h2]; exact e1, e2⟩
    · have hj : j < cs.length := (List.getElem?_eq_some_iff.1 hx).1
      obtain ⟨u', e1, _, e3⟩ := h4 j _ hx
      rw [List.getElem?_take_of_lt hj, Array.getElem?_toList, e1] at hu
      injection hu with hu
      subst hu
      exact e3
theorem repS_agg {w : World} {D : DSet} {β : BMap} {l : List SV} {vs : List Value} (hl : vs.length = l.length) (h1 : ∀ v ∈ vs, v.oneCell' = true) (hr : ∀ (i : Nat) v x, vs[i]? = some v → l[i]? = some x → RepS w D β v x) : RepS w D β (.agg vs.toArray) (gather true l) := by
  unfold gather
  cases h : unD l with
  | none => trivial
  | some ds =>
    have hd := unD_spec h
    subst hd
    refine Rep.agg vs (by simpa using hl) h1 fun i v d hv hd => ?_
    exact hr i v (.d d) hv (by simp [hd])
theorem e_load_ref {T : TypeId} {x : Operand} {k off sz : Nat} {agg : Bool} {cs : List SV} (ho : o.op = .load T x) (hx : ev S x = .ref k off) (hs : shapeB P T = some (agg, sz)) (h1 : agg = false → sz = 1) (hl : off + sz ≤ cs.length) :
    EOk P o S [(k, cs)] (gather agg ((cs.drop off).take sz)) :=
  EOk.same fun a w D β hop hrd => by
    have hp := hop x (by simp [ho, Op.operands])
    rw [hx] at hp
    obtain ⟨b, hb, hv⟩ := hp
    obtain ⟨vs, e1, e2, e3⟩ := blk_cells (hrd (k, cs) (by simp)) hb
    dsimp only at e1 e2 e3
    have hun : (execOp a.eval o) = (do pure (.value (← loadVar T ⟨b, off, none⟩))) := by simp [execOp, ho, hv, Instr.loadAt, Instr.sureAddr]
    rw [hun]
    cases agg with
    | true =>
      refine ⟨.agg ((vs.drop off).take sz).toArray, ?_, repS_agg (by simp; omega) (fun v hv => ?_) (fun i v y hv hy => ?_)⟩
      · rw [Sem.run_bind, run_loadVar_agg hs w _ ((vs.drop off).take sz) (by simp; omega) (fun j u hu => ?_)]
        · rfl
        · have hj : j < sz := by
            have := (List.getElem?_eq_some_iff.1 hu).1
            simp at this; omega
          rw [List.getElem?_take_of_lt hj, List.getElem?_drop] at hu
          rw [Addr.add_lit]
          exact (e2 _ _ hu).1
      · have hm := List.mem_of_mem_drop (List.mem_of_mem_take hv)
        obtain ⟨j, hj⟩ := List.getElem?_of_mem hm
        exact (e2 j v hj).2
      · have hj : i < sz := by
          have := (List.getElem?_eq_some_iff.1 hv).1
          simp at this; omega
        rw [List.getElem?_take_of_lt hj, List.getElem?_drop] at hv hy
        exact e3 _ _ _ hv hy
    | false =>
      obtain rfl := h1 rfl
      have hlt : off < cs.length := by omega
      have hlt' : off < vs.length := by omega
      have hu : vs[off]? = some vs[off] := List.getElem?_eq_getElem hlt'
      have hy : cs[off]? = some cs[off] := List.getElem?_eq_getElem hlt
      refine ⟨vs[off], by rw [Sem.run_bind, run_loadVar_one hs w _ (e2 _ _ hu).1]; rfl, ?_⟩
      have : (cs.drop off).take 1 = [cs[off]] := by
        rw [List.drop_eq_getElem_cons hlt]; rfl
      rw [this]
      exact e3 _ _ _ hu hy
theorem rep_cptr {w : World} {D : DSet} {v : Value} {t : TypeId} {cs : List Dat} {off : Nat} (h : Rep w D v (.cptr t cs off)) :
    ∃ g p, v = .pointer (some ⟨g, p + off, none⟩) ∧ ∃ vs : List Value, vs.length = cs.length ∧ (∀ (j : Nat) u, vs[j]? = some u → w.cell? ⟨g, p + j, none⟩ = some u ∧ u.oneCell' = true) ∧ (∀ i, i < cs.length → D t g (p + i)) ∧
      ∀ (j : Nat) u x, vs[j]? = some u → cs[j]? = some x → Rep w D u x := by
  cases h with
  | cptr g p u hD hu h1 hr =>
    have key : ∀ (j : Nat) x, ((List.range cs.length).map u)[j]? = some x → j < cs.length ∧ x = u j := fun j x hx => by
      have hj : j < cs.length := by simpa using (List.getElem?_eq_some_iff.1 hx).1
      rw [List.getElem?_map, List.getElem?_range hj] at hx
      injection hx with hx
      exact ⟨hj, hx.symm⟩
    refine ⟨g, p, rfl, (List.range cs.length).map u, by simp, fun j x hx => ?_, hD, fun j x y hx hy => ?_⟩
    · obtain ⟨hj, rfl⟩ := key j x hx
      exact ⟨hu j hj, h1 j hj⟩
    · obtain ⟨hj, rfl⟩ := key j x hx
      exact hr j y hy
theorem e_load_cptr {T t : TypeId} {x : Operand} {off sz : Nat} {agg : Bool} {cs : List Dat} (ho : o.op = .load T x) (hx : ev S x = .d (.cptr t cs off)) (hs : shapeB P T = some (agg, sz)) (h1 : agg = false → sz = 1) (hl : off + sz ≤ cs.length) :
    EOk P o S [] (gather agg (((cs.drop off).take sz).map .d)) :=
  EOk.same fun a w D β hop _ => by
    have hp := hop x (by simp [ho, Op.operands])
    rw [hx] at hp
    obtain ⟨g, p, hv, vs, e1, e2, _, e3⟩ := rep_cptr hp
    have hun : (execOp a.eval o) = (do pure (.value (← loadVar T ⟨g, p + off, none⟩))) := by simp [execOp, ho, hv, Instr.loadAt, Instr.sureAddr]
    rw [hun]
    cases agg with
    | true =>
      refine ⟨.agg ((vs.drop off).take sz).toArray, ?_, repS_agg (by simp; omega) (fun v hv => ?_) (fun i v y hv hy => ?_)⟩
      · rw [Sem.run_bind, run_loadVar_agg hs w _ ((vs.drop off).take sz) (by simp; omega) (fun j u hu => ?_)]
        · rfl
        · have hj : j < sz := by
            have := (List.getElem?_eq_some_iff.1 hu).1
            simp at this; omega
          rw [List.getElem?_take_of_lt hj, List.getElem?_drop] at hu
          rw [Addr.add_lit, Nat.add_assoc]
          exact (e2 _ _ hu).1
      · have hm := List.mem_of_mem_drop (List.mem_of_mem_take hv)
        obtain ⟨j, hj⟩ := List.getElem?_of_mem hm
        exact (e2 j v hj).2
      · have hj : i < sz := by
          have := (List.getElem?_eq_some_iff.1 hv).1
          simp at this; omega
        rw [List.getElem?_map, Option.map_eq_some_iff] at hy
        obtain ⟨z, hz, rfl⟩ := hy
        rw [List.getElem?_take_of_lt hj, List.getElem?_drop] at hv hz
        exact e3 _ _ _ hv hz
    | false =>
      obtain rfl := h1 rfl
      have hlt : off < cs.length := by omega
      have hlt' : off < vs.length := by omega
      have hu : vs[off]? = some vs[off] := List.getElem?_eq_getElem hlt'
      have hy : cs[off]? = some cs[off] := List.getElem?_eq_getElem hlt
      refine ⟨vs[off], by rw [Sem.run_bind, run_loadVar_one hs w _ (e2 _ _ hu).1]; rfl, ?_⟩
      have : ((cs.drop off).take 1).map SV.d = [.d cs[off]] := by
        rw [List.drop_eq_getElem_cons hlt]; rfl
      rw [this]
      exact e3 _ _ _ hu hy
end
end Go.Fid
