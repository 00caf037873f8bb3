/-
  Calls ('Fn': a function takes data to a datum), slices of slices, new private blocks, stores. For any program.
-/
import Derived.Test.YtadkkhdnccljcaaGreatFid4
namespace Go.Fid
open Go.RowKit (Below)
def callB (P : Program) (f : FuncId) : Bool :=
  match P.funcs[f]? with
  | some fn => !(fn.name == "runtime.NumGoroutine") && fn.body.isSome
  | none => false
def Args (w : World) (D : DSet) (vs : List Value) (ds : List Dat) : Prop := vs.length = ds.length ∧ ∀ (i : Nat) v d, vs[i]? = some v → ds[i]? = some d → Rep w D v d
def FPost (w : World) (D : DSet) (r : Dat) (e : Ending) (w' : World) : Prop := ∃ v D', e = .returned v ∧ Below w.heap.size w w' ∧ DUp D D' w w' ∧ Rep w' D' v r
structure Takes (P : Program) (f : FuncId) (ds : List Dat) (r : Dat) : Prop where
  may : callB P f = true
  run : ∀ (w : World) (D : DSet) (vs : List Value), DOk D w → Args w D vs ds → Calls P f vs.toArray w (FPost w D r)
section
variable {P : Program} {o : Oper} {S : Nat → SV}
theorem run_callFunc {f : FuncId} (h : callB P f = true) (args : Array Value) (w : World) : (callFunc f args).run P w = .ok (.enter f args) w := by
  unfold callB at h
  split at h
  · rename_i fn hfn
    simp only [Bool.and_eq_true, Bool.not_eq_true'] at h
    obtain ⟨b, hb⟩ := Option.isSome_iff_exists.1 h.2
    have hne : ¬ fn.name = "runtime.NumGoroutine" := beq_eq_false_iff_ne.1 h.1
    simp [callFunc, hfn, hne, hb]
  · cases h
theorem e_call {y : Operand} {xs : List Operand} {ats : Array TypeId} {f : FuncId} {ds : List Dat} {r : Dat} (ho : o.op = .call { callee := .value y, args := xs.toArray, argTypes := ats }) (hy : ev S y = .d (.val (.func (.func f) #[] #[])))
    (hx : xs.map (ev S) = ds.map .d) (hf : Takes P f ds r) : EOk P o S [] (.d r) :=
  fun a w D β Q hop _ hD => by
    have hyv := hop y (by simp [ho, Op.operands, Call.operands])
    rw [hy] at hyv
    have hyv' := rep_val hyv
    have hargs : Args w D (xs.map a.eval) ds := by
      have hl : xs.length = ds.length := by simpa using congrArg List.length hx
      refine ⟨by simpa using hl, fun i v d hv hd => ?_⟩
      rw [List.getElem?_map, Option.map_eq_some_iff] at hv
      obtain ⟨x, hxi, rfl⟩ := hv
      have hm := hop x (by simp [ho, Op.operands, Call.operands, List.mem_of_getElem? hxi])
      have hi := congrArg (fun l : List SV => l[i]?) hx
      simp only [List.getElem?_map, hxi, hd, Option.map_some, Option.some.injEq] at hi
      rw [hi] at hm
      exact hm
    have hrun : (execOp a.eval o).run P w = .ok (.enter f (xs.map a.eval).toArray) w := by
      simp only [execOp, ho, resolve, Deferred.ofValue, hyv', Sem.run_bind, Sem.run_pure, Result.andThen_ok, invoke, Array.empty_append, Array.append_empty]
      rw [run_callFunc hf.may]
      simp
    refine wp_enter hrun ((hf.run w D _ hD hargs).mono fun e w' h => ?_)
    obtain ⟨v, D', he, h1, h2, h3⟩ := h
    exact ⟨v, he, v, D', rfl, h1, h2, h3⟩
def optInt (S : Nat → SV) (y : Option Operand) (k : IntKind) (dflt n : Nat) : Prop := match y with
  | none => n = dflt
  | some z => ev S z = .d (.val (.int k (n : Int)))
theorem rep_slice {w : World} {D : DSet} {a : Option Addr} {n cap : Nat} {t : TypeId} {s l h : Nat} {es : List Dat} (hr : Rep w D (.slice a n cap) (.sl t s es)) (h1 : l ≤ h) (h2 : h ≤ es.length) :
    Rep w D (.slice (if cap = l then a else a.map (·.add (l * s))) (h - l) (cap - l)) (.sl t s ((es.take h).drop l)) := by
  cases hr with
  | sl g off u hn hc hm hs ha hD hu h1' hr =>
    have hs' : ∀ e ∈ (es.take h).drop l, e.cells.length = s := fun e he => hs e (List.mem_of_mem_take (List.mem_of_mem_drop he))
    have hfl := flat_length hs
    have hfl' : (flat ((es.take h).drop l)).length = (h - l) * s := by
      rw [flat_length hs']; simp only [List.length_drop, List.length_take]; congr 1; omega
    have hb : ∀ i, i < (flat ((es.take h).drop l)).length → l * s + i < (flat es).length := fun i hi => by
      rw [hfl'] at hi
      rw [hfl]
      have : (h - l) * s + l * s ≤ es.length * s := by rw [← Nat.add_mul]; exact Nat.mul_le_mul_right s (by omega)
      omega
    have hget : ∀ (i : Nat) d, (flat ((es.take h).drop l))[i]? = some d → (flat es)[l * s + i]? = some d := fun i d hd => by
      have e1 : flat es = flat (es.take l) ++ (flat ((es.take h).drop l) ++ flat (es.drop h)) := by
        rw [← flat_append, ← flat_append]
        congr 1
        have e2 : es.take l = (es.take h).take l := by rw [List.take_take]; congr 1; omega
        rw [e2, ← List.append_assoc, List.take_append_drop, List.take_append_drop]
      have e3 : (flat (es.take l)).length = l * s := by
        rw [flat_length (s := s) (fun e he => hs e (List.mem_of_mem_take he))]; simp only [List.length_take]; congr 1; omega
      have hi := (List.getElem?_eq_some_iff.1 hd).1
      rw [e1, List.getElem?_append_right (by omega), e3, List.getElem?_append_left (by omega)]
      rw [← hd]; congr 1; omega
    refine .sl g (off + l * s) (fun i => u (l * s + i)) (by simp only [List.length_drop, List.length_take]; omega) (by omega) (by omega) hs' (fun h0 => ?_) (fun i hi => ?_) (fun i hi => ?_) (fun i hi => h1' _ (hb i hi)) (fun i d hd => hr _ _ (hget i d hd))
    · rw [if_neg (by omega), ha (by omega)]
      simp [Addr.add_lit]
    · rw [Nat.add_assoc]; exact hD _ (hb i hi)
    · rw [Nat.add_assoc]; exact hu _ (hb i hi)
theorem run_sliceBound {k : IntKind} {i y : Nat} {code : BoundsCode} (h : i ≤ y) (w : World) : (Instr.sliceBound (.int k (i : Int)) y code).run P w = .ok i w := by
  have h1 : (0 : Int) ≤ (i : Int) ∧ (i : Int) ≤ (y : Int) := by omega
  simp only [Instr.sliceBound, asIntOf, Sem.run_bind, Sem.run_pure, Result.andThen_ok, h1, and_self, if_true, Int.toNat_natCast]
theorem e_slice {T E t : TypeId} {x : Operand} {lo hi : Option Operand} {s l h : Nat} {kl kh : IntKind} {es : List Dat} (ho : o.op = .slice T x lo hi none) (hT : elemB P T = some (E, s)) (hx : ev S x = .d (.sl t s es)) (hlo : optInt S lo kl 0 l) (hhi : optInt S hi kh es.length h)
    (h1 : l ≤ h) (h2 : h ≤ es.length) : EOk P o S [] (.d (.sl t s ((es.take h).drop l))) :=
  EOk.same fun a w D β hop _ => by
    have hp := hop x (by simp [ho, Op.operands])
    rw [hx] at hp
    obtain ⟨i, e1, e2, e3⟩ := elem_of hT
    generalize hvv : a.eval x = v at hp
    cases v with
    | slice q n cap =>
      have hrs := rep_slice hp h1 h2
      cases hp with
      | sl g off u hn hc hm hs ha hD hu h1' hr =>
      refine ⟨_, ?_, hrs⟩
      have hl : lo.map a.eval = none ∧ l = 0 ∨ lo.map a.eval = some (.int kl (l : Int)) := by
        cases lo with
        | none => exact .inl ⟨rfl, hlo⟩
        | some z =>
          have := hop z (by simp [ho, Op.operands])
          rw [show ev S z = _ from hlo] at this
          exact .inr (by rw [Option.map_some, rep_val this])
      have hh : hi.map a.eval = none ∧ h = es.length ∨ hi.map a.eval = some (.int kh (h : Int)) := by
        cases hi with
        | none => exact .inl ⟨rfl, hhi⟩
        | some z =>
          have := hop z (by simp [ho, Op.operands])
          rw [show ev S z = _ from hhi] at this
          exact .inr (by rw [Option.map_some, rep_val this])
      have hb : (Instr.sliceBounds true n cap (lo.map a.eval) (hi.map a.eval) none).run P w = .ok (l, h, cap) w := by
        have b1 : ∀ c : BoundsCode, (Instr.sliceBound (.int kh (h : Int)) cap c).run P w = .ok h w := fun _ => run_sliceBound (by omega) w
        have b2 : ∀ c : BoundsCode, (Instr.sliceBound (.int kl (l : Int)) h c).run P w = .ok l w := fun _ => run_sliceBound h1 w
        rcases hl with ⟨hl, rfl⟩ | hl <;> rcases hh with ⟨hh, hhe⟩ | hh
        · subst hhe; subst hn; simp [Instr.sliceBounds, hl, hh]
        · simp [Instr.sliceBounds, hl, hh, b1]
        · subst hhe; subst hn; simp [Instr.sliceBounds, hl, hh, b2]
        · simp [Instr.sliceBounds, hl, hh, b1, b2]
      simp [execOp, ho, hvv, Instr.sliceAt, run_underlying e1, Instr.slice, hb, run_sizeOf e2, e3]
    | _ => cases hp
theorem blk_new {w : World} {D : DSet} {β : BMap} {k : Nat} {T : TypeId} {vs : Array Value} {ds : List Dat} (hD : DOk D w) (h : RepL w D vs.toList ds) :
    BlkOk (w.alloc (.cells vs T)) D (β.set k w.heap.size) k (ds.map .d) := by
  obtain ⟨h1, h2, h3⟩ := h
  refine .inr ⟨w.heap.size, vs, T, by simp [BMap.set], heap_alloc_new w _, by simp at h1 ⊢; omega, fun i x hx => ?_, fun t o hd => Nat.lt_irrefl _ (hD t _ o hd)⟩
  rw [List.getElem?_map, Option.map_eq_some_iff] at hx
  obtain ⟨d, hd, rfl⟩ := hx
  have hi : i < vs.size := by
    have := (List.getElem?_eq_some_iff.1 hd).1
    simp at h1; omega
  refine ⟨vs[i], by simp [hi], h2 _ (by simp), ?_⟩
  exact (h3 i vs[i] d (by simp [hi]) hd).mono fun t g p hd => ⟨hd, World.cell?_alloc_lt w _ ⟨g, p, none⟩ (hD t g p hd)⟩
theorem npost_new {a : Act} {w : World} {D : DSet} {β : BMap} {k : Nat} {T : TypeId} {vs : Array Value} {ds : List Dat} (hD : DOk D w) (h : RepL w D vs.toList ds) {Q : Exit → Act → World → Prop} {v : Value} {x : SV}
    (hrun : (execOp a.eval o).run P w = .ok (.value v) (w.alloc (.cells vs T))) (hx : RepS (w.alloc (.cells vs T)) D (β.set k w.heap.size) v x) : o.wp P a w (NPost a w D β o.dst k (ds.map .d) x) Q :=
  wp_value hrun ⟨v, D, w.heap.size, rfl, (Below.refl _ _).alloc (Nat.le_refl _) _, DUp.of_same D, Nat.le_refl _, by simp, fun t o hd => Nat.lt_irrefl _ (hD t _ o hd), blk_new hD h, hx⟩
theorem n_box {T : TypeId} {x : Operand} {d : Dat} (k : Nat) (ho : o.op = .box T x) (hx : ev S x = .d d) (h1 : d.ok1 = true) : NOk P o S k (d.cells.map .d) (.ref k 0) :=
  fun a w D β Q hop hD => by
    have hp := hop x (by simp [ho, Op.operands])
    rw [hx] at hp
    obtain ⟨vs, e1, e2⟩ := cells_of_rep hp h1
    refine npost_new (vs := vs.toArray) (T := T) (v := .pointer (some ⟨w.heap.size, 0, none⟩)) hD (by rw [List.toList_toArray]; exact e2) ?_ ⟨w.heap.size, by simp [BMap.set], rfl⟩
    simp only [execOp, ho, Instr.box, newVar, newRow, e1, Sem.run_bind, run_newObj, Result.andThen_ok, Sem.run_pure]
    rfl
theorem n_alloc {T : TypeId} {zv : List Value} {zd : List Dat} (k : Nat) (ho : o.op = .alloc T) (hz : zeroB P T = some zv) (hzd : ZOk zv zd) : NOk P o S k (zd.map .d) (.ref k 0) :=
  fun a w D β Q _ hD => by
    obtain ⟨i, z, z1, z2, z3⟩ := zero_of hz
    refine npost_new (vs := zv.toArray) (T := T) (v := .pointer (some ⟨w.heap.size, 0, none⟩)) hD (repL_zero hzd) ?_ ⟨w.heap.size, by simp [BMap.set], rfl⟩
    simp only [execOp, ho, Instr.alloc, newVar, newRow, Sem.run_bind, run_zero z1 z2, z3, run_newObj, Result.andThen_ok, Sem.run_pure]
    rfl
def bytesB (P : Program) (T : TypeId) : Option Nat := (P.info? T).map (·.bytes)
theorem n_makeSlice {T E : TypeId} {l c : Operand} {s n m bytes : Nat} {kl kc : IntKind} {zv : List Value} {zd : List Dat} (k : Nat) (ho : o.op = .makeSlice T l c) (hT : elemB P T = some (E, s)) (hz : zeroB P E = some zv) (hzd : ZOk zv zd) (hzl : zd.length = s) (hby : bytesB P E = some bytes)
    (hl : ev S l = .d (.val (.int kl (n : Int)))) (hc : ev S c = .d (.val (.int kc (m : Int)))) (hnm : n ≤ m) (hb : bytes * m ≤ 281474976710656) (hm : m ≤ maxLen) : NOk P o S k ((List.replicate m zd).flatten.map .d) (.own k E s n) :=
  fun a w D β Q hop hD => by
    have h1 := hop l (by simp [ho, Op.operands])
    have h2 := hop c (by simp [ho, Op.operands])
    rw [hl] at h1
    rw [hc] at h2
    have e1 := rep_val h1
    have e2 := rep_val h2
    obtain ⟨i, z, z1, z2, z3⟩ := zero_of hz
    obtain ⟨j, f1, f2, f3⟩ := elem_of hT
    have hij : i = j := by rw [z1] at f2; injection f2
    subst hij
    have hbi : i.bytes = bytes := by
      unfold bytesB at hby
      rw [z1] at hby
      simpa using hby
    have hmm : (m : Int) ≤ 9223372036854775807 := by
      unfold maxLen at hm
      omega
    have hbb : (i.bytes : Int) * (m : Int) ≤ 281474976710656 := by
      rw [hbi]
      omega
    have hr := run_make (P := P) w T E i z f1 z1 z2 kl kc (n : Int) (m : Int) (by omega) (by omega) hbb hmm
    have hzvl : zv.length = zd.length := (zok_spec (w := w) (D := D) hzd).1
    have hzs : z.cells.size = s := by rw [z3]; simp; omega
    simp only [Int.toNat_natCast, f3] at hr
    refine npost_new (vs := madeCells z.cells (m * s)) (T := E) (v := .slice (some ⟨w.heap.size, 0, none⟩) n m) hD ?_ ?_ ?_
    · show RepL w D ((Array.range (m * s)).map (z.cells[· % z.cells.size]!)).toList _
      rw [range_zero_cells z.cells s m hzs, z3]
      exact repL_zeros hzd m
    · simp only [execOp, ho, e1, e2, Sem.run_bind, hr, Result.andThen_ok, Sem.run_pure]
    · exact .inr ⟨w.heap.size, m, madeCells z.cells (m * s), by simp [BMap.set], rfl, heap_alloc_new w _, size_madeCells _ _, hnm, hm⟩
theorem sv_cells {w : World} {D : DSet} {β : BMap} {v : Value} {x : SV} {l : List SV} (h : RepS w D β v x) (hl : (∃ d : Dat, x = .d d ∧ d.ok1 = true ∧ l = d.cells.map .d) ∨ ((∃ k t s n, x = .own k t s n) ∧ l = [x])) :
    ∃ vs : List Value, v.cells = vs.toArray ∧ vs.length = l.length ∧ (∀ v ∈ vs, v.oneCell' = true) ∧ ∀ (i : Nat) v y, vs[i]? = some v → l[i]? = some y → RepS w D β v y := by
  rcases hl with ⟨d, rfl, h1, rfl⟩ | ⟨⟨k, t, s, n, rfl⟩, rfl⟩
  · obtain ⟨vs, e1, e2, e3, e4⟩ := cells_of_rep h h1
    refine ⟨vs, e1, by simpa using e2, e3, fun i v y hv hy => ?_⟩
    rw [List.getElem?_map, Option.map_eq_some_iff] at hy
    obtain ⟨d', hd, rfl⟩ := hy
    exact e4 i v d' hv hd
  · have hv1 : ∃ p q c, v = .slice p q c := by
      rcases h with ⟨_, _, h3⟩ | ⟨c, cap, vs, _, h4, _⟩
      · exact ⟨_, _, _, h3⟩
      · exact ⟨_, _, _, h4⟩
    obtain ⟨p, q, c, rfl⟩ := hv1
    exact ⟨[.slice p q c], rfl, rfl, by simp [Value.oneCell'], fun i v y hv hy => by
      cases i with
      | zero => simp at hv hy; subst hv; subst hy; exact h
      | succ i => simp at hv⟩
theorem wrote_setRow (w : World) (b : Nat) (cs : Array Value) (hs : ∀ vs T f, w.heap[b]? = some (.cells vs T f) → cs.size = vs.size) : Wrote b w (w.setRow b cs) :=
  ⟨rfl, rfl, rfl, by simp, fun k hk => setRow_other w b k cs hk, fun vs T f h => ⟨cs, setRow_heap w b vs cs T f h, hs vs T f h⟩⟩
theorem t_store {T : TypeId} {x y : Operand} {k off sz : Nat} {agg : Bool} {old l : List SV} {z : SV} (ho : o.op = .store T x y) (hx : ev S x = .ref k off) (hy : ev S y = z) (hs : shapeB P T = some (agg, sz))
    (hl : (∃ d : Dat, z = .d d ∧ d.ok1 = true ∧ l = d.cells.map .d) ∨ ((∃ k t s n, z = .own k t s n) ∧ l = [z])) (hlen : l.length = sz) (hle : off + sz ≤ old.length) : TOk P o S k old (patch old off l) :=
  fun a w D β Q hop hb hD => by
    have hp := hop x (by simp [ho, Op.operands])
    have hq := hop y (by simp [ho, Op.operands])
    rw [hx] at hp
    rw [hy] at hq
    obtain ⟨b, hb1, hv⟩ := hp
    obtain ⟨us, e1, e2, e3, e4⟩ := sv_cells hq hl
    rcases hb with ⟨hb2, _⟩ | ⟨b', vs, T', hb2, h2, h3, h4, h5⟩
    · rw [hb1] at hb2; cases hb2
    · obtain rfl : b' = b := by rw [hb1] at hb2; injection hb2 with h; exact h.symm
      obtain ⟨d, i, s1, s2, s3, s4⟩ := shape_of hs
      have hst := run_storeCells_at P b' off T' us 0 vs w h2 (by omega) e3
      have hrun : (execOp a.eval o).run P w = .ok .skip (w.setRow b' (patch vs.toList off us).toArray) := by
        have hsz : us.toArray.size = i.size := by simp; omega
        simp only [execOp, ho, hv, Instr.storeAt, Instr.sureAddr, storeVar, e1, Sem.run_bind, Sem.run_pure, Result.andThen_ok, run_sizeOf s2, ne_eq, hsz, not_true_eq_false, if_false, hst]
        simp [patch]
      have hw := wrote_setRow w b' (patch vs.toList off us).toArray (fun vs' T f h => by
        rw [h2] at h
        injection h with h
        injection h with h
        subst h
        have := patch_length (l := vs.toList) (off := off) (new := us) (by simp; omega)
        simpa using this)
      refine wp_skip_ hrun ⟨rfl, b', hb1, hw, h5, ?_⟩
      refine .inr ⟨b', _, T', hb1, setRow_heap w b' vs _ T' _ h2, ?_, fun j x hx => ?_, h5⟩
      · have p1 := patch_length (l := vs.toList) (off := off) (new := us) (by simp; omega)
        have p2 := patch_length (l := old) (off := off) (new := l) (by omega)
        simp only [List.size_toArray]
        simp only [Array.length_toList] at p1
        omega
      · rw [patch_get (by omega)] at hx
        have hg : (patch vs.toList off us).toArray[j]? = if j < off then vs.toList[j]? else if j < off + us.length then us[j - off]? else vs.toList[j]? := by
          rw [List.getElem?_toArray]
          exact patch_get (by simp; omega) j
        rw [hg]
        by_cases c1 : j < off
        · rw [if_pos c1] at hx ⊢
          obtain ⟨u, g1, g2, g3⟩ := h4 j x hx
          exact ⟨u, by simpa using g1, g2, hw.repS h5 g3⟩
        · rw [if_neg c1] at hx ⊢
          rw [e2]
          by_cases c2 : j < off + l.length
          · rw [if_pos c2] at hx ⊢
            have hj : j - off < us.length := by omega
            exact ⟨us[j - off], List.getElem?_eq_getElem hj, e3 _ (List.getElem_mem hj), hw.repS h5 (e4 _ _ _ (List.getElem?_eq_getElem hj) hx)⟩
          · rw [if_neg c2] at hx ⊢
            obtain ⟨u, g1, g2, g3⟩ := h4 j x hx
            exact ⟨u, by simpa using g1, g2, hw.repS h5 g3⟩
end
end Go.Fid
