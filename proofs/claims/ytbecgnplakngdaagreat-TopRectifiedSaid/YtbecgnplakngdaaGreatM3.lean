/- Part 3 of a proof: rules, plain facts, and functions walked. -/
import Derived.Test.YtbecgnplakngdaaGreatM2
namespace Go.Fid
open Go.RowKit (Below)
def forget (k : Nat) : SL → SL
  | [] => []
  | (t, x) :: r => (t, bif x.names k then .junk else x) :: forget k r
theorem sget_forget (k : Nat) : ∀ (l : SL) (t : Nat), sget (forget k l) t = bif (sget l t).names k then .junk else sget l t
  | [], t => rfl
  | (j, x) :: r, t => by
    simp only [forget, sget_cons]
    split
    · rfl
    · exact sget_forget k r t
theorem forget_slot {w : World} {D : DSet} {β : BMap} {v : Value} {k : Nat} {x : SV} (h : x.names k = false → RepS w D β v x) : RepS w D β v (bif x.names k then .junk else x) := by
  cases hx : x.names k with
  | true => trivial
  | false => exact h hx
theorem Mem.mask {w : World} {D : DSet} {β : BMap} {bs : BS} (h : Mem w D β bs) (k : Nat) : Mem w D β ((k, none) :: bs) :=
  ⟨fun j c hj => by
    rw [bget_cons] at hj
    split at hj
    · cases hj
    · exact h.ok j c hj, fun j1 j2 c1 c2 h1 h2 => by
    rw [bget_cons] at h1 h2
    split at h1
    · cases h1
    · split at h2
      · cases h2
      · exact h.inj j1 j2 c1 c2 h1 h2⟩
theorem Mem.unmask {w : World} {D : DSet} {β : BMap} {bs : BS} {k : Nat} {cs : List SV} (h : Mem w D β ((k, some cs) :: (k, none) :: bs)) : Mem w D β ((k, some cs) :: bs) := by
  have e : ∀ j, bget ((k, some cs) :: bs) j = bget ((k, some cs) :: (k, none) :: bs) j := fun j => by
    simp only [bget_cons]
    split <;> rfl
  exact ⟨fun j c hj => h.ok j c (e j ▸ hj), fun j1 j2 c1 c2 h1 h2 => h.inj j1 j2 c1 c2 (e j1 ▸ h1) (e j2 ▸ h2)⟩
section
variable {P : Program} {n : Fr} {C : Ctx} {a : Act} {w : World} {st : PS} {D : DSet} {β : BMap} {dst : Option Tmp} {k : Nat} {cs : List SV} {x : SV}
theorem grew_new (hs : SimAt C a w st D β) {w' : World} {b : Nat} {v : Value} (hb : Below w.heap.size w w') (hge : w.heap.size ≤ b) (hd : dstB C.n dst = true) (hB : ∀ j c, j ≠ k → bget st.bs j = some c → namesAny k c = false)
    (hk : BlkOk w' D (β.set k b) k cs) (hx : RepS w' D (β.set k b) v x) : Sim C (a.put dst v) w' ⟨putS dst x (forget k st.sl), (k, some cs) :: st.bs⟩ := by
  have hβ : ∀ j, j ≠ k → (β.set k b) j = β j := fun j hj => by simp [BMap.set, hj]
  have hu : DUp D D w w' := DUp.of_same D
  refine ⟨D, β.set k b, (hs.base.up hb hu).put hd _, ((hs.mem.mask k).new hb hu hs.base.dok hge (fun j c hj => ?_) hk).unmask, fun j c hj b' hb' => ?_, fun t => ?_⟩
  · rw [bget_cons] at hj
    split at hj
    · cases hj
    · rename_i hne; exact ⟨fun e => hne e.symm, hB j c (fun e => hne e.symm) hj⟩
  · rw [bget_cons] at hj
    split at hj
    · rename_i e; subst e
      simp [BMap.set] at hb'
      have := hs.base.below.size
      omega
    · rename_i hne
      rw [hβ j (fun e => hne e.symm)] at hb'
      exact hs.high j c hj b' hb'
  · rw [put_getD hs.base.size hd, sget_putS]
    split
    · exact hx
    · rw [sget_forget]
      exact forget_slot fun hn => ((hs.slots t).up hb hu hs.base.dok).frame hβ hn
theorem grew_room (hs : SimAt C a w st D β) {w' : World} {b : Nat} {v : Value} {old : List SV} (hw : Wrote b w w') (hkb : β k = some b) (hp : ∀ t o, ¬ D t b o) (hold : bget st.bs k = some old) (hd : dstB C.n dst = true)
    (hk : BlkOk w' D β k cs) (hx : RepS w' D β v x) : Sim C (a.put dst v) w' ⟨putS dst x (forget k st.sl), (k, some cs) :: st.bs⟩ := by
  refine ⟨D, β, (hs.base.wrote hw (hs.high k _ hold b hkb) (blk_heap (hs.mem.ok k _ hold) hkb) hp).put hd _, hs.mem.write hw hp hkb hold hk, fun j c hj b' hb' => ?_, fun t => ?_⟩
  · rw [bget_cons] at hj
    split at hj
    · rename_i e; subst e; exact hs.high k _ hold b' hb'
    · exact hs.high j c hj b' hb'
  · rw [put_getD hs.base.size hd, sget_putS]
    split
    · exact hx
    · rw [sget_forget]
      exact forget_slot fun _ => hw.repS hp (hs.slots t)
theorem grew_same (hs : SimAt C a w st D β) {v : Value} (hd : dstB C.n dst = true) (hk : BlkOk w D β k cs) (hold : ∃ old, bget st.bs k = some old) (hx : RepS w D β v x) : Sim C (a.put dst v) w ⟨putS dst x (forget k st.sl), (k, some cs) :: st.bs⟩ := by
  obtain ⟨old, hold⟩ := hold
  refine ⟨D, β, hs.base.put hd _, ⟨fun j c hj => ?_, fun j1 j2 c1 c2 h1 h2 => ?_⟩, fun j c hj b' hb' => ?_, fun t => ?_⟩
  · rw [bget_cons] at hj
    split at hj
    · rename_i e; subst e; injection hj with hj; subst hj; exact hk
    · exact hs.mem.ok j c hj
  · have g : ∀ j c, bget ((k, some cs) :: st.bs) j = some c → ∃ c', bget st.bs j = some c' := fun j c hj => by
      rw [bget_cons] at hj
      split at hj
      · rename_i e; subst e; exact ⟨_, hold⟩
      · exact ⟨_, hj⟩
    obtain ⟨d1, g1⟩ := g j1 c1 h1
    obtain ⟨d2, g2⟩ := g j2 c2 h2
    exact hs.mem.inj j1 j2 d1 d2 g1 g2
  · rw [bget_cons] at hj
    split at hj
    · rename_i e; subst e; exact hs.high k _ hold b' hb'
    · exact hs.high j c hj b' hb'
  · rw [put_getD hs.base.size hd, sget_putS]
    split
    · exact hx
    · rw [sget_forget]
      exact forget_slot fun _ => hs.slots t
end
theorem rep_sl_cells {w : World} {D : DSet} {t : TypeId} {s : Nat} {es : List Dat} {v : Value} (h : Rep w D v (.sl t s es)) :
    ∃ (ao : Option Addr) (c : Nat) (us : List Value), v = .slice ao es.length c ∧ es.length ≤ c ∧ us.length = es.length * s ∧ (flat es).length = es.length * s ∧ (∀ u ∈ us, u.oneCell' = true) ∧ (∀ (i : Nat) u d, us[i]? = some u → (flat es)[i]? = some d → Rep w D u d) ∧
      (0 < es.length → ∃ ad : Addr, ao = some ad ∧ ∀ (j : Nat) u, us[j]? = some u → w.cell? (ad.add j) = some u) := by
  cases h with
  | sl g off u hn hc hm hs ha hD hu h1 hr =>
    rename_i a nn cap
    have hfl := flat_length hs
    refine ⟨a, cap, (List.range (flat es).length).map u, by rw [hn], by omega, by simp [hfl], hfl, ?_, ?_, ?_⟩
    · intro x hx
      obtain ⟨i, hi, rfl⟩ := List.mem_map.1 hx
      exact h1 i (List.mem_range.1 hi)
    · intro i x d hx hd
      rw [List.getElem?_map, Option.map_eq_some_iff] at hx
      obtain ⟨j, hj, rfl⟩ := hx
      have hji : j = i := by
        rw [List.getElem?_range (heapless hd)] at hj
        injection hj with hj
        exact hj.symm
      subst hji
      exact hr j d hd
    · intro h0
      refine ⟨⟨g, off, none⟩, ha (by omega), fun j x hx => ?_⟩
      rw [List.getElem?_map, Option.map_eq_some_iff] at hx
      obtain ⟨i, hi, rfl⟩ := hx
      have hlt : i < (flat es).length := by
        have := List.mem_of_getElem? hi
        exact List.mem_range.1 this
      have hij : i = j := by
        have hj : j < (flat es).length := by
          have := (List.getElem?_eq_some_iff.1 hi).1
          simpa using this
        rw [List.getElem?_range hj] at hi
        injection hi with hi
        exact hi.symm
      subst hij
      rw [Addr.add_lit]
      exact hu i hlt
where
  heapless {es : List Dat} {i : Nat} {d : Dat} (h : (flat es)[i]? = some d) : i < (flat es).length := (List.getElem?_eq_some_iff.1 h).1
theorem app_blk {w : World} {D : DSet} {β : BMap} {b : Nat} {arr : List Value} {E : TypeId} {k : Nat} {es : List Dat} (hkb : β k = some b) (hheap : w.heap[b]? = some (.cells arr.toArray E (0, 0))) (hlen : (flat es).length ≤ arr.length)
    (h : ∀ (i : Nat) d, (flat es)[i]? = some d → ∃ u, arr[i]? = some u ∧ u.oneCell' = true ∧ Rep w D u d) (hp : ∀ t o, ¬ D t b o) : BlkOk w D β k ((flat es).map .d) := by
  refine .inr ⟨b, arr.toArray, E, hkb, hheap, by simpa using hlen, fun i x hx => ?_, hp⟩
  rw [List.getElem?_map, Option.map_eq_some_iff] at hx
  obtain ⟨d, hd, rfl⟩ := hx
  obtain ⟨u, e1, e2, e3⟩ := h i d hd
  exact ⟨u, by simpa using e1, e2, e3⟩
section
variable {P : Program} {o : Oper} {st : PS}
theorem app_sound {T E t' : TypeId} {x y : Operand} {k s m bytes : Nat} {zv : List Value} {es es' : List Dat} {cs : List SV} {N : Fr} (ho : o.op = .call { callee := .builtin .append, args := #[x, y], argTypes := #[T, T] })
    (hd : dstB N o.dst = true) (hT : elemB P T = some (E, s)) (hz : zeroB P E = some zv) (hzl : zv.length = s) (hby : bytesB P E = some bytes) (hx : ev (sget st.sl) x = .own k E s m) (hb : bget st.bs k = some cs) (hcs : cs = (flat es).map .d)
    (hes : (flat es).length = m * s) (hy : ev (sget st.sl) y = .d (.sl t' s es')) (hbig : m + es'.length ≤ maxLen) (hbig' : (m + es'.length) * bytes ≤ 140737488355328) (hB : ∀ j c, j ≠ k → bget st.bs j = some c → namesAny k c = false)
    (C : Ctx) (a : Act) (w : World) (Q : Exit → Act → World → Prop) (hn : C.n = N) (hs : Sim C a w st) :
    o.wp P a w (fun a' w' => Sim C a' w' ⟨putS o.dst (.own k E s (m + es'.length)) (forget k st.sl), (k, some ((flat (es ++ es')).map .d)) :: st.bs⟩) Q := by
  obtain ⟨D, β, hs⟩ := hs
  subst hn
  subst hcs
  have hev : ∀ q : Operand, RepS w D β (a.eval q) (ev (sget st.sl) q) := fun q => by
    cases q with
    | tmp t => exact hs.slots t
    | const v => exact Rep.val v
    | func f => exact Rep.val _
    | global g => trivial
  have h1 := hev x
  have h2 := hev y
  rw [hx] at h1
  rw [hy] at h2
  obtain ⟨ao, c, us, hyv, hcc, hul, hfl', hone, hrep, had⟩ := rep_sl_cells h2
  obtain ⟨i, z, z1, z2, z3⟩ := zero_of hz
  obtain ⟨j, f1, f2, f3⟩ := elem_of hT
  have hij : i = j := by rw [z1] at f2; injection f2
  subst hij
  have hbi : i.bytes = bytes := by
    unfold bytesB at hby
    rw [z1] at hby
    simpa using hby
  subst hbi
  have hzs : z.cells.size = s := by rw [z3]; simpa using hzl
  have hml : (maxLen : Int) ≤ 9223372036854775807 := by decide
  have hblk := hs.mem.ok k _ hb
  have hflat : flat (es ++ es') = flat es ++ flat es' := flat_append es es'
  have hfll : (flat (es ++ es')).length = (m + es'.length) * s := by rw [hflat, List.length_append, hes, hfl', Nat.add_mul]
  by_cases hm0 : es'.length = 0
  · have hnil : es' = [] := List.eq_nil_of_length_eq_zero hm0
    subst hnil
    have hrun : (Builtin.append_ #[T, T] o.type #[a.eval x, a.eval y]).run P w = .ok (a.eval x) w := by
      rw [hyv]
      have e0 : ([] : List Dat).length = 0 := rfl
      have hu0 : us = [] := List.eq_nil_of_length_eq_zero (by simpa using hul)
      rcases h1 with ⟨_, _, hv⟩ | ⟨b, cap, vs, _, hv, hheap, _, hmc, _⟩
      · rw [hv, e0]
        cases ao with
        | none => simp [Builtin.append_, run_underlying f1, sizeOf, typeInfo, z1, Builtin.lenOf, Builtin.firstCells]
        | some ad => simp [Builtin.append_, run_underlying f1, sizeOf, typeInfo, z1, Builtin.lenOf, Builtin.firstCells, loadCells, loadCellsFrom]
      · rw [hv, e0]
        cases ao with
        | none => simp [Builtin.append_, run_underlying f1, sizeOf, typeInfo, z1, Builtin.lenOf, Builtin.firstCells, hmc, storeCells]
        | some ad => simp [Builtin.append_, run_underlying f1, sizeOf, typeInfo, z1, Builtin.lenOf, Builtin.firstCells, hmc, storeCells, loadCells, loadCellsFrom]
    have hx' : RepS w D β (a.eval x) (.own k E s (m + ([] : List Dat).length)) := h1
    have := grew_same (dst := o.dst) (cs := (flat (es ++ [])).map .d) (k := k) hs hd (by simpa using hblk) ⟨_, hb⟩ hx'
    unfold Oper.wp execOp
    simp only [ho, resolve, invoke, builtin, Sem.run_bind, Sem.run_pure, Result.andThen_ok, List.map_toArray, List.map_cons, List.map_nil, hrun]
    exact this
  · obtain ⟨ad, rfl, hcell⟩ := had (by omega)
    rcases h1 with ⟨hk0, hm, hv⟩ | ⟨b, cap, vs, hkb, hv, hheap, hvs, hmc, hcap⟩
    · subst hm
      have hbytes : es'.length * i.bytes ≤ 281474976710656 := by rw [Nat.zero_add] at hbig'; omega
      have hr := run_append_nil (P := P) w T o.type E i z f1 z1 z2 ad es'.length c us (by rw [hul, f3]) hcell (by omega) (by omega) hbytes
      have hes0 : flat es = [] := List.eq_nil_of_length_eq_zero (by simpa using hes)
      have hge := grownCap_ge w es'.length 0 E
      have hcm := grownCap_le_maxLen w es'.length 0 E (by omega)
      generalize grownCap w es'.length 0 E = G at hr hge hcm
      have hbel : Below w.heap.size w (w.drew.alloc (.cells (us.toArray ++ Builtin.zeroCells z.cells (G - es'.length)) E)) := ⟨rfl, rfl, rfl, by simp, fun q hq => heap_alloc_old w.drew _ hq⟩
      have hblk' : BlkOk (w.drew.alloc (.cells (us.toArray ++ Builtin.zeroCells z.cells (G - es'.length)) E)) D (β.set k w.heap.size) k ((flat (es ++ es')).map .d) := by
        have earr : us.toArray ++ Builtin.zeroCells z.cells (G - es'.length) = (us ++ (Builtin.zeroCells z.cells (G - es'.length)).toList).toArray := by apply Array.ext'; simp
        refine app_blk (b := w.heap.size) (E := E) (arr := us ++ (Builtin.zeroCells z.cells (G - es'.length)).toList) (by simp [BMap.set]) (by rw [← earr]; exact heap_alloc_new w.drew _) (by rw [hfll, Nat.zero_add, List.length_append]; omega) ?_ (fun t q hq => Nat.lt_irrefl _ (hs.base.dok t _ q hq))
        intro q d hq
        rw [hflat, hes0, List.nil_append] at hq
        have hlt : q < us.length := by
          have := (List.getElem?_eq_some_iff.1 hq).1
          omega
        exact ⟨us[q], by rw [List.getElem?_append_left hlt]; simp [hlt], hone _ (by simp), (hrep q us[q] d (by simp [hlt]) hq).up hbel (DUp.of_same D) hs.base.dok⟩
      have hx' : RepS (w.drew.alloc (.cells (us.toArray ++ Builtin.zeroCells z.cells (G - es'.length)) E)) D (β.set k w.heap.size) (.slice (some ⟨w.heap.size, 0, none⟩) es'.length G) (.own k E s (0 + es'.length)) := by
        rw [Nat.zero_add]
        refine .inr ⟨w.heap.size, G, _, by simp [BMap.set], rfl, heap_alloc_new w.drew _, ?_, hge, hcm⟩
        simp only [Array.size_append, List.size_toArray, size_zeroCells, hzs, hul, ← Nat.add_mul]
        congr 1
        omega
      have := grew_new (dst := o.dst) hs hbel (Nat.le_refl _) hd hB hblk' hx'
      unfold Oper.wp execOp
      simp only [ho, resolve, invoke, builtin, Sem.run_bind, Sem.run_pure, Result.andThen_ok, List.map_toArray, List.map_cons, List.map_nil, hv, hyv, hr]
      exact this
    · have hb4 : ∃ b' vs' T', β k = some b' ∧ w.heap[b']? = some (.cells vs' T' (0, 0)) ∧ ((flat es).map SV.d).length ≤ vs'.size ∧ (∀ (i : Nat) x, ((flat es).map SV.d)[i]? = some x → ∃ u, vs'[i]? = some u ∧ u.oneCell' = true ∧ RepS w D β u x) ∧ ∀ t o, ¬ D t b' o := by
        rcases hblk with ⟨e, _⟩ | h
        · rw [hkb] at e; cases e
        · exact h
      obtain ⟨b', vs', T', e1, e2, e3, e4, e5⟩ := hb4
      have : b' = b := by rw [hkb] at e1; injection e1 with e1; exact e1.symm
      subst this
      have : vs' = vs := by rw [hheap] at e2; injection e2 with e2; injection e2 with e2; exact e2.symm
      subst this
      have e4' : ∀ (q : Nat) d, (flat es)[q]? = some d → ∃ u, vs'[q]? = some u ∧ u.oneCell' = true ∧ Rep w D u d := fun q d hq => e4 q (.d d) (by rw [List.getElem?_map, hq]; rfl)
      have hle : m * s ≤ vs'.size := by rw [hvs]; exact Nat.mul_le_mul_right _ hmc
      by_cases hroom : m + es'.length ≤ cap
      · have hfit : m * s + us.length ≤ vs'.size := by rw [hul, hvs, ← Nat.add_mul]; exact Nat.mul_le_mul_right _ hroom
        have hr := run_append_room (P := P) w T o.type E i f1 z1 b' m cap vs' hheap ad es'.length c us (by rw [hul, f3]) hcell hone hroom (by rw [f3]; exact hfit)
        rw [f3] at hr
        have hpl := patch_length (l := vs'.toList) (off := m * s) (new := us) (by simpa using hfit)
        have hw := wrote_setRow w b' (vs'.toList.take (m * s) ++ us ++ vs'.toList.drop (m * s + us.length)).toArray (fun vs2 T2 f2 h => by
          rw [hheap] at h
          injection h with h
          injection h with h
          subst h
          have e : patch vs'.toList (m * s) us = vs'.toList.take (m * s) ++ us ++ vs'.toList.drop (m * s + us.length) := rfl
          rw [e] at hpl
          simpa using hpl)
        have hheap' := setRow_heap w b' vs' (vs'.toList.take (m * s) ++ us ++ vs'.toList.drop (m * s + us.length)).toArray E _ hheap
        have hpg : ∀ q, (vs'.toList.take (m * s) ++ us ++ vs'.toList.drop (m * s + us.length))[q]? = if q < m * s then vs'.toList[q]? else if q < m * s + us.length then us[q - m * s]? else vs'.toList[q]? := fun q => patch_get (by simpa using hfit) q
        have hblk' : BlkOk (w.setRow b' (vs'.toList.take (m * s) ++ us ++ vs'.toList.drop (m * s + us.length)).toArray) D β k ((flat (es ++ es')).map .d) := by
          refine app_blk hkb hheap' ?_ ?_ e5
          · have e : patch vs'.toList (m * s) us = vs'.toList.take (m * s) ++ us ++ vs'.toList.drop (m * s + us.length) := rfl
            rw [e] at hpl
            rw [hpl, hfll, Nat.add_mul]
            simp only [Array.length_toList]
            omega
          · intro q d hq
            rw [hpg q]
            rw [hflat] at hq
            by_cases c1 : q < m * s
            · rw [if_pos c1]
              rw [List.getElem?_append_left (by omega)] at hq
              obtain ⟨u, g1, g2, g3⟩ := e4' q d hq
              exact ⟨u, by simpa using g1, g2, hw.rep e5 g3⟩
            · rw [List.getElem?_append_right (by omega), hes] at hq
              have hlt : q - m * s < us.length := by
                have := (List.getElem?_eq_some_iff.1 hq).1
                omega
              rw [if_neg c1, if_pos (by omega)]
              exact ⟨us[q - m * s], by simp [hlt], hone _ (by simp), hw.rep e5 (hrep _ _ d (by simp [hlt]) hq)⟩
        have hx' : RepS (w.setRow b' (vs'.toList.take (m * s) ++ us ++ vs'.toList.drop (m * s + us.length)).toArray) D β (.slice (some ⟨b', 0, none⟩) (m + es'.length) cap) (.own k E s (m + es'.length)) := by
          refine .inr ⟨b', cap, _, hkb, rfl, hheap', ?_, hroom, hcap⟩
          have e : patch vs'.toList (m * s) us = vs'.toList.take (m * s) ++ us ++ vs'.toList.drop (m * s + us.length) := rfl
          rw [e] at hpl
          simpa [hvs] using hpl
        have := grew_room (dst := o.dst) hs hw hkb e5 hb hd hblk' hx'
        unfold Oper.wp execOp
        simp only [ho, resolve, invoke, builtin, Sem.run_bind, Sem.run_pure, Result.andThen_ok, List.map_toArray, List.map_cons, List.map_nil, hv, hyv, hr]
        exact this
      · have hol : (vs'.toList.take (m * s)).length = m * i.size := by rw [f3, List.length_take]; simp; omega
        have holds : ∀ q u, (vs'.toList.take (m * s))[q]? = some u → w.cell? ((⟨b', 0, none⟩ : Addr).add q) = some u := fun q u hq => by
          rw [Addr.add_lit, Nat.zero_add, cell_of_row w b' q vs' E (0, 0) hheap]
          rw [List.getElem?_take] at hq
          split at hq
          · simpa using hq
          · cases hq
        have hr := run_append_grow (P := P) w T o.type E i z f1 z1 z2 ⟨b', 0, none⟩ m cap (vs'.toList.take (m * s)) hol holds ad es'.length c us (by rw [hul, f3]) hcell (by omega) (by omega) (growslice_fits (by omega) hbig')
        have hge := grownCap_ge w (m + es'.length) cap E
        have hcm := grownCap_le_maxLen w (m + es'.length) cap E (by omega)
        generalize grownCap w (m + es'.length) cap E = G at hr hge hcm
        have hbel : Below w.heap.size w (w.drew.alloc (.cells ((vs'.toList.take (m * s)).toArray ++ us.toArray ++ Builtin.zeroCells z.cells (G - (m + es'.length))) E)) := ⟨rfl, rfl, rfl, by simp, fun q hq => heap_alloc_old w.drew _ hq⟩
        have hblk' : BlkOk (w.drew.alloc (.cells ((vs'.toList.take (m * s)).toArray ++ us.toArray ++ Builtin.zeroCells z.cells (G - (m + es'.length))) E)) D (β.set k w.heap.size) k ((flat (es ++ es')).map .d) := by
          have earr : (vs'.toList.take (m * s)).toArray ++ us.toArray ++ Builtin.zeroCells z.cells (G - (m + es'.length)) = (vs'.toList.take (m * s) ++ us ++ (Builtin.zeroCells z.cells (G - (m + es'.length))).toList).toArray := by apply Array.ext'; simp
          rw [f3] at hol
          refine app_blk (b := w.heap.size) (E := E) (by simp [BMap.set]) (by rw [← earr]; exact heap_alloc_new w.drew _) (by rw [hfll, List.length_append, List.length_append, hol, Nat.add_mul]; omega) ?_ (fun t q hq => Nat.lt_irrefl _ (hs.base.dok t _ q hq))
          intro q d hq
          rw [hflat] at hq
          by_cases c1 : q < m * s
          · rw [List.getElem?_append_left (by omega)] at hq
            obtain ⟨u, g1, g2, g3⟩ := e4' q d hq
            refine ⟨u, ?_, g2, g3.up hbel (DUp.of_same D) hs.base.dok⟩
            rw [List.append_assoc, List.getElem?_append_left (by omega), List.getElem?_take, if_pos c1]
            simpa using g1
          · rw [List.getElem?_append_right (by omega), hes] at hq
            have hlt : q - m * s < us.length := by
              have := (List.getElem?_eq_some_iff.1 hq).1
              omega
            refine ⟨us[q - m * s], ?_, hone _ (by simp), (hrep _ _ d (by simp [hlt]) hq).up hbel (DUp.of_same D) hs.base.dok⟩
            rw [List.append_assoc, List.getElem?_append_right (by omega), hol, List.getElem?_append_left hlt]
            simp [hlt]
        have hx' : RepS (w.drew.alloc (.cells ((vs'.toList.take (m * s)).toArray ++ us.toArray ++ Builtin.zeroCells z.cells (G - (m + es'.length))) E)) D (β.set k w.heap.size) (.slice (some ⟨w.heap.size, 0, none⟩) (m + es'.length) G) (.own k E s (m + es'.length)) := by
          refine .inr ⟨w.heap.size, G, _, by simp [BMap.set], rfl, heap_alloc_new w.drew _, ?_, hge, hcm⟩
          rw [f3] at hol
          simp only [Array.size_append, List.size_toArray, size_zeroCells, hzs, hul, hol, ← Nat.add_mul]
          congr 1
          omega
        have := grew_new (dst := o.dst) hs hbel (Nat.le_refl _) hd hB hblk' hx'
        unfold Oper.wp execOp
        simp only [ho, resolve, invoke, builtin, Sem.run_bind, Sem.run_pure, Result.andThen_ok, List.map_toArray, List.map_cons, List.map_nil, hv, hyv, hr]
        exact this
end
def Clr (k : Nat) (bs : BS) : Prop := ∀ j c, j ≠ k → bget bs j = some c → namesAny k c = false
theorem namesAny_map {α : Type} (k : Nat) (f : α → Dat) (l : List α) : namesAny k (l.map (fun g => SV.d (f g))) = false := by
  simp only [namesAny, List.any_eq_false]
  intro x hx
  obtain ⟨g, _, rfl⟩ := List.mem_map.1 hx
  simp [SV.names]
theorem clr_nil (k : Nat) : Clr k [] := fun j c _ h => by simp [bget] at h
theorem clr_self {k : Nat} {x : Option (List SV)} {bs : BS} (h : Clr k bs) : Clr k ((k, x) :: bs) := fun j c hj hb => by
  rw [bget_cons, if_neg (fun e => hj e.symm)] at hb
  exact h j c hj hb
theorem clr_cons {k j : Nat} {cs : List SV} {bs : BS} (hc : namesAny k cs = false) (h : Clr k bs) : Clr k ((j, some cs) :: bs) := fun i c hi hb => by
  rw [bget_cons] at hb
  split at hb
  · injection hb with hb; subst hb; exact hc
  · exact h i c hi hb
theorem clr_map {α : Type} {k j : Nat} {f : α → Dat} {l : List α} {bs : BS} (h : Clr k bs) : Clr k ((j, some (l.map (fun g => SV.d (f g)))) :: bs) := clr_cons (namesAny_map k f l) h
theorem clr_d {k j : Nat} {l : List Dat} {bs : BS} (h : Clr k bs) : Clr k ((j, some (l.map SV.d)) :: bs) := clr_cons (namesAny_map k id l) h
theorem clr_bx {k j : Nat} {d : Dat} {bs : BS} (h : Clr k bs) : Clr k ((j, some (bx d)) :: bs) := clr_d h
section
variable {P : Program} {n : Fr} {ops : Array Oper} {S S' : SL} {B B' : BS} {l : List Oper} {o : Oper}
theorem nilOwn_sem {d : Tmp} (k : Nat) (E s : Nat) (ho : o.op = .assign (.const (.slice none 0 0)) ∨ o.op = .move (.const (.slice none 0 0))) (hdst : o.dst = some d) (hd : dstB n (some d) = true) (hf : freshB k ⟨S, B⟩ = true)
    (C : Ctx) (a : Act) (w : World) (Q : Exit → Act → World → Prop) (hn : C.n = n) (hs : Sim C a w ⟨S, B⟩) : o.wp P a w (fun a' w' => Sim C a' w' ⟨(d, .own k E s 0) :: S, (k, some []) :: B⟩) Q := by
  subst hn
  obtain ⟨D, β, hs⟩ := hs
  have hrun : (execOp a.eval o).run P w = .ok (.value (.slice none 0 0)) w := by
    rcases ho with ho | ho
    · simp only [execOp, ho, Sem.run_pure]; rfl
    · simp only [execOp, ho, Sem.run_pure]; rfl
  refine wp_value hrun ?_
  rw [hdst]
  have hβ : ∀ j, j ≠ k → (fun j => if j = k then none else β j : BMap) j = β j := fun j hj => by simp [hj]
  refine ⟨D, fun j => if j = k then none else β j, hs.base.put hd _, ⟨fun j c hj => ?_, fun j1 j2 c1 c2 h1 h2 b e1 e2 => ?_⟩, fun j c hj b hb => ?_, fun t => ?_⟩
  · rw [bget_cons] at hj
    split at hj
    · rename_i e; subst e; injection hj with hj; subst hj
      exact .inl ⟨by simp, rfl⟩
    · obtain ⟨h1, h2⟩ := fresh_blk hf hj
      exact (hs.mem.ok j c hj).frame hβ h1 h2
  · have n1 : j1 ≠ k := fun e => by subst e; simp at e1
    have n2 : j2 ≠ k := fun e => by subst e; simp at e2
    simp only [if_neg n1] at e1
    simp only [if_neg n2] at e2
    rw [bget_cons, if_neg (fun e => n1 e.symm)] at h1
    rw [bget_cons, if_neg (fun e => n2 e.symm)] at h2
    exact hs.mem.inj j1 j2 c1 c2 h1 h2 b e1 e2
  · have nj : j ≠ k := fun e => by subst e; simp at hb
    simp only [if_neg nj] at hb
    rw [bget_cons, if_neg (fun e => nj e.symm)] at hj
    exact hs.high j c hj b hb
  · show RepS w D _ ((a.put (some d) (.slice none 0 0)).tmps.getD t undef) (sget ((d, .own k E s 0) :: S) t)
    rw [put_getD hs.base.size hd, sget_cons]
    by_cases e : d = t
    · rw [if_pos e, if_pos (by rw [e])]
      exact .inl ⟨by simp, rfl, rfl⟩
    · rw [if_neg e, if_neg (fun e' => e (by injection e'))]
      exact (hs.slots t).frame hβ (fresh_slot hf t)
end
section
variable {P : Program} {o : Oper} {S : Nat → SV}
theorem n_bso {T E : TypeId} {s len : Nat} {ps : List (Nat × Operand)} {pd : List (Nat × Dat)} {zv : List Value} {zd es : List Dat} {cs : List SV} (k : Nat) (ho : o.op = .buildSlice T len ps.toArray) (hT : elemB P T = some (E, s)) (hz : zeroB P E = some zv) (hzd : ZOk zv zd) (hzl : zd.length = s)
    (hps : ps.map (fun p => (p.1, ev S p.2)) = pd.map (fun p => (p.1, .d p.2))) (hok : pd.all (fun p => p.2.ok1) = true) (hbig : Nat.ble (len * s) 16777216 = true) (hbig' : Nat.ble len 16777216 = true) (hlen : es.length = len) (hs : es.map (fun e => e.cells.length) = List.replicate len s)
    (hr : fillL (fun i => some (i * s, s)) (List.replicate len zd).flatten (pd.map fun p => (p.1, p.2.cells)) = some (flat es)) (hcs : (flat es).map .d = cs) : NOk P o S k cs (.own k E s len) :=
  fun a w D β Q hop hD => by
    subst hcs
    have hbig := Nat.le_of_ble_eq_true hbig
    have hbig' := Nat.le_of_ble_eq_true hbig'
    have hs : ∀ e ∈ es, e.cells.length = s := fun e he => by
      have : e.cells.length ∈ es.map (fun e => e.cells.length) := List.mem_map_of_mem he
      rw [hs] at this
      exact (List.mem_replicate.1 this).2
    obtain ⟨i, z, z1, z2, z3⟩ := zero_of hz
    obtain ⟨j, e1, e2, e3⟩ := elem_of hT
    have hij : i = j := by rw [z1] at e2; injection e2
    subst hij
    obtain ⟨q1, q2⟩ := opnds_parts (a := a) (w := w) (D := D) (β := β) hps hok (fun p hp => hop p.2 (by
      simp only [ho, Op.operands]
      exact List.mem_toArray.2 (by simpa using List.mem_map_of_mem (f := (·.2)) hp)))
    have hzvl : zv.length = zd.length := (zok_spec (w := w) (D := D) hzd).1
    have hzs : z.cells.size = s := by rw [z3]; simp; omega
    have hrz := range_zero_cells z.cells s len hzs
    have hzero : RepL w D ((Array.range (len * s)).map (z.cells[· % z.cells.size]!)).toList (List.replicate len zd).flatten := by
      rw [hrz, z3]
      exact repL_zeros hzd len
    obtain ⟨cs', f1, f2⟩ := fill_spec (fun i => some (i * s, s)) _ _ _ _ _ q1 q2 hzero hr
    have hpp : (ps.toArray.map fun p => (p.1, a.eval p.2)).toList = ps.map fun p => (p.1, a.eval p.2) := by simp
    have hrun : (execOp a.eval o).run P w = .ok (.value (.slice (some ⟨w.heap.size, 0, none⟩) len len)) (w.alloc (.cells cs' E)) := by
      by_cases h0 : len * s = 0
      · rw [h0] at f1
        simp only [Array.range_zero', Array.map_empty] at f1
        simp only [execOp, ho, Instr.buildSlice, Sem.run_bind, run_underlying e1, Result.andThen_ok, run_sizeOf e2, e3, h0, if_true, Array.range_zero', Array.map_empty, hpp, Sem.run_pure]
        rw [if_neg (by omega)]
        simp only [Sem.run_bind, Sem.run_pure, Result.andThen_ok, f1, newRow, run_newObj]
        rfl
      · simp only [execOp, ho, Instr.buildSlice, Sem.run_bind, run_underlying e1, Result.andThen_ok, run_sizeOf e2, e3, h0, if_false, hpp]
        rw [if_neg (by omega)]
        simp only [Sem.run_bind, Sem.run_pure, Result.andThen_ok, run_zero z1 z2, f1, newRow, run_newObj]
        rfl
    refine npost_new (vs := cs') (T := E) hD f2 hrun ?_
    refine .inr ⟨w.heap.size, len, cs', by simp [BMap.set], rfl, heap_alloc_new w _, ?_, Nat.le_refl _, by unfold maxLen; omega⟩
    have h1 := f2.1
    rw [flat_length hs, hlen] at h1
    simpa using h1
end
end Go.Fid
namespace Go.Fid
open Go.RowKit (Below)
structure Backs (P : Program) (fB fI : FuncId) (T : TypeId) : Prop where
  call : ∀ (a : Option Addr) (len cap : Nat) (w : World), Calls P fB #[.slice a len cap] w fun e w' => e = .returned (.func (.func fI) #[] #[.pointer (some ⟨w.heap.size, 0, none⟩)]) ∧ w' = w.alloc (.cells #[.slice a len cap] T)
  empty : ∀ (N l b cap : Nat) (ao : Option Addr) (J : World → Prop) (W : World), W.cell? ⟨b, 0, none⟩ = some (.slice ao 0 cap) → J W →
    CallsIn Fence.wide (N + 1) P fI #[.func (.yield l) #[] #[], .pointer (some ⟨b, 0, none⟩)] W fun e W' => (∃ v, e = .returned v) ∧ J W'
  rounds : ∀ (N l c b off len cap : Nat) (u : Nat → Value), (len : Int) ≤ 9223372036854775807 → ∀ (J : Nat → World → Prop) (Jx : World → Prop),
    (∀ j W, J j W → W.cell? ⟨c, 0, none⟩ = some (.slice (some ⟨b, off, none⟩) len cap) ∧ ∀ i, i < len → W.cell? ⟨b, off + i, none⟩ = some (u i)) →
    (∀ j W, J j W → j < len → YieldAt Fence.wide N P l #[.int .i64 ((len : Int) - 1 - (j : Int)), u (len - 1 - j)] W fun e W' => (e = .returned (.bool true) ∧ J (j + 1) W') ∨ (e = .returned (.bool false) ∧ Jx W')) →
    ∀ W, J 0 W → CallsIn Fence.wide (N + 1) P fI #[.func (.yield l) #[] #[], .pointer (some ⟨c, 0, none⟩)] W fun e W' => (∃ v, e = .returned v) ∧ (J len W' ∨ Jx W')
  enters : ∀ args w, (callFunc fI args).run P w = .ok (.enter fI args) w
theorem callsIn_any {P : Program} {f : FuncId} {args : Array Value} {w : World} {R : Ending → World → Prop} {n m : Nat} (h : CallsIn Fence.wide n P f args w R) : CallsIn Fence.wide m P f args w R := callsIn_wide.2 (callsIn_wide.1 h)
section
variable {C : Ctx} {a a' : Act} {w w' : World} {st : PS} {D : DSet} {β : BMap}
theorem sim_repin (h : Sim C a w st) (a0 : Act) (hs : ∀ p ∈ st.sl, p.1 < C.n.lo) (hsz : a0.tmps.size = C.n.hi) (hp : ∀ t, t < C.n.lo → a0.tmps.getD t undef = C.tm.getD t undef) (hd : DfOk C.w0.heap.size w a0.defers) : Sim C a0 w st := by
  obtain ⟨D, β, h⟩ := h
  refine ⟨D, β, ⟨hd, hsz, h.base.keep, h.base.oth, hp, h.base.below, h.base.dmono, h.base.dnew, h.base.dok⟩, h.mem, h.high, fun t => ?_⟩
  by_cases ht : t < C.n.lo
  · rw [hp t ht, ← h.base.pin t ht]; exact h.slots t
  · have : sget st.sl t = .junk := by
      have hne : ∀ p ∈ st.sl, p.1 ≠ t := fun p hp e => ht (e ▸ hs p hp)
      revert hne
      generalize st.sl = l
      intro hne
      induction l with
      | nil => rfl
      | cons p l ih =>
        obtain ⟨j, x⟩ := p
        rw [sget_cons, if_neg (hne (j, x) (by simp))]
        exact ih fun q hq => hne q (by simp [hq])
    rw [this]; trivial
theorem sim_turned {q : Nat} {ob ob' : Obj} (h : Sim C a w st) (hq : w.heap[q]? = some ob) (hc : ob.isCells = false) (hc' : ob'.isCells = false) (h0 : C.w0.heap.size ≤ q) (h1 : C.w1.heap.size ≤ q) (hne : ∀ ds, ob ≠ .deferred ds) : Sim C a (w.putObj q ob') st := by
  obtain ⟨D, β, h⟩ := h
  have hsz : (w.putObj q ob').heap.size = w.heap.size := by simp [World.putObj]
  refine ⟨D, β, ⟨h.base.defers.keep fun q' hq' _ => ?_, h.base.size, fun t g o hd => (turned_cell hq hc hc' g o).trans (h.base.keep t g o hd), fun k o hk ho => ?_, h.base.pin, turned_below h.base.below h0, h.base.dmono, h.base.dnew, fun t g o hd => by rw [hsz]; exact h.base.dok t g o hd⟩,
    ⟨fun k cs hk => turned_blk hq hc hc' (h.mem.ok k cs hk), h.mem.inj⟩, h.high, fun t => turned_rep hq hc hc' (h.slots t)⟩
  · have : q' ≠ q := fun e => by subst e; rw [hq] at hq'; injection hq' with e; exact hne _ e
    exact (World.putObj_heap_other this).trans hq'
  · have : k ≠ q := fun e => by subst e; have := heap_lt hk; omega
    exact (World.putObj_heap_other this).trans (h.base.oth k o hk ho)
theorem sim_from (h : Sim C a w st) : Sim { C with w1 := w } a w st := by
  obtain ⟨D, β, h⟩ := h
  exact ⟨D, β, ⟨h.base.defers, h.base.size, fun _ _ _ _ => rfl, fun _ _ hk _ => hk, h.base.pin, h.base.below, h.base.dmono, h.base.dnew, h.base.dok⟩, h.mem, h.high, h.slots⟩
theorem sim_back {a0 : Act} {st0 : PS} (h : Sim { C with w1 := w' } a w st) (h0 : Sim C a0 w' st0) : Sim C a w st := by
  obtain ⟨D, β, h⟩ := h
  obtain ⟨D0, β0, h0⟩ := h0
  exact ⟨D, β, ⟨h.base.defers, h.base.size, fun t g o hd => (h.base.keep t g o hd).trans (h0.base.keep t g o hd), fun k o hk ho => h.base.oth k o (h0.base.oth k o hk ho) ho, h.base.pin, h.base.below, h.base.dmono, h.base.dnew, h.base.dok⟩, h.mem, h.high, h.slots⟩
end
section
variable {P : Program} {n : Fr} {fB fI : FuncId} {T : TypeId} {S : SL} {B : BS} {Q : Exit → PS → Prop} {α : Type}
def BackQ (lo : Nat) (St : α → PS) (I : Nat → α → Prop) (Q : Exit → PS → Prop) (j : Nat) : Exit → PS → Prop
  | .normal, st => ∃ y, SimImp st (St y) ∧ I (j + 1) y
  | .ret, st => ∃ st', SimImp st st' ∧ (∀ p ∈ st'.sl, p.1 < lo) ∧ Q .ret st'
  | _, _ => False
theorem out_of {C : Ctx} {a a1 : Act} {w w1 w4 : World} {D : DSet} {β : BMap} {st0 st : PS} {lo l q : Nat} {tm : Array Value} {rd : Option Nat} (hs : SimAt C a w st0 D β) (hbel : Below w.heap.size w w1) (hq0 : w.heap.size ≤ q) (hsz : a1.tmps.size = C.n.hi) (hpin : ∀ t, t < C.n.lo → a1.tmps.getD t undef = a.tmps.getD t undef)
    (ha1 : a1.defers = a.defers) (h : Sim ⟨C.w0, fun t g o => D t g o ∨ (t = l ∧ g = w.heap.size ∧ o = 0), w1, tm, ⟨lo, C.n.hi, rd⟩⟩ { tmps := a1.tmps, defers := [] } w4 st) (hq : w4.heap[q]? = some (Obj.deferred (some []))) :
    Sim C { a1 with defers := { target := .collected q, args := #[] } :: a1.defers } w4 st := by
  obtain ⟨D', β', h⟩ := h
  have hb0 := hs.base.below.size
  refine ⟨D', β', ⟨?_, hsz, fun t g o hd => ?_, fun k o hk ho => ?_, fun t ht => (hpin t ht).trans (hs.base.pin t ht), h.base.below, fun t g o hd => h.base.dmono _ _ _ (.inl (hs.base.dmono _ _ _ hd)), fun t g o hd => ?_, h.base.dok⟩, h.mem, h.high, h.slots⟩
  · rw [ha1]
    refine .cons (by omega) hq ?_ (hs.base.defers.keep fun q' hq' _ => h.base.oth q' _ ((hbel.block q' (heap_lt hq')).trans hq') rfl)
    have key : ∀ {ds : List Deferred}, DfOk C.w0.heap.size w ds → ∀ d ∈ ds, d.target ≠ .collected q := by
      intro ds hd
      induction hd with
      | nil => intro d hd; cases hd
      | cons h1 h2 h3 h ih =>
        intro d hd
        rcases List.mem_cons.1 hd with rfl | hd
        · intro e
          injection e with e
          have := heap_lt h2
          omega
        · exact ih d hd
    exact key hs.base.defers
  · exact (h.base.keep t g o (.inl (hs.base.dmono _ _ _ hd))).trans ((cell_below hbel (hs.base.dok t g o (hs.base.dmono _ _ _ hd))).trans (hs.base.keep t g o hd))
  · have h1 := hs.base.oth k o hk ho
    exact h.base.oth k o ((hbel.block k (heap_lt h1)).trans h1) ho
  · rcases h.base.dnew t g o hd with (h1 | ⟨_, h1, _⟩) | h1
    · exact hs.base.dnew t g o h1
    · exact .inr (by omega)
    · exact .inr h1
theorem pwp_back (hbk : Backs P fB fI T) (hcb : callB P fB = true) (hrd : n.rd = none) {id rid : Nat} {o1 o2 : Oper} {t0 ta tf p1 p2 : Tmp} {ats : Array TypeId} {assign body : Code} {E : TypeId} {es : List Dat} (lo : Nat) (St : α → PS) (I : Nat → α → Prop) (x0 : α)
    (h1 : o1.op = .move (.tmp t0)) (h1d : o1.dst = some ta) (h1g : o1.guard = none) (h2 : o2.op = .call { callee := .value (.func fB), args := #[.tmp ta], argTypes := ats }) (h2d : o2.dst = some tf) (h2g : o2.guard = none)
    (hda : dstB n (some ta) = true) (hdf : dstB n (some tf) = true) (hd1 : dstB ⟨lo, n.hi, none⟩ (some p1) = true) (hd2 : dstB ⟨lo, n.hi, none⟩ (some p2) = true) (hlo : Nat.ble n.lo lo = true)
    (hx : sget S t0 = .d (.sl E 1 es)) (hst : ∀ x, ∀ p ∈ (St x).sl, p.1 < lo) (h0 : SimImp ⟨(tf, .junk) :: (ta, .junk) :: S, B⟩ (St x0)) (hI : I 0 x0) (hlen : (es.length : Int) ≤ 9223372036854775807)
    (hround : ∀ (l j : Nat) (x : α) (d : Dat), j < es.length → I j x → es[es.length - 1 - j]? = some d →
      PWp P ⟨lo, n.hi, some l⟩ assign (PThen (PWp P ⟨lo, n.hi, some l⟩ body (BackQ lo St I Q j)) (fun _ _ => False)) ⟨(p2, .d d) :: (p1, .d (.val (.int .i64 ((es.length : Int) - 1 - (j : Int))))) :: (St x).sl, (St x).bs⟩)
    (hcell : ∀ e ∈ es, e.cells = [e]) (hend : ∀ x, I es.length x → Q .normal (St x)) :
    PWp P n (.seq (.region rid #[o1, o2] false) (.block id (.rangeFunc (.tmp tf) #[p1, p2] assign body))) Q ⟨S, B⟩ := fun C a w N hn hs => by
  subst hn
  obtain ⟨D, β, hs⟩ := hs
  have hfen : fen C.n = Fence.wide := by unfold fen; rw [hrd]; rfl
  have hv := hs.slots t0
  have hv' : RepS w D β (a.tmps.getD t0 undef) (sget S t0) := hv
  rw [hx] at hv'
  have hev : a.eval (.tmp t0) = a.tmps.getD t0 undef := rfl
  generalize a.tmps.getD t0 undef = v at hv' hev
  have hv'' : Rep w D v (.sl E 1 es) := hv'
  have hflat : flat es = es := by
    clear hst h0 hround hx hv hv' hv'' hlen hend
    induction es with
    | nil => rfl
    | cons e es ih => rw [flat_cons, hcell e (by simp), ih (fun e he => hcell e (by simp [he]))]; rfl
  cases hv'' with
  | sl g off u hnn hcc hmm hss ha hD hu hone hrr =>
  rename_i ad len cap
  subst hnn
  rw [hflat] at hD hu hone hrr
  obtain ⟨w1, hw1⟩ : ∃ w1, w1 = w.alloc (.cells #[Value.slice ad es.length cap] T) := ⟨_, rfl⟩
  obtain ⟨a1, ha1⟩ : ∃ a1 : Act, a1 = (a.put (some ta) (.slice ad es.length cap)).put (some tf) (.func (.func fI) #[] #[.pointer (some ⟨w.heap.size, 0, none⟩)]) := ⟨_, rfl⟩
  have hbel : Below w.heap.size w w1 := by rw [hw1]; exact (Below.refl _ w).alloc (Nat.le_refl _) _
  have hsz1 : a1.tmps.size = C.n.hi := by rw [ha1, put_size, put_size]; exact hs.base.size
  have hdf1 : a1.defers = a.defers := by rw [ha1, put_defers, put_defers]
  have hsza : (a.put (some ta) (Value.slice ad es.length cap)).tmps.size = C.n.hi := put_size.trans hs.base.size
  have hget1 : ∀ t, a1.tmps.getD t undef = if some tf = some t then .func (.func fI) #[] #[.pointer (some ⟨w.heap.size, 0, none⟩)] else if some ta = some t then .slice ad es.length cap else a.tmps.getD t undef := fun t => by
    rw [ha1, put_getD hsza hdf, put_getD hs.base.size hda]
  have hpin1 : ∀ t, t < C.n.lo → a1.tmps.getD t undef = a.tmps.getD t undef := fun t ht => by
    simp only [dstB, Bool.and_eq_true] at hda hdf
    have e1 := Nat.le_of_ble_eq_true hda.1
    have e2 := Nat.le_of_ble_eq_true hdf.1
    rw [hget1, if_neg (fun e => by injection e with e; subst e; omega), if_neg (fun e => by injection e with e; subst e; omega)]
  have hw1c : w1.cell? ⟨w.heap.size, 0, none⟩ = some (.slice ad es.length cap) := by
    rw [hw1]
    have := heap_alloc_new w (.cells #[Value.slice ad es.length cap] T)
    rw [cell_of_row _ _ 0 _ _ _ this]; rfl
  have hw1s : w1.heap.size = w.heap.size + 1 := by rw [hw1]; simp
  -- the context of the rounds
  obtain ⟨C1, hC1⟩ : ∃ C1 : Nat → Ctx, C1 = fun l => ⟨C.w0, fun t g o => D t g o ∨ (t = T ∧ g = w.heap.size ∧ o = 0), w1, a1.tmps, ⟨lo, C.n.hi, some l⟩⟩ := ⟨_, rfl⟩
  have hsim1 : ∀ l, Sim (C1 l) { tmps := a1.tmps, defers := [] } w1 (St x0) := fun l => by
    refine h0 _ _ _ ?_
    rw [hC1]
    have hu' : DUp D (fun t g o => D t g o ∨ (t = T ∧ g = w.heap.size ∧ o = 0)) w w1 := ⟨fun _ _ _ h => .inl h, fun t g o h => by
      rcases h with h | ⟨_, h, _⟩
      · exact .inl h
      · exact .inr (by omega)⟩
    have hB := hs.base.up hbel hu'
    refine ⟨_, β, ⟨.nil, hsz1, fun _ _ _ _ => rfl, fun _ _ h _ => h, fun _ _ => rfl, hB.below, fun _ _ _ h => h, fun _ _ _ h => .inl h, hB.dok⟩, hs.mem.up hbel hu' hs.base.dok, hs.high, fun t => ?_⟩
    show RepS w1 _ β (a1.tmps.getD t undef) (sget ((tf, .junk) :: (ta, .junk) :: S) t)
    rw [sget_cons, sget_cons, hget1]
    by_cases e1 : tf = t
    · rw [if_pos e1]; trivial
    · rw [if_neg e1, if_neg (fun e => e1 (by injection e))]
      by_cases e2 : ta = t
      · rw [if_pos e2]; trivial
      · rw [if_neg e2, if_neg (fun e => e2 (by injection e))]
        exact (hs.slots t).up hbel hu' hs.base.dok
  have hp1 : plainB o1 = true := by simp [plainB, h1]
  have hp2 : plainB o2 = true := by simp [plainB, h2]
  refine wpIn_seq (wpIn_region_lit (wpListIn_plain h1g fun K1 hK1 => op_lift hp1 (wp_value (v := .slice ad es.length cap) (w' := w) ?_ (hK1 _ _ (wpListIn_plain h2g fun K2 hK2 => op_lift hp2 (wp_enter (f := fB) (args := #[.slice ad es.length cap]) (w' := w) ?_ ?_))))))
  · simp only [execOp, h1, hev, Sem.run_pure]
  · have hta : (a.put o1.dst (Value.slice ad es.length cap)).eval (.tmp ta) = .slice ad es.length cap := by
      show (a.put o1.dst (Value.slice ad es.length cap)).tmps.getD ta undef = _
      rw [h1d, put_getD hs.base.size hda, if_pos rfl]
    have hfe : (a.put o1.dst (Value.slice ad es.length cap)).eval (.func fB) = .func (.func fB) #[] #[] := rfl
    simp only [execOp, h2, resolve, Deferred.ofValue, hfe, Sem.run_bind, Sem.run_pure, Result.andThen_ok, invoke, Array.empty_append, Array.append_empty, List.map_toArray, List.map_cons, List.map_nil, hta]
    rw [run_callFunc hcb]
  · refine (hbk.call ad es.length cap w).mono ?_
    rintro e w' ⟨rfl, rfl⟩
    refine ⟨_, rfl, hK2 _ _ (wpListIn_nil ?_)⟩
    show (Code.block id (.rangeFunc (.tmp tf) #[p1, p2] assign body)).wpIn _ _ _ _ _ _
    rw [h1d, h2d, ← hw1, ← ha1, hfen]
    refine wpIn_block (wpIn_rangeFunc ?_)
    intro fn _
    have hrn : Fence.wide.round = none := rfl
    rw [hrn]
    obtain ⟨rec, hrec⟩ : ∃ rec : LoopState → Option Code → Loop, rec = fun st pe => { state := st, pending := pe, fn, tmps := a1.tmps, params := #[p1, p2], assign, body, defers := w1.heap.size } := ⟨_, rfl⟩
    obtain ⟨W1, hW1⟩ : ∃ W1, (w1.alloc (.deferred (some []))).alloc (.loop (rec .ready none)) = W1 := ⟨_, rfl⟩
    have hL1 : W1.heap[w1.heap.size + 1]? = some (.loop (rec .ready none)) := by
      rw [← hW1]; have := World.alloc_heap_new (w1.alloc (.deferred (some []))) (.loop (rec .ready none)); rwa [World.size_alloc] at this
    have hK1' : W1.heap[w1.heap.size]? = some (.deferred (some [])) := by
      rw [← hW1]; exact (Below.heap_alloc _ _ _ (by simp)).trans (World.alloc_heap_new w1 _)
    have hbel1 : Below w1.heap.size w1 W1 := by rw [← hW1]; exact ((Below.refl _ w1).alloc (Nat.le_refl _) _).alloc (by simp) _
    have hfe : a1.eval (.tmp tf) = .func (.func fI) #[] #[.pointer (some ⟨w.heap.size, 0, none⟩)] := by
      show a1.tmps.getD tf undef = _
      rw [hget1, if_pos rfl]
    obtain ⟨l, hl⟩ : ∃ l, l = w1.heap.size + 1 := ⟨_, rfl⟩
    have hCw0 : ∀ l, (C1 l).w0 = C.w0 := fun l => by rw [hC1]
    have hCw1 : ∀ l, (C1 l).w1 = w1 := fun l => by rw [hC1]
    have hCn : ∀ l, (C1 l).n = ⟨lo, C.n.hi, some l⟩ := fun l => by rw [hC1]
    have hCtm : ∀ l, (C1 l).tm = a1.tmps := fun l => by rw [hC1]
    have hb0 := hs.base.below.size
    -- between two rounds
    obtain ⟨J, hJ⟩ : ∃ J : Nat → World → Prop, J = fun j W => (∃ x, I j x ∧ Sim (C1 l) { tmps := a1.tmps, defers := [] } W (St x)) ∧ W.heap[l]? = some (.loop (rec .ready none)) ∧ W.heap[w1.heap.size]? = some (.deferred (some [])) := ⟨_, rfl⟩
    obtain ⟨Jx, hJx⟩ : ∃ Jx : World → Prop, Jx = fun W => (∃ st', (∀ p ∈ st'.sl, p.1 < lo) ∧ Q .ret st' ∧ Sim (C1 l) { tmps := a1.tmps, defers := [] } W st') ∧ W.heap[l]? = some (.loop (rec .done (some .ret))) ∧ W.heap[w1.heap.size]? = some (.deferred (some [])) := ⟨_, rfl⟩
    have hJ0 : J 0 W1 := by
      rw [hJ]
      refine ⟨⟨x0, hI, ?_⟩, hl ▸ hL1, hK1'⟩
      obtain ⟨D2, β2, h2s⟩ := hsim1 l
      have hu2 : DUp D2 D2 w1 W1 := DUp.of_same D2
      exact ⟨D2, β2, h2s.base.up hbel1 hu2, h2s.mem.up hbel1 hu2 h2s.base.dok, h2s.high, fun t => (h2s.slots t).up hbel1 hu2 h2s.base.dok⟩
    have turn : ∀ {aa : Act} {W : World} {st : PS} {r r' : Loop}, Sim (C1 l) aa W st → W.heap[l]? = some (.loop r) → Sim (C1 l) aa (W.putObj l (.loop r')) st := fun {aa W st r r'} hS hL =>
      sim_turned hS hL rfl rfl (by rw [hCw0]; omega) (by rw [hCw1]; omega) (fun ds e => by cases e)
    have hdef : ∀ {W : World} {ob : Obj}, W.heap[w1.heap.size]? = some (.deferred (some [])) → (W.putObj l ob).heap[w1.heap.size]? = some (.deferred (some [])) := fun {W ob} h => (World.putObj_heap_other (by omega)).trans h
    -- what stands behind the loop
    have hout : ∀ {W : World} {st : PS}, Sim (C1 l) { tmps := a1.tmps, defers := [] } W st → W.heap[w1.heap.size]? = some (Obj.deferred (some [])) → Sim C { a1 with defers := [{ target := .collected w1.heap.size, args := #[] }] ++ a1.defers } W st := fun {W st} hS hq => by
      rw [hC1] at hS
      exact out_of hs hbel (by omega) hsz1 hpin1 hdf1 hS hq
    refine ⟨w1.heap.size + 1, [{ target := .collected w1.heap.size, args := #[] }], W1, { target := .fn (.func fI) #[.pointer (some ⟨w.heap.size, 0, none⟩)], args := #[.func (.yield (w1.heap.size + 1)) #[] #[]] }, W1, fI,
      #[.func (.yield (w1.heap.size + 1)) #[] #[]] ++ #[.pointer (some ⟨w.heap.size, 0, none⟩)], W1, ?_, ?_, fun _ _ => trivial, ?_, fun e => by simp [Fence.wide] at e, ?_⟩
    · rw [← hW1, hrec]; exact run_enterLoop_outer _ _ _ _ _
    · simp only [resolve, hfe]
      simp [go_sem]
    · simp [invoke, go_sem, hbk.enters]
    · have key : CallsIn Fence.wide (0 + 1) P fI #[.func (.yield l) #[] #[], .pointer (some ⟨w.heap.size, 0, none⟩)] W1 fun e W' => (∃ v, e = .returned v) ∧ (J es.length W' ∨ Jx W') := by
        have hbox : ∀ {st : PS} {W : World}, Sim (C1 l) { tmps := a1.tmps, defers := [] } W st → W.cell? ⟨w.heap.size, 0, none⟩ = some (.slice ad es.length cap) := fun {st W} ⟨D2, β2, h2s⟩ => by
          have := h2s.base.keep T w.heap.size 0 (by rw [hC1]; exact .inr ⟨rfl, rfl, rfl⟩)
          rw [this, hCw1]; exact hw1c
        have hcells : ∀ {st : PS} {W : World}, Sim (C1 l) { tmps := a1.tmps, defers := [] } W st → ∀ i, i < es.length → W.cell? ⟨g, off + i, none⟩ = some (u i) := fun {st W} ⟨D2, β2, h2s⟩ i hi => by
          have := h2s.base.keep E g (off + i) (by rw [hC1]; exact .inl (hD i hi))
          rw [this, hCw1, cell_below hbel (hs.base.dok _ _ _ (hD i hi))]
          exact hu i hi
        by_cases hlen0 : es.length = 0
        · have hJ0' := hJ0
          rw [hJ] at hJ0'
          obtain ⟨⟨x, _, hSx⟩, _⟩ := hJ0'
          have hb := hbox hSx
          rw [hlen0] at hb ⊢
          exact (hbk.empty 0 l w.heap.size cap ad (J 0) W1 hb hJ0).mono fun e W' ⟨h1, h2⟩ => ⟨h1, .inl h2⟩
        · obtain rfl := ha (by omega)
          refine hbk.rounds 0 l w.heap.size g off es.length cap u hlen J Jx (fun j W hj => ?_) (fun j W hj hlt => ?_) W1 hJ0
          · rw [hJ] at hj
            obtain ⟨⟨x, _, hSx⟩, _⟩ := hj
            exact ⟨hbox hSx, hcells hSx⟩
          · rw [hJ] at hj
            obtain ⟨⟨x, hIx, hSx⟩, hLW, hKW⟩ := hj
            have hlt' : es.length - 1 - j < es.length := by omega
            obtain ⟨d, hd⟩ : ∃ d, es[es.length - 1 - j]? = some d := ⟨_, List.getElem?_eq_getElem hlt'⟩
            have hy := run_yield (P := P) (args := #[.int .i64 ((es.length : Int) - 1 - (j : Int)), u (es.length - 1 - j)]) hLW (by rw [hrec]; rfl)
            rw [hrec] at hy
            refine ⟨fn, _, assign, body, hy, roundIn_of_wpIn trivial ?_⟩
            -- the round's frame
            obtain ⟨ar, har⟩ : ∃ ar : Act, ar = (({ tmps := a1.tmps, defers := [] } : Act).put (some p1) (.int .i64 ((es.length : Int) - 1 - (j : Int)))).put (some p2) (u (es.length - 1 - j)) := ⟨_, rfl⟩
            have harr : ({ tmps := (#[p1, p2].zip #[Value.int .i64 ((es.length : Int) - 1 - (j : Int)), u (es.length - 1 - j)]).foldl (fun t (p, v) => t.setIfInBounds p v) a1.tmps, defers := [] } : Act) = ar := by
              rw [har]; simp [Act.put]
            have hSr : Sim (C1 l) ar W ⟨(p2, .d d) :: (p1, .d (.val (.int .i64 ((es.length : Int) - 1 - (j : Int))))) :: (St x).sl, (St x).bs⟩ := by
              obtain ⟨D2, β2, h2s⟩ := hSx
              have hd1' : dstB (C1 l).n (some p1) = true := by rw [hCn]; exact hd1
              have hd2' : dstB (C1 l).n (some p2) = true := by rw [hCn]; exact hd2
              refine ⟨D2, β2, by rw [har]; exact (h2s.base.put hd1' _).put hd2' _, h2s.mem, h2s.high, fun t => ?_⟩
              show RepS W D2 β2 (ar.tmps.getD t undef) (sget ((p2, SV.d d) :: (p1, SV.d (.val (.int .i64 ((es.length : Int) - 1 - (j : Int))))) :: (St x).sl) t)
              rw [har, put_getD (put_size.trans h2s.base.size) hd2', put_getD h2s.base.size hd1', sget_cons, sget_cons]
              by_cases e2 : p2 = t
              · rw [if_pos e2, if_pos (by rw [e2])]
                have hrep : Rep w D (u (es.length - 1 - j)) d := hrr _ d hd
                refine Rep.mono (fun t' g' o' hd' => ⟨h2s.base.dmono _ _ _ (by rw [hC1]; exact .inl hd'), ?_⟩) hrep
                rw [h2s.base.keep t' g' o' (by rw [hC1]; exact .inl hd'), hCw1, cell_below hbel (hs.base.dok _ _ _ hd')]
              · rw [if_neg e2, if_neg (fun e => e2 (by injection e))]
                by_cases e1 : p1 = t
                · rw [if_pos e1, if_pos (by rw [e1])]
                  exact Rep.val _
                · rw [if_neg e1, if_neg (fun e => e1 (by injection e))]
                  exact h2s.slots t
            refine wpIn_mono (Q := fun e a' w' => ∃ st', Sim { C1 l with w1 := W } a' w' st' ∧ PThen (PWp P ⟨lo, C.n.hi, some l⟩ body (BackQ lo St I Q j)) (fun _ _ => False) e st') ?_ fun e a2 W2 h => ?_
            · have := hround l j x d hlt hIx hd { C1 l with w1 := W } ar W (0 : Nat) (hCn l) (sim_from hSr)
              rw [← harr] at this
              exact this
            · obtain ⟨st2, hS2, hp⟩ := h
              cases e with
              | normal =>
                have hL2 : W2.heap[l]? = some (.loop (rec .ready none)) := by obtain ⟨D2, β2, h2s⟩ := hS2; exact h2s.base.oth l _ hLW rfl
                have hK2' : W2.heap[w1.heap.size]? = some (.deferred (some [])) := by obtain ⟨D2, β2, h2s⟩ := hS2; exact h2s.base.oth _ _ hKW rfl
                have hS2' := sim_back hS2 hSr
                refine ⟨_, run_beginRound hL2 (by rw [hrec]), ?_⟩
                have hS3 := turn (r' := { rec .ready none with state := .busy }) hS2' hL2
                have hL3 : (W2.putObj l (.loop { rec .ready none with state := .busy })).heap[l]? = some (.loop { rec .ready none with state := .busy }) := World.putObj_heap_same (heap_lt hL2)
                have hK3 := hdef (ob := .loop { rec .ready none with state := .busy }) hK2'
                refine wpIn_mono (hp { C1 l with w1 := W2.putObj l (.loop { rec .ready none with state := .busy }) } a2 _ 0 (hCn l) (sim_from hS3)) fun e a4 W4 h => ?_
                obtain ⟨st4, hS4, hq⟩ := h
                have hL4 : W4.heap[l]? = some (.loop { rec .ready none with state := .busy }) := by obtain ⟨D2, β2, h2s⟩ := hS4; exact h2s.base.oth l _ hL3 rfl
                have hK4 : W4.heap[w1.heap.size]? = some (.deferred (some [])) := by obtain ⟨D2, β2, h2s⟩ := hS4; exact h2s.base.oth _ _ hK3 rfl
                have hS4' := sim_back hS4 hS3
                have repin : ∀ {W : World} {st : PS}, Sim (C1 l) a4 W st → (∀ p ∈ st.sl, p.1 < lo) → Sim (C1 l) { tmps := a1.tmps, defers := [] } W st := fun {W st} h hk =>
                  sim_repin h _ (by rw [hCn]; exact hk) (by rw [hCn]; exact hsz1) (fun t _ => by rw [hCtm]) .nil
                cases e with
                | normal =>
                  obtain ⟨y, hy1, hy2⟩ := hq
                  have hre := run_endRound (P := P) none hL4
                  refine ⟨_, _, hre, .inl ⟨rfl, ?_⟩⟩
                  rw [hJ]
                  refine ⟨⟨y, hy2, repin (hy1 _ _ _ (turn hS4' hL4)) (hst y)⟩, ?_, hdef hK4⟩
                  rw [World.putObj_heap_same (heap_lt hL4), hrec]; rfl
                | ret =>
                  obtain ⟨st5, hy1, hy2, hy3⟩ := hq
                  have hre := run_endRound (P := P) (some .ret) hL4
                  refine ⟨_, _, hre, .inr ⟨rfl, ?_⟩⟩
                  rw [hJx]
                  refine ⟨⟨st5, hy2, hy3, repin (hy1 _ _ _ (turn hS4' hL4)) hy2⟩, ?_, hdef hK4⟩
                  rw [World.putObj_heap_same (heap_lt hL4), hrec]; rfl
                | exit id => exact hq.elim
                | goto t => exact hq.elim
                | panic ch => exact hq.elim
                | outgrown => exact hq.elim
              | exit id => exact hp.elim
              | goto t => exact hp.elim
              | ret => exact hp.elim
              | panic ch => exact hp.elim
              | outgrown => exact hp.elim
      rw [hl] at key
      refine callsIn_any (key.mono ?_)
      rintro e W2 ⟨⟨v, rfl⟩, h⟩
      rcases h with h | h
      · rw [hJ] at h
        obtain ⟨⟨x, hIx, hSx⟩, hLW, hKW⟩ := h
        have hre := run_endLoop (P := P) hLW (by rw [hrec]; simp)
        have hS' := hout (turn (r' := { rec .ready none with state := .exhausted }) hSx hLW) (hdef hKW)
        rw [hl] at hre hS'
        subst hrec
        exact ⟨none, _, hre, _, hS', hend x hIx⟩
      · rw [hJx] at h
        obtain ⟨⟨st5, hk5, hq5, hS5⟩, hLW, hKW⟩ := h
        have hre := run_endLoop (P := P) hLW (by rw [hrec]; simp)
        have hS' := hout (turn (r' := { rec .done (some .ret) with state := .exhausted }) hS5 hLW) (hdef hKW)
        rw [hl] at hre hS'
        subst hrec
        exact ⟨some .ret, _, hre, wpIn_ret ⟨_, hS', hq5⟩⟩
end
theorem pwp_backL {P : Program} {n : Fr} {fB fI : FuncId} {T : TypeId} {S : SL} {B : BS} {Q : Exit → PS → Prop} {α γ : Type} (hbk : Backs P fB fI T) (hcb : callB P fB = true) (hrd : n.rd = none) {id rid : Nat} {o1 o2 : Oper} {t0 ta tf p1 p2 : Tmp} {ats : Array TypeId} {assign body : Code} {E : TypeId} (lo : Nat) (F : γ → Dat) (L : List γ) (z : γ) (St : α → PS) (I : Nat → α → Prop) (x0 : α)
    (h1 : o1.op = .move (.tmp t0)) (h1d : o1.dst = some ta) (h1g : o1.guard = none) (h2 : o2.op = .call { callee := .value (.func fB), args := #[.tmp ta], argTypes := ats }) (h2d : o2.dst = some tf) (h2g : o2.guard = none)
    (hda : dstB n (some ta) = true) (hdf : dstB n (some tf) = true) (hd1 : dstB ⟨lo, n.hi, none⟩ (some p1) = true) (hd2 : dstB ⟨lo, n.hi, none⟩ (some p2) = true) (hlo : Nat.ble n.lo lo = true)
    (hx : sget S t0 = .d (.sl E 1 (L.map F))) (hF : ∀ g, (F g).cells = [F g]) (hst : ∀ x, ((St x).sl.all fun p => Nat.blt p.1 lo) = true) (h0 : SimImp ⟨(tf, .junk) :: (ta, .junk) :: S, B⟩ (St x0)) (hI : I 0 x0) (hlen : L.length ≤ 9223372036854775807)
    (hround : ∀ (l j : Nat) (x : α), j < L.length → I j x → PWp P ⟨lo, n.hi, some l⟩ assign (PThen (PWp P ⟨lo, n.hi, some l⟩ body (BackQ lo St I Q j)) (fun _ _ => False)) ⟨(p2, .d (F (L.getD (L.length - 1 - j) z))) :: (p1, .d (.val (.int .i64 ((L.length - 1 - j : Nat) : Int)))) :: (St x).sl, (St x).bs⟩)
    (hend : ∀ x, I L.length x → Q .normal (St x)) :
    PWp P n (.seq (.region rid #[o1, o2] false) (.block id (.rangeFunc (.tmp tf) #[p1, p2] assign body))) Q ⟨S, B⟩ := by
  refine pwp_back hbk hcb hrd lo St I x0 h1 h1d h1g h2 h2d h2g hda hdf hd1 hd2 hlo hx (fun x p hp => ?_) h0 hI (by simpa using Int.ofNat_le.2 hlen) (fun l j x d hj hIx hd => ?_) (fun e he => ?_) (fun x hIx => hend x (by simpa using hIx))
  · exact Nat.le_of_ble_eq_true (List.all_eq_true.1 (hst x) p hp)
  · rw [List.length_map] at hj hd
    have h3 : j < L.length := hj
    have hlt : L.length - 1 - j < L.length := by omega
    have hd' : d = F (L.getD (L.length - 1 - j) z) := by
      rw [List.getElem?_map, List.getElem?_eq_getElem hlt] at hd
      simp only [Option.map_some, Option.some.injEq] at hd
      rw [← hd]
      simp [List.getD, List.getElem?_eq_getElem hlt]
    have hj' : (((L.map F).length : Int) - 1 - (j : Int)) = ((L.length - 1 - j : Nat) : Int) := by rw [List.length_map]; omega
    rw [hd', hj']
    exact hround l j x h3 hIx
  · obtain ⟨g, _, rfl⟩ := List.mem_map.1 he
    exact hF g
theorem keys_of {l : SL} {lo : Nat} (h : (l.all fun p => Nat.blt p.1 lo) = true) : ∀ p ∈ l, p.1 < lo := fun p hp => Nat.le_of_ble_eq_true (List.all_eq_true.1 h p hp)
end Go.Fid
namespace Go.Fid
set_option linter.unusedVariables false
set_option linter.unusedSimpArgs false
def pw (n : Nat) : Nat := 1000000000 ^ n
theorem pw_zero : pw 0 = 1 := rfl
theorem pw_succ (n : Nat) : pw (n + 1) = 1000000000 * pw n := by unfold pw; rw [Nat.pow_succ, Nat.mul_comm]
theorem pw_add (m n : Nat) : pw (m + n) = pw m * pw n := by unfold pw; rw [Nat.pow_add]
theorem pw_pos (n : Nat) : 0 < pw n := Nat.pow_pos (by decide)
theorem pw_mono {m n : Nat} (h : m ≤ n) : pw m ≤ pw n := Nat.pow_le_pow_right (by decide) h
theorem pw_lt {m n : Nat} (h : m < n) : pw m < pw n := Nat.pow_lt_pow_right (by decide) h
attribute [irreducible] pw
def val : List Nat → Nat
  | [] => 0
  | d :: l => d + 1000000000 * val l
def Dig (l : List Nat) : Prop := ∀ d ∈ l, d < 1000000000
theorem val_nil : val [] = 0 := rfl
theorem val_cons (d : Nat) (l : List Nat) : val (d :: l) = d + 1000000000 * val l := rfl
theorem val_one (d : Nat) : val [d] = d := by simp [val]
theorem dig_nil : Dig [] := by intro d h; cases h
theorem dig_cons {d : Nat} {l : List Nat} : Dig (d :: l) ↔ d < 1000000000 ∧ Dig l := by simp [Dig]
theorem dig_append {a b : List Nat} : Dig (a ++ b) ↔ Dig a ∧ Dig b := by
  constructor
  · intro h; exact ⟨fun d hd => h d (by simp [hd]), fun d hd => h d (by simp [hd])⟩
  · intro h d hd; rcases List.mem_append.1 hd with h' | h'
    · exact h.1 d h'
    · exact h.2 d h'
theorem Dig.take {l : List Nat} (h : Dig l) (n : Nat) : Dig (l.take n) := fun d hd => h d (List.mem_of_mem_take hd)
theorem Dig.drop {l : List Nat} (h : Dig l) (n : Nat) : Dig (l.drop n) := fun d hd => h d (List.mem_of_mem_drop hd)
theorem Dig.set {l : List Nat} (h : Dig l) (i : Nat) {d : Nat} (hd : d < 1000000000) : Dig (l.set i d) := by
  intro x hx
  rcases List.mem_or_eq_of_mem_set hx with h' | h'
  · exact h x h'
  · exact h' ▸ hd
theorem Dig.getD {l : List Nat} (h : Dig l) (i : Nat) : l.getD i 0 < 1000000000 := by
  unfold List.getD
  cases hi : l[i]? with
  | none => decide
  | some x => exact h x (List.mem_of_getElem? hi)
theorem dig_replicate (n : Nat) : Dig (List.replicate n 0) := by
  intro d hd; rw [(List.mem_replicate.1 hd).2]; decide
theorem val_replicate (n : Nat) : val (List.replicate n 0) = 0 := by
  induction n with
  | zero => rfl
  | succ n ih => rw [List.replicate_succ, val_cons, ih]
theorem val_append (a b : List Nat) : val (a ++ b) = val a + pw a.length * val b := by
  induction a with
  | nil => simp [val, pw_zero]
  | cons d a ih => rw [List.cons_append, val_cons, val_cons, ih, List.length_cons, pw_succ]; grind
theorem val_lt {l : List Nat} (h : Dig l) : val l < pw l.length := by
  induction l with
  | nil => simp [val, pw_zero]
  | cons d l ih =>
    rw [dig_cons] at h
    have := ih h.2
    rw [val_cons, List.length_cons, pw_succ]; omega
theorem val_take_succ (l : List Nat) (i : Nat) : val (l.take (i + 1)) = val (l.take i) + pw i * l.getD i 0 := by
  by_cases h : i < l.length
  · rw [List.take_succ_eq_append_getElem h, val_append, val_one, List.length_take, Nat.min_eq_left (Nat.le_of_lt h)]
    simp [List.getD, List.getElem?_eq_getElem h]
  · rw [List.take_of_length_le (by omega), List.take_of_length_le (by omega)]
    simp [List.getD, List.getElem?_eq_none (Nat.le_of_not_lt h)]
theorem val_take_set (l : List Nat) (i d : Nat) (h : i < l.length) : val ((l.set i d).take (i + 1)) = val (l.take i) + pw i * d := by
  rw [val_take_succ, List.take_set_of_le (Nat.le_refl i)]
  simp [List.getD, h]
theorem val_set (l : List Nat) (i d : Nat) (h : i < l.length) : val (l.set i d) + pw i * l.getD i 0 = val l + pw i * d := by
  induction l generalizing i with
  | nil => simp at h
  | cons x l ih =>
    cases i with
    | zero => simp [val, pw_zero]; omega
    | succ i =>
      have := ih i (by simpa using h)
      simp only [List.set_cons_succ, val_cons, List.getD_cons_succ, pw_succ]
      grind
theorem val_split (l : List Nat) (i : Nat) (h : i ≤ l.length) : val l = val (l.take i) + pw i * val (l.drop i) := by
  have h1 := val_append (l.take i) (l.drop i)
  rw [List.take_append_drop, List.length_take, Nat.min_eq_left h] at h1
  exact h1
theorem getD_set (l : List Nat) (i j d : Nat) (h : i < l.length) : (l.set i d).getD j 0 = if i = j then d else l.getD j 0 := by
  simp only [List.getD, List.getElem?_set]
  by_cases hij : i = j
  · subst hij; simp [h]
  · simp [hij]
def ofNat (n : Nat) : List Nat := if n = 0 then [] else n % 1000000000 :: ofNat (n / 1000000000)
termination_by n
decreasing_by omega
theorem ofNat_zero : ofNat 0 = [] := by rw [ofNat]; rfl
theorem ofNat_pos {n : Nat} (h : n ≠ 0) : ofNat n = n % 1000000000 :: ofNat (n / 1000000000) := by rw [ofNat, if_neg h]
theorem ofNat_val : ∀ n, val (ofNat n) = n
  | n => by
    by_cases h : n = 0
    · subst h; rw [ofNat_zero]; rfl
    · rw [ofNat_pos h, val_cons, ofNat_val (n / 1000000000)]; omega
termination_by n => n
decreasing_by omega
theorem ofNat_dig : ∀ n, Dig (ofNat n)
  | n => by
    by_cases h : n = 0
    · subst h; rw [ofNat_zero]; exact dig_nil
    · rw [ofNat_pos h]; exact dig_cons.2 ⟨Nat.mod_lt _ (by decide), ofNat_dig (n / 1000000000)⟩
termination_by n => n
decreasing_by omega
theorem ofNat_nil {n : Nat} : ofNat n = [] ↔ n = 0 := by
  constructor
  · intro h; rw [← ofNat_val n, h]; rfl
  · intro h; rw [h, ofNat_zero]
def Top (l : List Nat) : Prop := l.getD (l.length - 1) 1 ≠ 0
def Cano (l : List Nat) : Prop := Dig l ∧ Top l
theorem top_cons {d : Nat} {l : List Nat} (h : l ≠ []) : Top (d :: l) ↔ Top l := by
  cases l with
  | nil => exact absurd rfl h
  | cons e l => simp [Top]
theorem ofNat_top : ∀ n, Top (ofNat n)
  | n => by
    by_cases h : n = 0
    · subst h; rw [ofNat_zero]; simp [Top]
    · rw [ofNat_pos h]
      by_cases h' : n / 1000000000 = 0
      · rw [h', ofNat_zero]; simp [Top]; omega
      · rw [top_cons (fun e => h' (ofNat_nil.1 e))]; exact ofNat_top (n / 1000000000)
termination_by n => n
decreasing_by omega
theorem ofNat_can (n : Nat) : Cano (ofNat n) := ⟨ofNat_dig n, ofNat_top n⟩
theorem can_tail {d : Nat} {l : List Nat} (h : Cano (d :: l)) : Cano l := by
  refine ⟨(dig_cons.1 h.1).2, ?_⟩
  by_cases hl : l = []
  · subst hl; simp [Top]
  · exact (top_cons hl).1 h.2
theorem can_eq : ∀ {l : List Nat}, Cano l → l = ofNat (val l)
  | [], _ => by rw [val_nil, ofNat_zero]
  | d :: l, h => by
    have ih := can_eq (can_tail h)
    have hd := (dig_cons.1 h.1).1
    have hne : val (d :: l) ≠ 0 := by
      rw [val_cons]
      intro e
      have h0 : val l = 0 := by omega
      rw [h0, ofNat_zero] at ih
      have hd0 : d = 0 := by omega
      subst ih; subst hd0
      exact h.2 rfl
    have e1 : (d + 1000000000 * val l) % 1000000000 = d := by omega
    have e2 : (d + 1000000000 * val l) / 1000000000 = val l := by omega
    rw [ofNat_pos hne, val_cons, e1, e2, ← ih]
theorem can_ofNat_val {l : List Nat} (h : Cano l) {n : Nat} (hn : val l = n) : l = ofNat n := hn ▸ can_eq h
theorem ofNat_length_le {n m : Nat} (h : n < pw m) : (ofNat n).length ≤ m := by
  induction m generalizing n with
  | zero => rw [pw_zero] at h; have : n = 0 := by omega
            subst this; rw [ofNat_zero]; exact Nat.le_refl _
  | succ m ih =>
    by_cases h0 : n = 0
    · subst h0; rw [ofNat_zero]; simp
    · rw [ofNat_pos h0, List.length_cons]
      have := ih (n := n / 1000000000) (by rw [pw_succ] at h; omega)
      omega
theorem val_ge_of_top {l : List Nat} (h : Top l) (hl : l ≠ []) : pw (l.length - 1) ≤ val l := by
  have h1 := val_take_succ l (l.length - 1)
  have hp : 0 < l.length := by cases l with
    | nil => exact absurd rfl hl
    | cons => simp
  rw [show l.length - 1 + 1 = l.length by omega, List.take_length] at h1
  have h2 : l.getD (l.length - 1) 0 ≠ 0 := by
    have h3 : l.getD (l.length - 1) 1 ≠ 0 := h
    have h4 : l.length - 1 < l.length := by omega
    simpa [List.getD, List.getElem?_eq_getElem h4] using h3
  rw [h1]
  refine Nat.le_trans ?_ (Nat.le_add_left _ _)
  exact Nat.le_mul_of_pos_right _ (Nat.pos_of_ne_zero h2)
theorem ofNat_len_lt {n m : Nat} (h : (ofNat n).length < (ofNat m).length) : n < m := by
  have h1 := val_lt (ofNat_dig n)
  have h2 := val_ge_of_top (ofNat_top m) (by intro e; rw [e] at h; simp at h)
  rw [ofNat_val] at h1 h2
  exact Nat.lt_of_lt_of_le h1 (Nat.le_trans (pw_mono (by omega)) h2)
theorem getD_out {l : List Nat} {i : Nat} (h : ¬ (i : Int) < (l.length : Int)) : l.getD i 0 = 0 := by
  simp [List.getD, List.getElem?_eq_none (show l.length ≤ i by omega)]
theorem trim_cond {l : List Nat} {b : Bool} (h : (decide ((0 : Int) < ((l.length : Nat) : Int)) && (((l.getD (l.length - 1) 0 : Nat) : Int) == 0)) = b) : if b then 0 < l.length ∧ l.getD (l.length - 1) 0 = 0 else l.length = 0 ∨ l.getD (l.length - 1) 0 ≠ 0 := by
  subst h
  by_cases h1 : l.length = 0
  · simp [h1]
  · have h2 : 0 < l.length := by omega
    by_cases h3 : l.getD (l.length - 1) 0 = 0
    · have : ((0 : Nat) : Int) = 0 := rfl
      simp only [h3, this, beq_self_eq_true, Bool.and_true]
      simp [h2, h3]
    · have h4 : (((l.getD (l.length - 1) 0 : Nat) : Int) == 0) = false := by
        rw [beq_eq_false_iff_ne]; omega
      simp only [h4, Bool.and_false]
      exact .inr h3
theorem trim_step {l l0 : List Nat} (hl : Dig l) (hv : val l = val l0) (hle : l.length ≤ l0.length) (h : (decide ((0 : Int) < ((l.length : Nat) : Int)) && (((l.getD (l.length - 1) 0 : Nat) : Int) == 0)) = true) :
    Dig (l.take (l.length - 1)) ∧ val (l.take (l.length - 1)) = val l0 ∧ (l.take (l.length - 1)).length ≤ l0.length := by
  obtain ⟨h1, h2⟩ := trim_cond h
  refine ⟨hl.take _, ?_, by simp; omega⟩
  have h3 := val_take_succ l (l.length - 1)
  rw [show l.length - 1 + 1 = l.length by omega, List.take_length, h2] at h3
  omega
theorem trim_less {l : List Nat} (h : (decide ((0 : Int) < ((l.length : Nat) : Int)) && (((l.getD (l.length - 1) 0 : Nat) : Int) == 0)) = true) : (l.take (l.length - 1)).length < l.length := by
  obtain ⟨h1, h2⟩ := trim_cond h
  simp; omega
theorem trim_end {l l0 : List Nat} (hl : Dig l) (hv : val l = val l0) (h : (decide ((0 : Int) < ((l.length : Nat) : Int)) && (((l.getD (l.length - 1) 0 : Nat) : Int) == 0)) = false) : ofNat (val l0) = l := by
  have h1 := trim_cond h
  simp only [Bool.false_eq_true, if_false] at h1
  refine (can_ofNat_val ⟨hl, ?_⟩ hv).symm
  rcases h1 with h1 | h1
  · have : l = [] := List.eq_nil_of_length_eq_zero h1
    subst this; simp [Top]
  · intro h2
    by_cases h3 : l.length = 0
    · have : l = [] := List.eq_nil_of_length_eq_zero h3
      subst this; simp at h2
    · have h4 : l.length - 1 < l.length := by omega
      simp [List.getD, List.getElem?_eq_getElem h4] at h1 h2
      exact h1 h2
theorem plus_step {a b out : List Nat} {i c n s c' : Nat} (hlen : out.length = n) (hd : Dig out) (hi : i < n) (hv : val (out.take i) + pw i * c = val (a.take i) + val (b.take i)) (hs : s < 1000000000) (hsum : s + 1000000000 * c' = a.getD i 0 + b.getD i 0 + c) :
    (out.set i s).length = n ∧ Dig (out.set i s) ∧ val ((out.set i s).take (i + 1)) + pw (i + 1) * c' = val (a.take (i + 1)) + val (b.take (i + 1)) := by
  refine ⟨by simpa using hlen, hd.set i hs, ?_⟩
  rw [val_take_set out i s (by omega), val_take_succ, val_take_succ, pw_succ]
  grind
theorem plus_end {a b out : List Nat} {c : Nat} (hda : Dig a) (hdb : Dig b) (hlen : out.length = max a.length b.length + 1) (hv : val (out.take (max a.length b.length + 1)) + pw (max a.length b.length + 1) * c = val (a.take (max a.length b.length + 1)) + val (b.take (max a.length b.length + 1))) : val out = val a + val b := by
  rw [List.take_of_length_le (by omega), List.take_of_length_le (by omega), List.take_of_length_le (by omega)] at hv
  have h1 := val_lt hda
  have h2 := val_lt hdb
  have h3 : pw a.length ≤ pw (max a.length b.length) := pw_mono (by omega)
  have h4 : pw b.length ≤ pw (max a.length b.length) := pw_mono (by omega)
  rw [pw_succ] at hv
  have hc : c = 0 := by
    rcases Nat.eq_zero_or_pos c with h | h
    · exact h
    · have : 1000000000 * pw (max a.length b.length) ≤ 1000000000 * pw (max a.length b.length) * c := Nat.le_mul_of_pos_right _ h
      omega
  subst hc
  omega
theorem minus_step {a b out : List Nat} {i c n s c' : Nat} (hlen : out.length = n) (hd : Dig out) (hi : i < n) (hv : val (out.take i) + val (b.take i) = val (a.take i) + pw i * c) (hs : s < 1000000000) (hsum : s + (b.getD i 0 + c) = a.getD i 0 + 1000000000 * c') :
    (out.set i s).length = n ∧ Dig (out.set i s) ∧ val ((out.set i s).take (i + 1)) + val (b.take (i + 1)) = val (a.take (i + 1)) + pw (i + 1) * c' := by
  refine ⟨by simpa using hlen, hd.set i hs, ?_⟩
  rw [val_take_set out i s (by omega), val_take_succ, val_take_succ, pw_succ]
  grind
theorem minus_end {a b out : List Nat} {c : Nat} (hda : Dig a) (hdb : Dig b) (hd : Dig out) (hba : val b ≤ val a) (hlen : out.length = a.length) (hv : val (out.take a.length) + val (b.take a.length) = val (a.take a.length) + pw a.length * c) : val out = val a - val b := by
  rw [List.take_of_length_le (l := out) (by omega), List.take_of_length_le (l := a) (by omega)] at hv
  have h1 := val_lt hda
  have h2 := val_lt hd
  rw [hlen] at h2
  have h3 : val (b.take a.length) = val b := by
    by_cases h : a.length ≤ b.length
    · have h4 := val_split b a.length h
      rcases Nat.eq_zero_or_pos (val (b.drop a.length)) with h5 | h5
      · rw [h5] at h4; omega
      · have : pw a.length ≤ pw a.length * val (b.drop a.length) := Nat.le_mul_of_pos_right _ h5
        omega
    · rw [List.take_of_length_le (by omega)]
  have hc : c = 0 := by
    rcases Nat.eq_zero_or_pos c with h | h
    · exact h
    · have : pw a.length ≤ pw a.length * c := Nat.le_mul_of_pos_right _ h
      omega
  subst hc
  omega
theorem times_step {out : List Nat} {A X p q pb c i j s : Nat} (hi : i + j < out.length) (hd : Dig out) (hv : val out + pw (i + j) * c = A + pw i * (p * X)) (hs : s = out.getD (i + j) 0 + p * q + c) (hX : pb = X + pw j * q) :
    Dig (out.set (i + j) (s % 1000000000)) ∧ val (out.set (i + j) (s % 1000000000)) + pw (i + j + 1) * (s / 1000000000) = A + pw i * (p * pb) := by
  refine ⟨hd.set _ (Nat.mod_lt _ (by decide)), ?_⟩
  have h1 := val_set out (i + j) (s % 1000000000) hi
  have h2 : s = s % 1000000000 + 1000000000 * (s / 1000000000) := by omega
  generalize hs1 : s % 1000000000 = u at *
  generalize hs2 : s / 1000000000 = t at *
  generalize hg : out.getD (i + j) 0 = g at *
  generalize hv2 : val (out.set (i + j) u) = v at *
  rw [pw_succ]
  rw [pw_add] at *
  subst hX
  have h3 : u + 1000000000 * t = g + p * q + c := by omega
  have h4 : pw i * pw j * (u + 1000000000 * t) = pw i * pw j * (g + p * q + c) := by rw [h3]
  grind
theorem getD_replicate (n k : Nat) : (List.replicate n 0).getD k 0 = 0 := by
  simp only [List.getD, List.getElem?_replicate]
  split <;> rfl
theorem zero_set {out : List Nat} {i m s : Nat} (h : i < m) (hz : ∀ k, m ≤ k → out.getD k 0 = 0) : ∀ k, m ≤ k → (out.set i s).getD k 0 = 0 := fun k hk => by
  have h1 := hz k hk
  simp only [List.getD, List.getElem?_set] at h1 ⊢
  rw [if_neg (by omega)]
  exact h1
theorem times_row {a b o2 : List Nat} {i c : Nat} (hdb : Dig o2) (hi : i < a.length) (hlen : o2.length = a.length + b.length) (hz : ∀ k, i + b.length ≤ k → o2.getD k 0 = 0) (hc : c < 1000000000)
    (hv : val o2 + pw (i + b.length) * c = val (a.take i) * val b + pw i * (a.getD i 0 * val (b.take b.length))) :
    (o2.set (i + b.length) c).length = a.length + b.length ∧ Dig (o2.set (i + b.length) c) ∧ (∀ k, i + 1 + b.length ≤ k → (o2.set (i + b.length) c).getD k 0 = 0) ∧ val (o2.set (i + b.length) c) = val (a.take (i + 1)) * val b := by
  refine ⟨by simpa using hlen, hdb.set _ hc, zero_set (by omega) (fun k hk => hz k (by omega)), ?_⟩
  have h1 := val_set o2 (i + b.length) c (by omega)
  rw [hz _ (Nat.le_refl _)] at h1
  rw [List.take_of_length_le (l := b) (Nat.le_refl _)] at hv
  rw [val_take_succ]
  grind
end Go.Fid
namespace Go.Fid
structure RInt where
  neg : Bool
  gs : List Nat
structure RRat where
  num : RInt
  den : RInt
structure RRng where
  lo : RRat
  hi : RRat
instance : Inhabited RInt := ⟨⟨false, []⟩⟩
instance : Inhabited RRat := ⟨⟨⟨false, []⟩, ⟨false, []⟩⟩⟩
instance : Inhabited RRng := ⟨⟨default, default⟩⟩
def RInt.zero : RInt := ⟨false, []⟩
def RRat.zero : RRat := ⟨.zero, .zero⟩
def RRng.zero : RRng := ⟨.zero, .zero⟩
def cmpI (a b : Int) : Int := if a < b then -1 else if b < a then 1 else 0
theorem cmpI_gt {a b : Int} (h : b < a) : cmpI a b = 1 := by unfold cmpI; rw [if_neg (by omega), if_pos h]
theorem cmpI_eq {a b : Int} (h1 : ¬ a < b) (h2 : ¬ b < a) : cmpI a b = 0 := by unfold cmpI; rw [if_neg h1, if_neg h2]
def mkI (neg : Bool) (n : Nat) : RInt := ⟨neg && n != 0, ofNat n⟩
theorem mkI_zero {neg : Bool} {n : Nat} (h : (((ofNat n).length : Nat) : Int) = 0) : mkI neg n = ⟨false, []⟩ := by
  have h1 : ofNat n = [] := List.eq_nil_of_length_eq_zero (by omega)
  have h2 : n = 0 := ofNat_nil.1 h1
  subst h2
  unfold mkI
  rw [h1]
  simp
theorem mkI_pos {neg : Bool} {n : Nat} (h : (((ofNat n).length : Nat) : Int) ≠ 0) : mkI neg n = ⟨neg, ofNat n⟩ := by
  have h1 : n ≠ 0 := fun e => by subst e; rw [ofNat_zero] at h; exact h rfl
  unfold mkI
  have : (n != 0) = true := bne_iff_ne.2 h1
  rw [this, Bool.and_true]
theorem val_drop (l : List Nat) (j : Nat) (h : j < l.length) : val (l.drop (l.length - (j + 1))) = l.getD (l.length - 1 - j) 0 + 1000000000 * val (l.drop (l.length - j)) := by
  have h1 : l.length - (j + 1) < l.length := by omega
  rw [List.drop_eq_getElem_cons h1, val_cons, show l.length - (j + 1) + 1 = l.length - j by omega]
  have h2 : l.length - 1 - j = l.length - (j + 1) := by omega
  rw [h2]
  simp [List.getD, List.getElem?_eq_getElem h1]
theorem val_drop_lt {l : List Nat} (hd : Dig l) {j : Nat} (h : j ≤ l.length) : val (l.drop (l.length - j)) < pw j := by
  have h1 := val_lt (hd.drop (l.length - j))
  rw [List.length_drop, show l.length - (l.length - j) = j by omega] at h1
  exact h1
def wordV (l : List Nat) : Nat := if l.length ≤ 2 then val l else 0
def wordB (l : List Nat) : Bool := decide (l.length ≤ 2)
theorem word_bound {l : List Nat} (hd : Dig l) {j : Nat} (h : j < l.length) (h2 : l.length ≤ 2) : val (l.drop (l.length - j)) < 1000000000 := by
  have h1 := val_drop_lt hd (Nat.le_of_lt h)
  have h3 : pw j ≤ pw 1 := pw_mono (by omega)
  rw [show (1 : Nat) = 0 + 1 from rfl, pw_succ, pw_zero] at h3
  omega
theorem val_len2 {l : List Nat} (hd : Dig l) (h2 : l.length ≤ 2) : val l < 1000000000000000000 := by
  have h1 := val_lt hd
  have h3 : pw l.length ≤ pw 2 := pw_mono h2
  rw [show (2 : Nat) = 0 + 1 + 1 from rfl, pw_succ, pw_succ, pw_zero] at h3
  omega
theorem cmpI_len {a b : List Nat} (ha : Cano a) (hb : Cano b) (h : ((a.length : Nat) : Int) ≠ ((b.length : Nat) : Int)) : cmpI ((a.length : Nat) : Int) ((b.length : Nat) : Int) = cmpI ((val a : Nat) : Int) ((val b : Nat) : Int) := by
  have e1 := can_eq ha
  have e2 := can_eq hb
  by_cases hlt : a.length < b.length
  · have : val a < val b := ofNat_len_lt (by rw [← e1, ← e2]; exact hlt)
    unfold cmpI
    rw [if_pos (by omega), if_pos (by omega)]
  · have : val b < val a := ofNat_len_lt (by rw [← e1, ← e2]; omega)
    rw [cmpI_gt (by omega), cmpI_gt (by omega)]
theorem cmpI_top {a b : List Nat} (ha : Dig a) (hb : Dig b) (hl : a.length = b.length) {j : Nat} (h : j < a.length) (he : val (a.drop (a.length - j)) = val (b.drop (a.length - j))) (hne : ((a.getD (a.length - 1 - j) 0 : Nat) : Int) ≠ ((b.getD (a.length - 1 - j) 0 : Nat) : Int)) :
    cmpI ((a.getD (a.length - 1 - j) 0 : Nat) : Int) ((b.getD (a.length - 1 - j) 0 : Nat) : Int) = cmpI ((val a : Nat) : Int) ((val b : Nat) : Int) := by
  have h1 := val_split a (a.length - (j + 1)) (by omega)
  have h2 := val_split b (a.length - (j + 1)) (by omega)
  rw [val_drop a j h] at h1
  have h3 := val_drop b j (by omega)
  rw [← hl] at h3
  rw [h3, ← he] at h2
  have h4 := val_lt (ha.take (a.length - (j + 1)))
  have h5 := val_lt (hb.take (a.length - (j + 1)))
  rw [List.length_take, Nat.min_eq_left (by omega)] at h4 h5
  generalize a.getD (a.length - 1 - j) 0 = x at *
  generalize b.getD (a.length - 1 - j) 0 = y at *
  generalize val (a.drop (a.length - j)) = t at *
  generalize pw (a.length - (j + 1)) = p at *
  generalize val (a.take (a.length - (j + 1))) = u at *
  generalize val (b.take (a.length - (j + 1))) = v at *
  rcases Nat.lt_or_gt_of_ne (show x ≠ y by omega) with hxy | hxy
  · have h6 : p * (x + 1000000000 * t) + p ≤ p * (y + 1000000000 * t) := by
      have := Nat.mul_le_mul_left p (show x + 1000000000 * t + 1 ≤ y + 1000000000 * t by omega)
      rw [Nat.mul_add, Nat.mul_one] at this
      exact this
    unfold cmpI
    rw [if_pos (by omega), if_pos (by omega)]
  · have h6 : p * (y + 1000000000 * t) + p ≤ p * (x + 1000000000 * t) := by
      have := Nat.mul_le_mul_left p (show y + 1000000000 * t + 1 ≤ x + 1000000000 * t by omega)
      rw [Nat.mul_add, Nat.mul_one] at this
      exact this
    rw [cmpI_gt (by omega), cmpI_gt (by omega)]
theorem cmpI_same {a b : List Nat} (he : val a = val b) : cmpI ((val a : Nat) : Int) ((val b : Nat) : Int) = 0 := by
  rw [he]; exact cmpI_eq (by omega) (by omega)
theorem ofNat_len3 {n : Nat} (h : n < 18446744073709551616) : (ofNat n).length ≤ 3 := ofNat_length_le (by
  rw [show (3 : Nat) = 0 + 1 + 1 + 1 from rfl, pw_succ, pw_succ, pw_succ, pw_zero]; omega)
theorem split_step {g : List Nat} {m n : Nat} (h : g ++ ofNat m = ofNat n) (hm : (0 : Int) < ((m : Nat) : Int)) : (g ++ [m % 1000000000]) ++ ofNat (m / 1000000000) = ofNat n := by
  rw [← h, ofNat_pos (n := m) (by omega), List.append_assoc]; rfl
theorem split_len {g : List Nat} {m n : Nat} (h : g ++ ofNat m = ofNat n) (hn : n < 18446744073709551616) : g.length ≤ 3 := by
  have := ofNat_len3 hn
  rw [← h, List.length_append] at this
  omega
theorem split_end {g : List Nat} {m n : Nat} (h : g ++ ofNat m = ofNat n) (hm : ¬ (0 : Int) < ((m : Nat) : Int)) : ofNat n = g := by
  have : m = 0 := by omega
  subst this
  rw [← h, ofNat_zero, List.append_nil]
def firstBig : List Nat → Int
  | [] => -1
  | d :: l => if 1000000000 ≤ d then 0 else if firstBig l < 0 then -1 else firstBig l + 1
theorem firstBig_none {l : List Nat} : firstBig l < 0 ↔ Dig l := by
  induction l with
  | nil => simp [firstBig, dig_nil]
  | cons d l ih =>
    rw [dig_cons]
    unfold firstBig
    by_cases h : 1000000000 ≤ d
    · rw [if_pos h]; constructor
      · intro h1; omega
      · intro h1; omega
    · rw [if_neg h]
      by_cases h2 : firstBig l < 0
      · rw [if_pos h2]; simp [ih.1 h2]; omega
      · rw [if_neg h2]; constructor
        · intro h1; omega
        · intro h1; exact absurd (ih.2 h1.2) h2
theorem firstBig_neg {l : List Nat} (h : Dig l) : firstBig l = -1 := by
  induction l with
  | nil => rfl
  | cons d l ih =>
    rw [dig_cons] at h
    unfold firstBig
    rw [if_neg (by omega), if_pos (firstBig_none.2 h.2)]
theorem firstBig_at : ∀ {l : List Nat} {i : Nat}, i < l.length → Dig (l.take i) → 1000000000 ≤ l.getD i 0 → firstBig l = (i : Int)
  | [], i, h, _, _ => by simp at h
  | d :: l, 0, _, _, hd => by
    unfold firstBig
    rw [if_pos (by simpa using hd)]; rfl
  | d :: l, i + 1, h, ht, hd => by
    rw [List.take_succ_cons, dig_cons] at ht
    have ih := firstBig_at (l := l) (i := i) (by simpa using h) ht.2 (by simpa using hd)
    unfold firstBig
    rw [if_neg (by omega), ih, if_neg (by omega)]
    omega
theorem dig_take_succ {l : List Nat} {i : Nat} (h : i < l.length) (ht : Dig (l.take i)) (hd : l.getD i 0 < 1000000000) : Dig (l.take (i + 1)) := by
  rw [List.take_succ_eq_append_getElem h, dig_append]
  refine ⟨ht, ?_⟩
  intro d hx
  simp [List.getD, List.getElem?_eq_getElem h] at hd hx
  rw [hx]; exact hd
def validI (x : RInt) : Bool := if ((x.gs.length : Nat) : Int) = 0 then !x.neg else (((((x.gs.getD (x.gs.length - 1) 0) : Nat) : Int) != 0) && (!(decide (0 ≤ firstBig x.gs))))
def grpI (x : RInt) : List Nat := if validI x = true then x.gs else []
theorem grpI_can (x : RInt) : Cano (grpI x) := by
  unfold grpI
  split
  · rename_i h
    unfold validI at h
    split at h
    · have : x.gs = [] := List.eq_nil_of_length_eq_zero (by omega)
      rw [this]; exact ⟨dig_nil, by simp [Top]⟩
    · rename_i h0
      simp only [Bool.and_eq_true, Bool.not_eq_true', decide_eq_false_iff_not, bne_iff_ne] at h
      refine ⟨firstBig_none.1 (by omega), fun h1 => h.1 ?_⟩
      have h4 : x.gs.length - 1 < x.gs.length := by omega
      simp [List.getD, List.getElem?_eq_getElem h4] at h1 ⊢
      exact h1
  · exact ⟨dig_nil, by simp [Top]⟩
def sgn (b : Bool) (n : Nat) : Int := if b then -(n : Int) else n
def toZ (x : RInt) : Int := sgn x.neg (val (grpI x))
def ofZ (z : Int) : RInt := mkI (decide (z < 0)) z.natAbs
theorem mkI_eq (b : Bool) (n : Nat) : mkI b n = ofZ (sgn b n) := by
  unfold ofZ sgn
  cases b with
  | false =>
    rw [if_neg (by simp), Int.natAbs_natCast]
    have : decide ((n : Int) < 0) = false := decide_eq_false (by omega)
    rw [this]
  | true =>
    rw [if_pos rfl, Int.natAbs_neg, Int.natAbs_natCast]
    unfold mkI
    by_cases h : n = 0
    · subst h; simp
    · have h1 : decide (-(n : Int) < 0) = true := decide_eq_true (by omega)
      rw [h1]
theorem grpI_len (x : RInt) : (grpI x).length ≤ x.gs.length := by
  unfold grpI; split
  · exact Nat.le_refl _
  · exact Nat.zero_le _
theorem add_len {a b : List Nat} (ha : Dig a) (hb : Dig b) : (ofNat (val a + val b)).length ≤ max a.length b.length + 1 := ofNat_length_le (by
  have h1 := val_lt ha
  have h2 := val_lt hb
  have h3 : pw a.length ≤ pw (max a.length b.length) := pw_mono (by omega)
  have h4 : pw b.length ≤ pw (max a.length b.length) := pw_mono (by omega)
  rw [pw_succ]; omega)
theorem sub_len {a b : List Nat} (ha : Dig a) : (ofNat (val a - val b)).length ≤ a.length := ofNat_length_le (by
  have h1 := val_lt ha
  omega)
theorem mul_len {a b : List Nat} (ha : Dig a) (hb : Dig b) : (ofNat (val a * val b)).length ≤ a.length + b.length := ofNat_length_le (by
  rw [pw_add]
  exact Nat.mul_lt_mul_of_lt_of_le (val_lt ha) (Nat.le_of_lt (val_lt hb)) (pw_pos _))
def signI (z : Int) : Int := if z = 0 then 0 else if z < 0 then -1 else 1
theorem val_zero_nil {l : List Nat} (h : Cano l) (h0 : val l = 0) : l = [] := by rw [can_eq h, h0, ofNat_zero]
theorem toZ_nil {x : RInt} (h : (((grpI x).length : Nat) : Int) = 0) : toZ x = 0 := by
  have : grpI x = [] := List.eq_nil_of_length_eq_zero (by omega)
  unfold toZ sgn
  rw [this, val_nil]; split <;> rfl
theorem sign_neg {x : RInt} (h : (((grpI x).length : Nat) : Int) ≠ 0) (hn : x.neg = true) : signI (toZ x) = -1 := by
  have h1 : val (grpI x) ≠ 0 := fun e => h (by rw [val_zero_nil (grpI_can x) e]; rfl)
  unfold signI toZ sgn
  rw [if_pos hn, if_neg (by omega), if_pos (by omega)]
theorem sign_pos {x : RInt} (h : (((grpI x).length : Nat) : Int) ≠ 0) (hn : x.neg = false) : signI (toZ x) = 1 := by
  have h1 : val (grpI x) ≠ 0 := fun e => h (by rw [val_zero_nil (grpI_can x) e]; rfl)
  unfold signI toZ sgn
  rw [hn]
  simp only [Bool.false_eq_true, if_false]
  rw [if_neg (by omega), if_neg (by omega)]
theorem neg_eq (x : RInt) : mkI (!x.neg) (val (grpI x)) = ofZ (-toZ x) := by
  rw [mkI_eq]
  congr 1
  unfold toZ sgn
  cases x.neg <;> simp
theorem sum_same {b c : Bool} (h : b = c) (m n : Nat) : mkI b (val (ofNat (m + n))) = ofZ (sgn b m + sgn c n) := by
  subst h
  rw [mkI_eq, ofNat_val]
  congr 1
  unfold sgn
  cases b <;> simp <;> omega
theorem sum_first {b c : Bool} (h : b ≠ c) {m n : Nat} (hn : n ≤ m) : mkI b (val (ofNat (m - n))) = ofZ (sgn b m + sgn c n) := by
  have h1 : c = !b := by revert h; cases b <;> cases c <;> simp
  subst h1
  rw [mkI_eq, ofNat_val]
  congr 1
  unfold sgn
  cases b <;> simp <;> omega
theorem sum_second {b c : Bool} (h : b ≠ c) {m n : Nat} (hn : m ≤ n) : mkI c (val (ofNat (n - m))) = ofZ (sgn b m + sgn c n) := by
  have h1 : c = !b := by revert h; cases b <;> cases c <;> simp
  subst h1
  rw [mkI_eq, ofNat_val]
  congr 1
  unfold sgn
  cases b <;> simp <;> omega
theorem cmpI_ge {a b : Int} (h : 0 ≤ cmpI a b) : b ≤ a := by
  unfold cmpI at h
  split at h
  · omega
  · omega
theorem cmpI_lt {a b : Int} (h : ¬ 0 ≤ cmpI a b) : a < b := by
  unfold cmpI at h
  split at h
  · assumption
  · split at h <;> omega
theorem mul_eq {b c : Bool} (m n : Nat) : mkI (!(b == c)) (val (ofNat (m * n))) = ofZ (sgn b m * sgn c n) := by
  rw [mkI_eq, ofNat_val]
  congr 1
  unfold sgn
  cases b <;> cases c <;> simp [Int.neg_mul, Int.mul_neg]
theorem conv_u64 (n : Int) : IntKind.u64.wrap n = (((n % 18446744073709551616).toNat : Nat) : Int) := by
  have : IntKind.u64.wrap n = n % 18446744073709551616 := by
    simp [IntKind.wrap, IntKind.bits, IntKind.signed]
  rw [this]; omega
theorem neg_u64 {n : Int} (h : n < 0) (h1 : -9223372036854775808 ≤ n) : IntKind.u64.wrap (0 - (((n % 18446744073709551616).toNat : Nat) : Int)) = (((-n).toNat : Nat) : Int) := by
  have : IntKind.u64.wrap (0 - (((n % 18446744073709551616).toNat : Nat) : Int)) = (0 - (((n % 18446744073709551616).toNat : Nat) : Int)) % 18446744073709551616 := by
    simp [IntKind.wrap, IntKind.bits, IntKind.signed]
  rw [this]; omega
theorem of_neg {n : Int} (h : n < 0) : mkI (decide (n < 0)) (val (ofNat (-n).toNat)) = ofZ n := by
  rw [ofNat_val]
  unfold ofZ
  congr 1; omega
theorem of_pos {n : Int} (h : ¬ n < 0) (h1 : n ≤ 9223372036854775807) : mkI (decide (n < 0)) (val (ofNat (n % 18446744073709551616).toNat)) = ofZ n := by
  rw [ofNat_val]
  unfold ofZ
  congr 1; omega
theorem signI_range (z : Int) : (signI z = 0 ∧ z = 0) ∨ (signI z = -1 ∧ z < 0) ∨ (signI z = 1 ∧ 0 < z) := by
  unfold signI
  split
  · left; omega
  · split <;> omega
theorem cmp_sign {a b : Int} (h : signI a ≠ signI b) : cmpI (signI a) (signI b) = cmpI a b := by
  rcases signI_range a with ⟨h1, h2⟩ | ⟨h1, h2⟩ | ⟨h1, h2⟩ <;> rcases signI_range b with ⟨h3, h4⟩ | ⟨h3, h4⟩ | ⟨h3, h4⟩ <;> first | exact absurd (h1.trans h3.symm) h | (rw [h1, h3]; unfold cmpI; first | rw [if_pos (by omega), if_pos (by omega)] | rw [if_neg (by omega), if_pos (by omega), if_neg (by omega), if_pos (by omega)])
theorem cmp_neg {x y : RInt} (h : signI (toZ x) = signI (toZ y)) (hn : x.neg = true) : -(cmpI ((val (grpI x) : Nat) : Int) ((val (grpI y) : Nat) : Int)) = cmpI (toZ x) (toZ y) := by
  have hx : toZ x = -((val (grpI x) : Nat) : Int) := by unfold toZ sgn; rw [if_pos hn]
  have hy : toZ y = -((val (grpI y) : Nat) : Int) ∨ toZ y = ((val (grpI y) : Nat) : Int) := by unfold toZ sgn; split <;> simp
  rcases signI_range (toZ x) with ⟨h1, h2⟩ | ⟨h1, h2⟩ | ⟨h1, h2⟩ <;> rcases signI_range (toZ y) with ⟨h3, h4⟩ | ⟨h3, h4⟩ | ⟨h3, h4⟩ <;> first | (exfalso; omega) | skip
  · have e1 : ((val (grpI x) : Nat) : Int) = 0 := by omega
    have e2 : ((val (grpI y) : Nat) : Int) = 0 := by omega
    rw [e1, e2, h2, h4]; rfl
  · have e2 : toZ y = -((val (grpI y) : Nat) : Int) := by omega
    rw [hx, e2]
    unfold cmpI
    split <;> split <;> first | rfl | omega | (split <;> first | rfl | omega)
theorem cmp_pos {x y : RInt} (h : signI (toZ x) = signI (toZ y)) (hn : x.neg = false) : cmpI ((val (grpI x) : Nat) : Int) ((val (grpI y) : Nat) : Int) = cmpI (toZ x) (toZ y) := by
  have hx : toZ x = ((val (grpI x) : Nat) : Int) := by unfold toZ sgn; rw [hn]; rfl
  have hy : toZ y = -((val (grpI y) : Nat) : Int) ∨ toZ y = ((val (grpI y) : Nat) : Int) := by unfold toZ sgn; split <;> simp
  rcases signI_range (toZ x) with ⟨h1, h2⟩ | ⟨h1, h2⟩ | ⟨h1, h2⟩ <;> rcases signI_range (toZ y) with ⟨h3, h4⟩ | ⟨h3, h4⟩ | ⟨h3, h4⟩ <;> first | (exfalso; omega) | skip
  · have e1 : ((val (grpI x) : Nat) : Int) = 0 := by omega
    have e2 : ((val (grpI y) : Nat) : Int) = 0 := by omega
    rw [e1, e2, h2, h4]
  · have e2 : toZ y = ((val (grpI y) : Nat) : Int) := by omega
    rw [hx, e2]
theorem cmpI_range (a b : Int) : -1 ≤ cmpI a b ∧ cmpI a b ≤ 1 := by
  unfold cmpI; split <;> (try split) <;> omega
end Go.Fid
