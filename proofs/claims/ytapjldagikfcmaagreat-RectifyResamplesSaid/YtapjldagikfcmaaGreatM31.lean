/- Part 31 of a proof: rules, plain facts, and functions walked. -/
import Derived.Test.YtapjldagikfcmaaGreatM21
import Derived.Test.YtapjldagikfcmaaGreatM30
import Derived.Test.YtapjldagikfcmaaGreatM12
import Derived.Test.YtapjldagikfcmaaGreatM28
set_option linter.unusedVariables false
set_option linter.unusedSimpArgs false
namespace Go.Fid
variable {P : Program} {o : Oper} {S : Nat → SV}
theorem oN3 {T T' T2 : TypeId} {x y z : Operand} {k : IntKind} {m n q : Int} (r : Int) (ho : o.op = .call { callee := .builtin .min, args := #[x, y, z], argTypes := #[T, T', T2] } := by exact rfl) (hx : ev S x = .d (.val (.int k m)) := by exact rfl) (hy : ev S y = .d (.val (.int k n)) := by exact rfl) (hz : ev S z = .d (.val (.int k q)) := by exact rfl)
    (hr : min (min m n) q = r := by omega) : vT P o S [] (.d (.val (.int k r))) :=
  vT.same fun a w D β hop _ => by
    have h1 := hop x (by simp [ho, Op.operands, Call.operands])
    have h2 := hop y (by simp [ho, Op.operands, Call.operands])
    have h3 := hop z (by simp [ho, Op.operands, Call.operands])
    rw [hx] at h1
    rw [hy] at h2
    rw [hz] at h3
    have e1 := xX h1
    have e2 := xX h2
    have e3 := xX h3
    have hr' : (if q < (if n < m then n else m) then q else (if n < m then n else m)) = r := by omega
    exact ⟨.int k (if q < (if n < m then n else m) then q else (if n < m then n else m)), by simp [execOp, ho, resolve, invoke, builtin, e1, e2, e3, Builtin.min_, Builtin.min2], by rw [hr']; exact .val _⟩
theorem e_cld {y : Operand} {xs : List Operand} {ats : Array TypeId} {f : FuncId} {ds caps : List kX} {r : kX} (hf : kH P f (ds ++ caps) r) (ho : o.op = .call { callee := .value y, args := xs.toArray, argTypes := ats }) (hy : ev S y = .d (.clo f caps)) (hx : xs.map (ev S) = ds.map .d) : vT P o S [] (.d r) :=
  fun a w D β Q hop hrd hD => by
    have hyv := hop y (by simp [ho, Op.operands, Call.operands])
    rw [hy] at hyv
    generalize hvv : a.eval y = v at hyv
    cases hyv with
    | clo vs hl hr =>
      have hlx : xs.length = ds.length := by simpa using congrArg List.length hx
      have hargs : Args w D (xs.map a.eval ++ vs) (ds ++ caps) := by
        refine ⟨by simp [hlx, hl], fun i v d hv hd => ?_⟩
        by_cases hi : i < xs.length
        · rw [List.getElem?_append_left (by simpa using hi), List.getElem?_map, Option.map_eq_some_iff] at hv
          rw [List.getElem?_append_left (by omega)] at hd
          obtain ⟨x, hxi, rfl⟩ := hv
          have hm := hop x (by simp [ho, Op.operands, Call.operands, List.mem_of_getElem? hxi])
          have hi := congrArg (fun l : List SV => l[i]?) hx
          simp only [List.getElem?_map, hxi, hd, Option.map_some, Option.some.injEq] at hi
          rw [hi] at hm
          exact hm
        · rw [List.getElem?_append_right (by simpa using hi), List.length_map] at hv
          rw [List.getElem?_append_right (by omega), ← hlx] at hd
          exact hr _ _ _ hv hd
      have hrun : (execOp a.eval o).run P w = .ok (.enter f (xs.map a.eval ++ vs).toArray) w := by
        simp only [execOp, ho, resolve, Deferred.ofValue, hvv, Sem.run_bind, Sem.run_pure, Result.andThen_ok, invoke, Array.empty_append]
        rw [gZ hf.may]
        simp
      refine eG hrun ((hf.run w _ _ hD hargs).mono fun e w' h => ?_)
      obtain ⟨v, D2, he, h1, h2, h3⟩ := h
      exact ⟨v, he, v, D2, rfl, h1, h2, h3⟩
theorem oCd {S : SL} {y : Operand} {xs : List Operand} {ats : Array TypeId} {f : FuncId} {ds caps : List kX} {r : kX} (hf : kH P f (ds ++ caps) r) (ho : o.op = .call { callee := .value y, args := xs.toArray, argTypes := ats } := by exact rfl)
    (hy : ev (qN S) y = .d (.clo f caps) := by exact rfl) (hx : xs.map (ev (qN S)) = ds.map .d := by kernel_rfl) : vT P o (qN S) [] (.d r) := e_cld hf ho hy hx
end Go.Fid
set_option linter.unusedVariables false
set_option linter.unusedSimpArgs false
namespace Go.Fid
open Go.RowKit (Below)
theorem app_blkG {w : World} {D : uZ} {β : vG} {b : Nat} {arr : List Value} {E : TypeId} {k : Nat} {cs : List SV} (hkb : β k = some b) (eX : w.heap[b]? = some (.cells arr.toArray E (0, 0))) (vJ : cs.length ≤ arr.length)
    (h : ∀ (i : Nat) x, cs[i]? = some x → ∃ u, arr[i]? = some u ∧ u.oneCell' = true ∧ vB w D β u x) (hp : ∀ t o, ¬ D t b o) : zV w D β k cs := by
  refine .inr ⟨b, arr.toArray, E, hkb, eX, by simpa using vJ, fun i x hx => ?_, hp⟩
  obtain ⟨u, e1, e2, e3⟩ := h i x hx
  exact ⟨u, by simpa using e1, e2, e3⟩
theorem names_get {k : Nat} {cs : List SV} (h : xQ k cs = false) {i : Nat} {x : SV} (hx : cs[i]? = some x) : x.names k = false := by
  simp only [xQ, List.any_eq_false] at h
  simpa using h x (List.mem_of_getElem? hx)
theorem app_getG {cs : List SV} {ds : List kX} {q : Nat} {x : SV} (h : (cs ++ ds.map .d)[q]? = some x) : (q < cs.length ∧ cs[q]? = some x) ∨ (cs.length ≤ q ∧ ∃ d, ds[q - cs.length]? = some d ∧ x = .d d) := by
  by_cases hq : q < cs.length
  · rw [List.getElem?_append_left hq] at h; exact .inl ⟨hq, h⟩
  · rw [List.getElem?_append_right (by omega), List.getElem?_map, Option.map_eq_some_iff] at h
    obtain ⟨d, h1, h2⟩ := h
    exact .inr ⟨by omega, d, h1, h2.symm⟩
section
variable {P : Program} {o : Oper} {st : PS}
end
section
variable {P : Program} {o : Oper} {S : Nat → SV}
theorem app_local {T E t' : TypeId} {x y : Operand} {k k' s m bytes : Nat} {zv : List Value} {es' : List kX} {cs : List SV} (ho : o.op = .call { callee := .builtin .append, args := #[x, y], argTypes := #[T, T] })
    (hT : zJ P T = some (E, s)) (hz : xL P E = some zv) (hzl : zv.length = s) (hby : hP P E = some bytes) (hx : ev S x = .own k E s m) (hself : xQ k' cs = false)
    (hes : cs.length = m * s) (hy : ev S y = .d (.sl t' s es')) (hpos : 0 < es'.length) (hbig : m + es'.length ≤ maxLen) (hbig' : (m + es'.length) * bytes ≤ 140737488355328) :
    AOk P o S k k' cs (cs ++ (uU es').map .d) (.own k' E s (m + es'.length)) := fun a w D β Q hop hblk hdok => by
  have h1 := hop x (by simp [ho, Op.operands, Call.operands])
  have h2 := hop y (by simp [ho, Op.operands, Call.operands])
  have hβ : ∀ (b j : Nat), j ≠ k' → (β.set k' b) j = β j := fun b j hj => by simp [vG.set, hj]
  rw [hx] at h1
  rw [hy] at h2
  obtain ⟨ao, c, us, hyv, hcc, hul, hfl', aW, hrep, had⟩ := bO h2
  obtain ⟨i, z, z1, z2, z3⟩ := fA hz
  obtain ⟨j, f1, f2, f3⟩ := cH hT
  have hij : i = j := by rw [z1] at f2; injection f2
  subst hij
  have hbi : i.bytes = bytes := by
    unfold hP at hby
    rw [z1] at hby
    simpa using hby
  subst hbi
  have hzs : z.cells.size = s := by rw [z3]; simpa using hzl
  have hml : (maxLen : Int) ≤ 9223372036854775807 := by decide
  have hfll : (cs ++ (uU es').map SV.d).length = (m + es'.length) * s := by rw [List.length_append, List.length_map, hes, hfl', Nat.add_mul]
  · obtain ⟨ad, rfl, hcell⟩ := had hpos
    rcases h1 with ⟨hk0, hm, hv⟩ | ⟨b, cap, vs, hkb, hv, eX, hvs, hmc, hcap⟩
    · subst hm
      have hbytes : es'.length * i.bytes ≤ 281474976710656 := by rw [Nat.zero_add] at hbig'; omega
      have hr := run_append_nil (P := P) w T o.type E i z f1 z1 z2 ad es'.length c us (by rw [hul, f3]) hcell (by omega) (by omega) hbytes
      have hes0 : cs = [] := List.eq_nil_of_length_eq_zero (by simpa using hes)
      subst hes0
      have hge := grownCap_ge w es'.length 0 E
      have hcm := grownCap_le_maxLen w es'.length 0 E (by omega)
      generalize grownCap w es'.length 0 E = G at hr hge hcm
      have mW : Below w.heap.size w (w.drew.alloc (.cells (us.toArray ++ Builtin.zeroCells z.cells (G - es'.length)) E)) := ⟨rfl, rfl, rfl, by simp, fun q hq => heap_alloc_old w.drew _ hq⟩
      have hblk' : zV (w.drew.alloc (.cells (us.toArray ++ Builtin.zeroCells z.cells (G - es'.length)) E)) D (β.set k' w.heap.size) k' ([] ++ (uU es').map .d) := by
        have earr : us.toArray ++ Builtin.zeroCells z.cells (G - es'.length) = (us ++ (Builtin.zeroCells z.cells (G - es'.length)).toList).toArray := by apply Array.ext'; simp
        refine app_blkG (b := w.heap.size) (E := E) (arr := us ++ (Builtin.zeroCells z.cells (G - es'.length)).toList) (by simp [vG.set]) (by rw [← earr]; exact heap_alloc_new w.drew _) (by rw [hfll, Nat.zero_add, List.length_append]; omega) ?_ (fun t q hq => Nat.lt_irrefl _ (hdok t _ q hq))
        intro q x hq
        obtain ⟨d, hq2, rfl⟩ : ∃ d, (uU es')[q]? = some d ∧ x = .d d := by
          rcases app_getG hq with ⟨h1, _⟩ | ⟨_, h2⟩
          · cases h1
          · simpa using h2
        have hlt : q < us.length := by
          have := (List.getElem?_eq_some_iff.1 hq2).1
          omega
        exact ⟨us[q], by rw [List.getElem?_append_left hlt]; simp [hlt], aW _ (by simp), (hrep q us[q] d (by simp [hlt]) hq2).up mW (DUp.of_same D) hdok⟩
      have hx' : vB (w.drew.alloc (.cells (us.toArray ++ Builtin.zeroCells z.cells (G - es'.length)) E)) D (β.set k' w.heap.size) (.slice (some ⟨w.heap.size, 0, none⟩) es'.length G) (.own k' E s (0 + es'.length)) := by
        rw [Nat.zero_add]
        refine .inr ⟨w.heap.size, G, _, by simp [vG.set], rfl, heap_alloc_new w.drew _, ?_, hge, hcm⟩
        simp only [Array.size_append, List.size_toArray, size_zeroCells, hzs, hul, ← Nat.add_mul]
        congr 1
        omega
      have this : APost a w D β o.dst k k' _ _ _ _ := ⟨_, _, rfl, hblk', hx', .inl ⟨mW, Nat.le_refl _, by simp⟩⟩
      unfold Oper.wp execOp
      simp only [ho, resolve, invoke, builtin, Sem.run_bind, Sem.run_pure, Result.andThen_ok, List.map_toArray, List.map_cons, List.map_nil, hv, hyv, hr]
      exact this
    · have hb4 : ∃ b' vs' T', β k = some b' ∧ w.heap[b']? = some (.cells vs' T' (0, 0)) ∧ cs.length ≤ vs'.size ∧ (∀ (i : Nat) x, cs[i]? = some x → ∃ u, vs'[i]? = some u ∧ u.oneCell' = true ∧ vB w D β u x) ∧ ∀ t o, ¬ D t b' o := by
        rcases hblk with ⟨e, _⟩ | h
        · rw [hkb] at e; cases e
        · exact h
      obtain ⟨b', vs', T', e1, e2, e3, e4, e5⟩ := hb4
      have : b' = b := by rw [hkb] at e1; injection e1 with e1; exact e1.symm
      subst this
      have : vs' = vs := by rw [eX] at e2; injection e2 with e2; injection e2 with e2; exact e2.symm
      subst this
      have hle : m * s ≤ vs'.size := by rw [hvs]; exact Nat.mul_le_mul_right _ hmc
      by_cases hroom : m + es'.length ≤ cap
      · have hfit : m * s + us.length ≤ vs'.size := by rw [hul, hvs, ← Nat.add_mul]; exact Nat.mul_le_mul_right _ hroom
        have hr := run_append_room (P := P) w T o.type E i f1 z1 b' m cap vs' eX ad es'.length c us (by rw [hul, f3]) hcell aW hroom (by rw [f3]; exact hfit)
        rw [f3] at hr
        have hpl := nT (l := vs'.toList) (off := m * s) (new := us) (by simpa using hfit)
        have hw := bX w b' (vs'.toList.take (m * s) ++ us ++ vs'.toList.drop (m * s + us.length)).toArray (fun vs2 T2 f2 h => by
          rw [eX] at h
          injection h with h
          injection h with h
          subst h
          have e : patch vs'.toList (m * s) us = vs'.toList.take (m * s) ++ us ++ vs'.toList.drop (m * s + us.length) := rfl
          rw [e] at hpl
          simpa using hpl)
        have hheap' := setRow_heap w b' vs' (vs'.toList.take (m * s) ++ us ++ vs'.toList.drop (m * s + us.length)).toArray E _ eX
        have hpg : ∀ q, (vs'.toList.take (m * s) ++ us ++ vs'.toList.drop (m * s + us.length))[q]? = if q < m * s then vs'.toList[q]? else if q < m * s + us.length then us[q - m * s]? else vs'.toList[q]? := fun q => mL (by simpa using hfit) q
        have hblk' : zV (w.setRow b' (vs'.toList.take (m * s) ++ us ++ vs'.toList.drop (m * s + us.length)).toArray) D (β.set k' b') k' (cs ++ (uU es').map .d) := by
          refine app_blkG (b := b') (by simp [vG.set]) hheap' ?_ ?_ e5
          · have e : patch vs'.toList (m * s) us = vs'.toList.take (m * s) ++ us ++ vs'.toList.drop (m * s + us.length) := rfl
            rw [e] at hpl
            rw [hpl, hfll, Nat.add_mul]
            simp only [Array.length_toList]
            omega
          · intro q x hq
            rw [hpg q]
            rcases app_getG hq with ⟨c1, hq2⟩ | ⟨c1, d, hq2, rfl⟩
            · rw [hes] at c1
              rw [if_pos c1]
              obtain ⟨u, g1, g2, g3⟩ := e4 q x hq2
              exact ⟨u, by simpa using g1, g2, (hw.repS e5 g3).frame (hβ b') (names_get hself hq2)⟩
            · rw [hes] at c1 hq2
              have hlt : q - m * s < us.length := by
                have := (List.getElem?_eq_some_iff.1 hq2).1
                omega
              rw [if_neg (by omega), if_pos (by omega)]
              exact ⟨us[q - m * s], by simp [hlt], aW _ (by simp), hw.rep e5 (hrep _ _ d (by simp [hlt]) hq2)⟩
        have hx' : vB (w.setRow b' (vs'.toList.take (m * s) ++ us ++ vs'.toList.drop (m * s + us.length)).toArray) D (β.set k' b') (.slice (some ⟨b', 0, none⟩) (m + es'.length) cap) (.own k' E s (m + es'.length)) := by
          refine .inr ⟨b', cap, _, by simp [vG.set], rfl, hheap', ?_, hroom, hcap⟩
          have e : patch vs'.toList (m * s) us = vs'.toList.take (m * s) ++ us ++ vs'.toList.drop (m * s + us.length) := rfl
          rw [e] at hpl
          simpa [hvs] using hpl
        have this : APost a w D β o.dst k k' _ _ _ _ := ⟨_, _, rfl, hblk', hx', .inr ⟨hkb, hw, e5⟩⟩
        unfold Oper.wp execOp
        simp only [ho, resolve, invoke, builtin, Sem.run_bind, Sem.run_pure, Result.andThen_ok, List.map_toArray, List.map_cons, List.map_nil, hv, hyv, hr]
        exact this
      · have hol : (vs'.toList.take (m * s)).length = m * i.size := by rw [f3, List.length_take]; simp; omega
        have holds : ∀ q u, (vs'.toList.take (m * s))[q]? = some u → w.cell? ((⟨b', 0, none⟩ : Addr).add q) = some u := fun q u hq => by
          rw [Addr.add_lit, Nat.zero_add, cell_of_row w b' q vs' E (0, 0) eX]
          rw [List.getElem?_take] at hq
          split at hq
          · simpa using hq
          · cases hq
        have hr := run_append_grow (P := P) w T o.type E i z f1 z1 z2 ⟨b', 0, none⟩ m cap (vs'.toList.take (m * s)) hol holds ad es'.length c us (by rw [hul, f3]) hcell (by omega) (by omega) (growslice_fits (by omega) hbig')
        have hge := grownCap_ge w (m + es'.length) cap E
        have hcm := grownCap_le_maxLen w (m + es'.length) cap E (by omega)
        generalize grownCap w (m + es'.length) cap E = G at hr hge hcm
        have mW : Below w.heap.size w (w.drew.alloc (.cells ((vs'.toList.take (m * s)).toArray ++ us.toArray ++ Builtin.zeroCells z.cells (G - (m + es'.length))) E)) := ⟨rfl, rfl, rfl, by simp, fun q hq => heap_alloc_old w.drew _ hq⟩
        have hblk' : zV (w.drew.alloc (.cells ((vs'.toList.take (m * s)).toArray ++ us.toArray ++ Builtin.zeroCells z.cells (G - (m + es'.length))) E)) D (β.set k' w.heap.size) k' (cs ++ (uU es').map .d) := by
          have earr : (vs'.toList.take (m * s)).toArray ++ us.toArray ++ Builtin.zeroCells z.cells (G - (m + es'.length)) = (vs'.toList.take (m * s) ++ us ++ (Builtin.zeroCells z.cells (G - (m + es'.length))).toList).toArray := by apply Array.ext'; simp
          rw [f3] at hol
          refine app_blkG (b := w.heap.size) (E := E) (by simp [vG.set]) (by rw [← earr]; exact heap_alloc_new w.drew _) (by rw [hfll, List.length_append, List.length_append, hol, Nat.add_mul]; omega) ?_ (fun t q hq => Nat.lt_irrefl _ (hdok t _ q hq))
          intro q x hq
          rcases app_getG hq with ⟨c1, hq2⟩ | ⟨c1, d, hq2, rfl⟩
          · rw [hes] at c1
            obtain ⟨u, g1, g2, g3⟩ := e4 q x hq2
            refine ⟨u, ?_, g2, (g3.up mW (DUp.of_same D) hdok).frame (fun j hj => by simp [vG.set, hj]) (names_get hself hq2)⟩
            rw [List.append_assoc, List.getElem?_append_left (by omega), List.getElem?_take, if_pos c1]
            simpa using g1
          · rw [hes] at c1 hq2
            have hlt : q - m * s < us.length := by
              have := (List.getElem?_eq_some_iff.1 hq2).1
              omega
            refine ⟨us[q - m * s], ?_, aW _ (by simp), (hrep _ _ d (by simp [hlt]) hq2).up mW (DUp.of_same D) hdok⟩
            rw [List.append_assoc, List.getElem?_append_right (by omega), hol, List.getElem?_append_left hlt]
            simp [hlt]
        have hx' : vB (w.drew.alloc (.cells ((vs'.toList.take (m * s)).toArray ++ us.toArray ++ Builtin.zeroCells z.cells (G - (m + es'.length))) E)) D (β.set k' w.heap.size) (.slice (some ⟨w.heap.size, 0, none⟩) (m + es'.length) G) (.own k' E s (m + es'.length)) := by
          refine .inr ⟨w.heap.size, G, _, by simp [vG.set], rfl, heap_alloc_new w.drew _, ?_, hge, hcm⟩
          rw [f3] at hol
          simp only [Array.size_append, List.size_toArray, size_zeroCells, hzs, hul, hol, ← Nat.add_mul]
          congr 1
          omega
        have this : APost a w D β o.dst k k' _ _ _ _ := ⟨_, _, rfl, hblk', hx', .inl ⟨mW, Nat.le_refl _, by simp⟩⟩
        unfold Oper.wp execOp
        simp only [ho, resolve, invoke, builtin, Sem.run_bind, Sem.run_pure, Result.andThen_ok, List.map_toArray, List.map_cons, List.map_nil, hv, hyv, hr]
        exact this
end
end Go.Fid
set_option linter.unusedVariables false
set_option linter.unusedSimpArgs false
namespace Go.Fid
open Go.RowKit (Below)
section
variable {P : Program} {o : Oper} {S : SL}
end
end Go.Fid
set_option linter.unusedVariables false
set_option linter.unusedSimpArgs false
namespace Go.Fid
section
variable {P : Program} {n : Fr} {ops : Array Oper} {K : SL → BS → Prop} {S : SL} {B : BS} {l : List Oper} {o : Oper} {α : Type} {T E t' : TypeId} {x y : Operand} {k s m bytes : Nat} {zv : List Value}
variable {news : List Nat} {acc0 : List (List Nat × List Nat)}
theorem wA (k' : Nat) (F : α → kX) (L L' : List α) (hL : L.length = m) (hT : zJ P T = some (E, 1)) (hz : xL P E = some zv) (hby : hP P E = some bytes) (r : DK P n ops K (k' :: news) (acc0 ++ [([k], [k', k])]) ((dO o, .own k' E 1 (L ++ L').length) :: S) ((k', some ((L ++ L').map (fun g => SV.d (F g)))) :: (k, none) :: B) l)
    (ho : o.op = .call { callee := .builtin .append, args := #[x, y], argTypes := #[T, T] } := by exact rfl) (g : goK n ops S o = true := by kernel_rfl) (hx : ev (qN S) x = .own k E 1 m := by exact rfl) (hb : uL B k = some (L.map (fun g => SV.d (F g))) := by kernel_rfl) (hy : ev (qN S) y = .d (.sl t' 1 (L'.map F)) := by exact rfl) (hF : ∀ g, (F g).cells = [F g] := by intro g; kernel_rfl) (hzl : zv.length = 1 := by kernel_rfl)
    (hpos : Nat.blt 0 L'.length = true := by kernel_rfl) (hbig : m + L'.length ≤ maxLen := by first | (simp only [List.length_cons, List.length_nil, maxLen]; omega) | (simp [maxLen]; omega)) (hbig' : (m + L'.length) * bytes ≤ 140737488355328 := by first | omega | (simp only [List.length_cons, List.length_nil]; omega) | (simp; omega))
    (hne : Nat.beq k k' = false := by kernel_rfl) (h1 : (S.all fun p => !p.2.names k') = true := by kernel_rfl)
    (h2 : FrB k' B := by repeat first | exact frb_nil _ | refine frb_map rfl ?_ | refine frb_d rfl ?_ | refine frb_cs rfl rfl ?_ | refine frb_none rfl ?_) (hn : clear1 news (.own k' E 1 0) = true := by kernel_rfl) : DK P n ops K news acc0 S B (o :: l) := by
  obtain ⟨st1, acc, r1, r0, r2⟩ := r
  obtain ⟨hd, hg, hdB⟩ := nW g
  have h := app_local (P := P) (o := o) (S := qN S) (k := k) (k' := k') (cs := L.map (fun g => SV.d (F g))) (es' := L'.map F) ho hT hz hzl hby hx (mQ k' F L) (by rw [List.length_map, hL, Nat.mul_one]) hy (by rw [List.length_map]; exact Nat.le_of_ble_eq_true hpos) (by simpa using hbig) (by simpa using hbig')
  have e1 : (L.map (fun g => SV.d (F g))) ++ (uU (L'.map F)).map .d = (L ++ L').map (fun g => SV.d (F g)) := by rw [flat_one F hF, List.map_map, List.map_append]; rfl
  have e2 : m + (L'.map F).length = (L ++ L').length := by rw [List.length_map, List.length_append, hL]
  rw [e1, e2] at h
  have hs := cM.a (P := P) (n := n) (ops := ops) (news := news) (st := ⟨S, B⟩) (o := o) h hg (by rw [hd]; exact hdB) hb (freshB_of h1 h2) (bP hne) hn (clearL_map _ _ _)
  rw [hd] at hs
  exact ⟨st1, ([k], [k', k]) :: acc, .cons hs r1, by simpa using r0, r2⟩
end
end Go.Fid
set_option linter.unusedVariables false
set_option linter.unusedSimpArgs false
namespace Go.Fid
def swN (k k' j : Nat) : Nat := bif Nat.beq j k then k' else j
def SV.sw (k k' : Nat) : SV → SV
  | .ref j o => .ref (swN k k' j) o
  | .own j t s n => .own (swN k k' j) t s n
  | .view j o n => .view (swN k k' j) o n
  | .clo f ks => .clo f (ks.map (swN k k'))
  | x => x
theorem swN_eq (k k' : Nat) : swN k k' k = k' := by simp [swN]
theorem swN_ne {k k' j : Nat} (h : j ≠ k) : swN k k' j = j := by
  have : Nat.beq j k = false := by rw [← Bool.not_eq_true]; exact fun e => h (Nat.eq_of_beq_eq_true e)
  simp [swN, this]
theorem vB.sw {w : World} {D : uZ} {β : vG} {k k' : Nat} {v : Value} {x : SV} (h : vB w D β v (x.sw k k')) : vB w D (fun j => β (swN k k' j)) v x := by
  cases x with
  | d x => exact h
  | ref j o => exact h
  | own j t s n => exact h
  | clo f ks =>
    obtain ⟨vs, h1, h2, h3⟩ := h
    exact ⟨vs, h1, by simpa using h2, fun i j hj => h3 i (swN k k' j) (by rw [List.getElem?_map, hj]; rfl)⟩
  | emp => exact h
  | view j o n => exact h
  | junk => trivial
theorem sw_of {k k' : Nat} {x : SV} (h : x.names k = false) : x.sw k k' = x := by
  have key : ∀ j, Nat.beq k j = false → swN k k' j = j := fun j hj => swN_ne (fun e => by subst e; simp at hj)
  cases x with
  | ref j o => simp only [SV.sw]; rw [key j h]
  | own j t s n => simp only [SV.sw]; rw [key j h]
  | view j o n => simp only [SV.sw]; rw [key j h]
  | clo f ks =>
    simp only [SV.sw]
    simp only [SV.names, List.any_eq_false] at h
    have : ks.map (swN k k') = ks := by
      conv => rhs; rw [← List.map_id ks]
      exact List.map_congr_left fun j hj => key j (by rw [← Bool.not_eq_true]; exact h j hj)
    rw [this]
  | d x => rfl
  | emp => rfl
  | junk => rfl
theorem sim_ren {S S' : SL} {B B' : BS} (k k' : Nat) (h1 : S'.map (fun p => qN S p.1) = S'.map (fun p => p.2.sw k k') := by kernel_rfl) (h2 : B'.map (fun p => uL B (swN k k' p.1)) = B'.map (·.2) := by kernel_rfl) (h3 : (B'.all fun p => !(Nat.beq p.1 k')) = true := by kernel_rfl)
    (h4 : Clr k ((k, none) :: B) := by repeat first | exact clr_nil _ | refine clr_self ?_ | refine clr_map ?_ | refine clr_none ?_ | refine clr_bx ?_ | refine clr_d ?_ | refine clr_cons rfl ?_) (h5 : uL B k = none := by kernel_rfl) : jW ⟨S, B⟩ ⟨S', B'⟩ := fun C a w ⟨D, β, hs⟩ => by
  have hget : ∀ {l : BS}, (l.map (fun p => uL B (swN k k' p.1)) = l.map (·.2)) → ∀ {j c}, uL l j = some c → uL B (swN k k' j) = some c := by
    intro l
    induction l with
    | nil => intro _ j c h; simp [uL] at h
    | cons p l ih =>
      intro hl j c hj
      obtain ⟨q, y⟩ := p
      simp only [List.map_cons, List.cons.injEq] at hl
      rw [kV] at hj
      split at hj
      · rename_i e; subst e; rw [hl.1]; exact hj
      · exact ih hl.2 hj
  have hkey : ∀ {l : BS}, ((l.all fun p => !(Nat.beq p.1 k')) = true) → ∀ {j c}, uL l j = some c → j ≠ k' := by
    intro l
    induction l with
    | nil => intro _ j c h; simp [uL] at h
    | cons p l ih =>
      intro hl j c hj e
      obtain ⟨q, y⟩ := p
      simp only [List.all_cons, Bool.and_eq_true, Bool.not_eq_true'] at hl
      rw [kV] at hj
      split at hj
      · rename_i e2; subst e2; subst e; simp at hl
      · exact ih hl.2 hj e
  have hnk : ∀ {j c}, uL B j = some c → j ≠ k ∧ xQ k c = false := fun {j c} hj => by
    have hne : j ≠ k := fun e => by subst e; rw [h5] at hj; cases hj
    exact ⟨hne, h4 j c hne (by rw [kV, if_neg (fun e => hne e.symm)]; exact hj)⟩
  have hsl : ∀ {l : SL}, (l.map (fun p => qN S p.1) = l.map (fun p => p.2.sw k k')) → ∀ t, qN l t = .junk ∨ qN S t = (qN l t).sw k k' := by
    intro l
    induction l with
    | nil => intro _ t; exact .inl rfl
    | cons p l ih =>
      intro hl t
      obtain ⟨q, y⟩ := p
      simp only [List.map_cons, List.cons.injEq] at hl
      rw [vV]
      split
      · rename_i e; subst e; exact .inr hl.1
      · exact ih hl.2 t
  refine ⟨D, fun j => β (swN k k' j), hs.base, ⟨fun j c hj => ?_, fun j1 j2 c1 c2 q1 q2 b e1 e2 => ?_⟩, fun j c hj b hb => hs.high _ c (hget h2 hj) b hb, fun t => ?_⟩
  · have hc := hget h2 hj
    obtain ⟨_, hn⟩ := hnk hc
    rcases hs.mem.ok _ c hc with h | ⟨b, vs, T, g1, g2, g3, g4, g5⟩
    · exact .inl h
    · refine .inr ⟨b, vs, T, g1, g2, g3, fun i x hi => ?_, g5⟩
      obtain ⟨u, e1, e2, e3⟩ := g4 i x hi
      exact ⟨u, e1, e2, vB.sw (by rw [sw_of (names_get hn hi)]; exact e3)⟩
  · have := hs.mem.inj _ _ c1 c2 (hget h2 q1) (hget h2 q2) b e1 e2
    have n1 := hkey h3 q1
    have n2 := hkey h3 q2
    by_cases g1 : j1 = k <;> by_cases g2 : j2 = k
    · omega
    · subst g1; rw [swN_eq, swN_ne g2] at this; omega
    · subst g2; rw [swN_eq, swN_ne g1] at this; omega
    · rw [swN_ne g1, swN_ne g2] at this; exact this
  · show vB w D _ _ (qN S' t)
    rcases hsl h1 t with h | h
    · rw [h]; trivial
    · have := hs.slots t
      dsimp only at this
      rw [h] at this
      exact this.sw
end Go.Fid
set_option linter.unusedVariables false
set_option linter.unusedSimpArgs false
namespace Go.Fid
open Go.RowKit (Below)
section
variable {P : Program}
end
section
variable {P : Program} {o : Oper} {S : Nat → SV}
end
section
variable {P : Program}
end
end Go.Fid
set_option linter.unusedVariables false
set_option linter.unusedSimpArgs false
namespace Go.Fid
open Go.RowKit (Below)
section
variable {P : Program} {o : Oper} {S : Nat → SV}
end
end Go.Fid
namespace Go.Proofs.YtapjldagikfcmaaGreat
open Go.Fid
set_option maxRecDepth 4000
set_option linter.unusedVariables false
set_option linter.unusedSimpArgs false
theorem cb188 : callB Tryz.prog 188 = true := by kernel_rfl
theorem cb226 : callB Tryz.prog 226 = true := by kernel_rfl
theorem cb257 : callB Tryz.prog 257 = true := by kernel_rfl
theorem fo24_2 : vN Tryz.prog 24 2 = some 2 := by kernel_rfl
theorem p_chkC (n : Int) (w h mx : Int) (px : List Int) : kH Tryz.prog 226 [(.val (.int .i64 (n))), (.cptr 1000000 (kX.cells (qW (xA.mk w h mx px))) 0)] (.val (.bool ((mX mx n)))) := by
 refine jM Tryz.func226 rfl cb226 rfl ?_
 show uY _ _ _ _ ⟨[(0, (vi n)), (1, (.d (.cptr 1000000 (kX.cells (qW (xA.mk w h mx px))) 0)))], []⟩
 refine jA <| kx [] [] (zM <| zZ) ?_
 refine jA <| kx [(3, (vb (decide (n < 0) || decide (mx < n))))] [] ?_ ?_
 ·refine zM <| zE qY <| zE (oV (vb (decide (n < 0))) (uS (by kernel_rfl))) <| ?_
  rcases hb1 : (decide (n < 0)) with _ | _
  ·replace hb1 := of_decide_eq_false hb1
   exact zM <| zE (oFc fo24_2) <| zE (xN qP) <| zE yZ <| zE eT <| zM <| zZ
  ·replace hb1 := of_decide_eq_true hb1
   exact zK <| zK <| zK <| zK <| zE yH <| zM <| zZ
 refine jF ⟨_, (.tmp (d := (.val (.bool ((decide (n < 0) || decide (mx < n)))))) rfl .nil), ?_⟩
 rfl
theorem p_chkAI (l : List Int) (w h mx : Int) (px : List Int) (hb : l.length ≤ 1000000) : kH Tryz.prog 257 [(.sl 3 1 (List.map qL l)), (.clo 226 [(.cptr 1000000 (kX.cells (qW (xA.mk w h mx px))) 0)])] (.val (.int .i64 ((nU (mX mx) l 0)))) := by
 refine jM Tryz.func257 rfl cb257 rfl ?_
 show uY _ _ _ _ ⟨[(0, (vl 3 1 qL l)), (1, (.d (.clo 226 [(.cptr 1000000 (kX.cells (qW (xA.mk w h mx px))) 0)])))], []⟩
 refine jA <| kx [] [] (zM <| zZ) ?_
 refine jA <| jA <| kx [(7, (kD l.length)), (8, (kD 0))] [] (zM <| zE (nE uB) <| zM <| zZ) ?_
 refine jE <| uN (α := Nat) (fun k => ⟨[(0, (vl 3 1 qL l)), (1, (.d (.clo 226 [(.cptr 1000000 (kX.cells (qW (xA.mk w h mx px))) 0)]))), (7, (kD l.length)), (8, (kD k))], []⟩) (fun k => k ≤ l.length ∧ nU (mX mx) l 0 = nU (mX mx) (l.drop k) k) (fun k => l.length - k) 0 wk ⟨Nat.zero_le _, rfl⟩ ?_
 rintro k ⟨hk, hv⟩
 refine jA <| kx [(9, (vb (decide (((k : Nat) : Int) < ((l.length : Nat) : Int)))))] [] (zE qY <| zZ) ?_
 refine jA <| jO rfl (fun h1 => ?_) (fun h1 => ?_)
 ·replace h1 := of_decide_eq_true h1
  refine jB <| jA <| jE <| jA <| kx [(5, (kD k))] [] (zM <| zM <| zZ) ?_
  refine jA <| kx [(16, (vb (mX mx (l.getD k 0))))] [] (zM <| zM <| zM <| zE (aC uB k (0 : Int)) <| zE (xN qP) <| zE (oCd (ds := [(.val (.int .i64 ((l.getD k 0))))]) (caps := [(.cptr 1000000 (kX.cells (qW (xA.mk w h mx px))) 0)]) (p_chkC (l.getD k 0) w h mx px)) <| zZ) ?_
  refine jO (b := (mX mx (l.getD k 0))) rfl (fun h2 => ?_) (fun h2 => ?_)
  ·have hix := firstIx_at _ l k (by omega) h2
   refine jA <| kx [(4, (kD k))] [] (zM <| zM <| zZ) ?_
   refine jF ⟨_, (.tmp (d := (.val (.int .i64 (((k : Nat) : Int))))) rfl .nil), ?_⟩
   rw [hv, hix]; rfl
  ·have hix := firstIx_step _ l k (by omega) h2
   refine jB <| kx [(8, (kD (k + 1)))] [] (zE (uE (k + 1)) <| zM <| zZ) ?_
   exact ⟨(k + 1), wk, ⟨by omega, hv.trans hix⟩, (by omega)⟩
 ·replace h1 := of_decide_eq_false h1
  have hix := firstIx_end (mX mx) l k (by omega)
  refine kJ <| jA <| kx [(4, (vi (-1)))] [] (zM <| zZ) ?_
  refine jF ⟨_, (.tmp (d := (.val (.int .i64 (-1)))) rfl .nil), ?_⟩
  rw [hv, hix]; rfl
theorem p_chkA (l : List Int) (w h mx : Int) (px : List Int) (hb : l.length ≤ 1000000) : kH Tryz.prog 188 [(.sl 3 1 (List.map qL l)), (.clo 226 [(.cptr 1000000 (kX.cells (qW (xA.mk w h mx px))) 0)])] (.val (.bool ((l.any (mX mx))))) := by
 refine jM Tryz.func188 rfl cb188 rfl ?_
 show uY _ _ _ _ ⟨[(0, (vl 3 1 qL l)), (1, (.d (.clo 226 [(.cptr 1000000 (kX.cells (qW (xA.mk w h mx px))) 0)])))], []⟩
 refine jA <| kx [] [] (zM <| zZ) ?_
 refine jA <| kx [(4, (vb (decide (0 ≤ (nU (mX mx) l 0)))))] [] (zM <| zM <| zE (kB (p_chkAI l w h mx px hb)) <| zE oGe <| zM <| zZ) ?_
 refine jF ⟨_, (.tmp (d := (.val (.bool (decide (0 ≤ (nU (mX mx) l 0)))))) rfl .nil), ?_⟩
 rw [firstIx_any]; rfl
end Go.Proofs.YtapjldagikfcmaaGreat
namespace Go.Proofs.YtapjldagikfcmaaGreat
open Go.Fid
set_option maxRecDepth 4000
set_option linter.unusedVariables false
set_option linter.unusedSimpArgs false
theorem cb132 : callB Tryz.prog 132 = true := by kernel_rfl
theorem aP : vN Tryz.prog 24 0 = some 0 := by kernel_rfl
theorem fo24_1 : vN Tryz.prog 24 1 = some 1 := by kernel_rfl
theorem mT : vN Tryz.prog 24 3 = some 3 := by kernel_rfl
theorem p_chk (w h mx : Int) (px : List Int) (hb : px.length ≤ 1000000) : kH Tryz.prog 132 [(qW (xA.mk w h mx px))] (.val (.int .i64 ((gM w h mx px)))) := by
 refine jM Tryz.func132 rfl cb132 rfl ?_
 show uY _ _ _ _ ⟨[(0, (.d (qW (xA.mk w h mx px))))], []⟩
 refine jA <| kx [(1, (.ref 0 0))] [(0, some (bx (qW (xA.mk w h mx px))))] (zN (vD 0) <| zM <| zZ) ?_
 refine jA <| jA <| kx [(34, (vb (((decide ((min (min w h) mx) < 1) || decide (64 < (max w h))) || decide (65535 < mx)) || (((px.length : Nat) : Int) != (w * h)))))] [] ?_ ?_
 ·refine zE (kE aP) <| zR (qR qP) <| zE (kE fo24_1) <| zR (qR qP) <| zE (kE fo24_2) <| zR (qR qP) <| zE (oN3 (min (min w h) mx) (hr := by exact rfl)) <| zE qY <| zE (oV (vb (decide ((min (min w h) mx) < 1))) (uS (by kernel_rfl))) <| ?_
  rcases hb1 : (decide ((min (min w h) mx) < 1)) with _ | _
  ·replace hb1 := of_decide_eq_false hb1
   refine zE (kE aP) <| zR (qR qP) <| zE (kE fo24_1) <| zR (qR qP) <| zE (zMx (max w h) (hr := by first | omega | (dsimp only; omega))) <| zE yZ <| zE eT <| zE (oV (vb (false || decide (64 < (max w h)))) (uS (by kernel_rfl))) <| ?_
   rcases hb2 : (false || decide (64 < (max w h))) with _ | _
   ·replace hb2 := of_decide_eq_false (p := (64 < (max w h))) hb2
    refine zE (kE fo24_2) <| zR (qR qP) <| zE yZ <| zE eT <| zE (oV (vb (false || decide (65535 < mx))) (uS (by kernel_rfl))) <| ?_
    rcases hb3 : (false || decide (65535 < mx)) with _ | _
    ·replace hb3 := of_decide_eq_false (p := (65535 < mx)) hb3
     exact zE (kE mT) <| zR (qR dK) <| zE (nE uB) <| zE (kE aP) <| zR (qR qP) <| zE (kE fo24_1) <| zR (qR qP) <| zE (nJ (w * h) (hr := by exact (qO rfl (by have hq := wh_bd (w := w) (h := h) (by omega) (by omega) (by omega) (by omega); simp only [vP]; omega) (by have hq := wh_bd (w := w) (h := h) (by omega) (by omega) (by omega) (by omega); simp only [vS]; omega)))) <| zE eS <| zE eT <| zZ
    ·replace hb3 := of_decide_eq_true (p := (65535 < mx)) hb3
     exact zK <| zK <| zK <| zK <| zK <| zK <| zK <| zK <| zK <| zE yH <| zZ
   ·replace hb2 := of_decide_eq_true (p := (64 < (max w h))) hb2
    exact zK <| zK <| zK <| zE yH <| zM <| zK <| zK <| zK <| zK <| zK <| zK <| zK <| zK <| zK <| zE yH <| zZ
  ·replace hb1 := of_decide_eq_true hb1
   exact zK <| zK <| zK <| zK <| zK <| zK <| zE yH <| zM <| zK <| zK <| zK <| zE yH <| zM <| zK <| zK <| zK <| zK <| zK <| zK <| zK <| zK <| zK <| zE yH <| zZ
 refine jO rfl (fun h4 => ?_) (fun h4 => ?_)
 ·refine jA <| kx [(2, (kD 1))] [] (zM <| zZ) ?_
  refine jF ⟨_, (.tmp (d := (.val (.int .i64 (1)))) rfl .nil), ?_⟩
  rw [chk_1 h4]; rfl
 ·refine jB <| jA <| jA <| kx [(38, (vb (px.any (mX mx))))] [] (zE (kE mT) <| zR (qR dK) <| zE (oMf [0]) <| zC (oCg [(0, (kX.cells (qW (xA.mk w h mx px))))] [(vl 3 1 qL px), (.clo 226 [0])] (p_chkA px w h mx px hb) (.d (.c (css := [(kX.cells (qW (xA.mk w h mx px)))]) (.cons (.head _) .nil) .nil)) (.val _)) <| zZ) ?_
  refine jO (b := (px.any (mX mx))) rfl (fun h5 => ?_) (fun h5 => ?_)
  ·refine jA <| kx [(2, (kD 1))] [] (zM <| zZ) ?_
   refine jF ⟨_, (.tmp (d := (.val (.int .i64 (1)))) rfl .nil), ?_⟩
   rw [chk_2 h5]; rfl
  ·refine jB <| jA <| kx [(2, (kD 0))] [] (zM <| zZ) ?_
   refine jF ⟨_, (.tmp (d := (.val (.int .i64 (0)))) rfl .nil), ?_⟩
   rw [chk_3 h4 h5]; rfl
end Go.Proofs.YtapjldagikfcmaaGreat
namespace Go.Proofs.YtapjldagikfcmaaGreat
open Go.Fid
set_option maxRecDepth 4000
set_option linter.unusedVariables false
set_option linter.unusedSimpArgs false
theorem cb16 : callB Tryz.prog 16 = true := by kernel_rfl
theorem cb35 : callB Tryz.prog 35 = true := by kernel_rfl
theorem p_eq (l : List Int) (m : List Int) (hb : l.length ≤ 1000000) : kH Tryz.prog 35 [(.sl 3 1 (List.map qL l)), (.sl 3 1 (List.map qL m))] (.val (.bool ((l == m)))) := by
 refine jM Tryz.func35 rfl cb35 rfl ?_
 show uY _ _ _ _ ⟨[(0, (vl 3 1 qL l)), (1, (vl 3 1 qL m))], []⟩
 refine jA <| kx [] [] (zM <| zZ) ?_
 refine jA <| jA <| kx [(10, (vb (((l.length : Nat) : Int) != ((m.length : Nat) : Int))))] [] (zM <| zE (nE uB) <| zM <| zE (nE uB) <| zE eS <| zZ) ?_
 refine jO rfl (fun h1 => ?_) (fun h1 => ?_)
 ·replace h1 := bne_iff_ne.1 h1
  refine jA <| kx [(4, (vb false))] [] (zM <| zZ) ?_
  refine jF ⟨_, (.tmp (d := (.val (.bool (false)))) rfl .nil), ?_⟩
  rw [py_eq_len h1]; rfl
 ·replace h1 := bne_eq_false_iff_eq.1 h1
  have hlm : l.length = m.length := by omega
  refine jB <| jA <| jA <| kx [(12, (kD l.length)), (13, (kD 0))] [] (zM <| zE (nE uB) <| zM <| zZ) ?_
  refine jE <| uN (α := Nat) (fun k => ⟨[(0, (vl 3 1 qL l)), (1, (vl 3 1 qL m)), (12, (kD l.length)), (13, (kD k))], []⟩) (fun k => k ≤ l.length ∧ l.take k = m.take k) (fun k => l.length - k) 0 wk ⟨Nat.zero_le _, rfl⟩ ?_
  rintro k ⟨hk, hv⟩
  refine jA <| kx [(14, (vb (decide (((k : Nat) : Int) < ((l.length : Nat) : Int)))))] [] (zE qY <| zZ) ?_
  refine jA <| jO rfl (fun h2 => ?_) (fun h2 => ?_)
  ·replace h2 := of_decide_eq_true h2
   refine jB <| jA <| jE <| jA <| kx [(5, (kD k))] [] (zM <| zM <| zZ) ?_
   refine jA <| kd [(24, (vb ((l.getD k 0) != (m.getD k 0))))] [] mo (wM <| wM <| wE (aC uB k (0 : Int)) <| wE (xN qP) <| wM <| wM <| wE (aC uB k (0 : Int)) <| wE (xN qP) <| wE eS <| wZ) ?_
   refine jO (b := ((l.getD k 0) != (m.getD k 0))) rfl (fun h3 => ?_) (fun h3 => ?_)
   ·replace h3 := bne_iff_ne.1 h3
    refine jA <| kx [(4, (vb false))] [] (zM <| zZ) ?_
    refine jF ⟨_, (.tmp (d := (.val (.bool (false)))) rfl .nil), ?_⟩
    rw [py_eq_at h3]; rfl
   ·replace h3 := bne_eq_false_iff_eq.1 h3
    refine jB <| kx [(13, (kD (k + 1)))] [] (zE (uE (k + 1)) <| zM <| zZ) ?_
    exact ⟨(k + 1), wk, ⟨by omega, py_eq_step hv (by omega) hlm h3⟩, (by omega)⟩
  ·replace h2 := of_decide_eq_false h2
   refine kJ <| jA <| kx [(4, (vb true))] [] (zM <| zZ) ?_
   refine jF ⟨_, (.tmp (d := (.val (.bool (true)))) rfl .nil), ?_⟩
   rw [py_eq_end hv (by omega) hlm]; rfl
theorem p_rchk (w h mx : Int) (px : List Int) (hb : px.length ≤ 1000000) : kH Tryz.prog 16 [(qW (xA.mk w h mx px))] (.val (.int .i64 ((gM w h mx px)))) := by
 refine jM Tryz.func16 rfl cb16 rfl ?_
 show uY _ _ _ _ ⟨[(0, (.d (qW (xA.mk w h mx px))))], []⟩
 refine jA <| kx [(1, (.ref 0 0))] [(0, some (bx (qW (xA.mk w h mx px))))] (zN (vD 0) <| zM <| zZ) ?_
 refine jA <| jA <| kx [(42, (vb ((((((decide (w < 1) || decide (64 < w)) || decide (h < 1)) || decide (64 < h)) || decide (mx < 1)) || decide (65535 < mx)) || (((px.length : Nat) : Int) != (w * h)))))] [] ?_ ?_
 ·refine zE (kE aP) <| zR (qR qP) <| zE qY <| zE (oV (vb (decide (w < 1))) (uS (by kernel_rfl))) <| ?_
  rcases hb1 : (decide (w < 1)) with _ | _
  ·replace hb1 := of_decide_eq_false hb1
   refine zE (kE aP) <| zR (qR qP) <| zE yZ <| zE eT <| zE (oV (vb (false || decide (64 < w))) (uS (by kernel_rfl))) <| ?_
   rcases hb2 : (false || decide (64 < w)) with _ | _
   ·replace hb2 := of_decide_eq_false (p := (64 < w)) hb2
    refine zE (kE fo24_1) <| zR (qR qP) <| zE qY <| zE eT <| zE (oV (vb (false || decide (h < 1))) (uS (by kernel_rfl))) <| ?_
    rcases hb3 : (false || decide (h < 1)) with _ | _
    ·replace hb3 := of_decide_eq_false (p := (h < 1)) hb3
     refine zE (kE fo24_1) <| zR (qR qP) <| zE yZ <| zE eT <| zE (oV (vb (false || decide (64 < h))) (uS (by kernel_rfl))) <| ?_
     rcases hb4 : (false || decide (64 < h)) with _ | _
     ·replace hb4 := of_decide_eq_false (p := (64 < h)) hb4
      refine zE (kE fo24_2) <| zR (qR qP) <| zE qY <| zE eT <| zE (oV (vb (false || decide (mx < 1))) (uS (by kernel_rfl))) <| ?_
      rcases hb5 : (false || decide (mx < 1)) with _ | _
      ·replace hb5 := of_decide_eq_false (p := (mx < 1)) hb5
       refine zE (kE fo24_2) <| zR (qR qP) <| zE yZ <| zE eT <| zE (oV (vb (false || decide (65535 < mx))) (uS (by kernel_rfl))) <| ?_
       rcases hb6 : (false || decide (65535 < mx)) with _ | _
       ·replace hb6 := of_decide_eq_false (p := (65535 < mx)) hb6
        exact zE (kE mT) <| zR (qR dK) <| zE (nE uB (L := px)) <| zE (kE aP) <| zR (qR qP) <| zE (kE fo24_1) <| zR (qR qP) <| zE (nJ (w * h) (hr := by exact (qO rfl (by have hq := wh_bd (w := w) (h := h) (by omega) (by omega) (by omega) (by omega); simp only [vP]; omega) (by have hq := wh_bd (w := w) (h := h) (by omega) (by omega) (by omega) (by omega); simp only [vS]; omega)))) <| zE eS <| zE eT <| zZ
       ·replace hb6 := of_decide_eq_true (p := (65535 < mx)) hb6
        exact zK <| zK <| zK <| zK <| zK <| zK <| zK <| zK <| zK <| zE yH <| zZ
      ·replace hb5 := of_decide_eq_true (p := (mx < 1)) hb5
       exact zK <| zK <| zK <| zE yH <| zM <| zK <| zK <| zK <| zK <| zK <| zK <| zK <| zK <| zK <| zE yH <| zZ
     ·replace hb4 := of_decide_eq_true (p := (64 < h)) hb4
      exact zK <| zK <| zK <| zE yH <| zM <| zK <| zK <| zK <| zE yH <| zM <| zK <| zK <| zK <| zK <| zK <| zK <| zK <| zK <| zK <| zE yH <| zZ
    ·replace hb3 := of_decide_eq_true (p := (h < 1)) hb3
     exact zK <| zK <| zK <| zE yH <| zM <| zK <| zK <| zK <| zE yH <| zM <| zK <| zK <| zK <| zE yH <| zM <| zK <| zK <| zK <| zK <| zK <| zK <| zK <| zK <| zK <| zE yH <| zZ
   ·replace hb2 := of_decide_eq_true (p := (64 < w)) hb2
    exact zK <| zK <| zK <| zE yH <| zM <| zK <| zK <| zK <| zE yH <| zM <| zK <| zK <| zK <| zE yH <| zM <| zK <| zK <| zK <| zE yH <| zM <| zK <| zK <| zK <| zK <| zK <| zK <| zK <| zK <| zK <| zE yH <| zZ
  ·replace hb1 := of_decide_eq_true hb1
   exact zK <| zK <| zK <| zE yH <| zM <| zK <| zK <| zK <| zE yH <| zM <| zK <| zK <| zK <| zE yH <| zM <| zK <| zK <| zK <| zE yH <| zM <| zK <| zK <| zK <| zE yH <| zM <| zK <| zK <| zK <| zK <| zK <| zK <| zK <| zK <| zK <| zE yH <| zZ
 refine jO rfl (fun h7 => ?_) (fun h7 => ?_)
 ·refine jA <| kx [(2, (kD 1))] [] (zM <| zZ) ?_
  refine jF ⟨_, (.tmp (d := (.val (.int .i64 (1)))) rfl .nil), ?_⟩
  rw [chk_1 ((chkB2_eq w h mx px).symm.trans h7)]; rfl
 ·refine jB <| jA <| jA <| kx [(3, (kD 0))] [] (zM <| zZ) ?_
  refine jE <| uN (α := Nat) (fun k => ⟨[(1, (.ref 0 0)), (3, (kD k))], [(0, some (bx (qW (xA.mk w h mx px))))]⟩) (fun k => k ≤ px.length ∧ (px.take k).any (mX mx) = false) (fun k => px.length - k) 0 wk ⟨Nat.zero_le _, rfl⟩ ?_
  rintro k ⟨hk, hv⟩
  refine jA <| jA <| kx [(47, (vb (decide (((k : Nat) : Int) < ((px.length : Nat) : Int)))))] [] (zM <| zE (kE mT) <| zR (qR dK) <| zE (nE uB (L := px)) <| zE qY <| zZ) ?_
  refine jO rfl (fun h8 => ?_) (fun h8 => ?_)
  ·replace h8 := of_decide_eq_true h8
   refine jB <| jA <| jE <| jA <| kd [(65, (vb (decide ((px.getD k 0) < 0) || decide (mx < (px.getD k 0)))))] [] mo ?_ ?_
   ·refine wE (kE mT) <| wR (qR dK) <| wM <| wE (aC uB k (0 : Int) (L := px)) <| wE (xN qP) <| wE qY <| wE (oV (vb (decide ((px.getD k 0) < 0))) (uS (by kernel_rfl))) <| ?_
    rcases hb9 : (decide ((px.getD k 0) < 0)) with _ | _
    ·replace hb9 := of_decide_eq_false hb9
     exact wE (kE mT) <| wR (qR dK) <| wM <| wE (aC uB k (0 : Int) (L := px)) <| wE (xN qP) <| wE (kE fo24_2) <| wR (qR qP) <| wE yZ <| wE eT <| wZ
    ·replace hb9 := of_decide_eq_true hb9
     exact wK <| wK <| wK <| wK <| wK <| wK <| wK <| wK <| wE yH <| wZ
   refine jO rfl (fun h10 => ?_) (fun h10 => ?_)
   ·refine jA <| kx [(2, (kD 1))] [] (zM <| zZ) ?_
    refine jF ⟨_, (.tmp (d := (.val (.int .i64 (1)))) rfl .nil), ?_⟩
    rw [chk_2 (py_any_at (f := mX mx) (k := k) (by omega) h10)]; rfl
   ·refine jB <| kx [(3, (kD (k + 1)))] [] (zM <| zE (uE (k + 1)) <| zM <| zZ) ?_
    exact ⟨(k + 1), wk, ⟨by omega, py_any_step hv (by omega) h10⟩, (by omega)⟩
  ·replace h8 := of_decide_eq_false h8
   refine kJ <| jA <| kx [(2, (kD 0))] [] (zM <| zZ) ?_
   refine jF ⟨_, (.tmp (d := (.val (.int .i64 (0)))) rfl .nil), ?_⟩
   rw [chk_3 ((chkB2_eq w h mx px).symm.trans h7) (py_any_end hv (by omega))]; rfl
end Go.Proofs.YtapjldagikfcmaaGreat
set_option linter.unusedVariables false
set_option linter.unusedSimpArgs false
namespace Go.Fid
section
variable {lx ly lz la lb lc ld rx ry rz ra rb rc rd : Int} {b0 b1 b2 e00 e01 e02 e10 e11 e12 e20 e21 e22 : Rat}
end
section
variable {lx ly lz la lb lc ld rx ry rz ra rb rc rd : Int} {b0 b1 b2 e00 e01 e02 e10 e11 e12 e20 e21 e22 : Rat}
end
theorem ql_dq0 {a b c d p q r s : Int} (h : nF a b c d = 0) (h2 : nF p q r s = 0) : QL (cQ a b c d p q r s) 13 ∧ QL (cT a b c d p q r s) 13 ∧ QL (cS a b c d p q r s) 13 := by
  obtain ⟨ha, hb, hc, hd, -⟩ := vQ h
  obtain ⟨hp, hq, hr, hs, -⟩ := vQ h2
  have n1 := ql_N4 ha hb hc hd; have n2 := ql_N4 hp hq hr hs
  refine ⟨?_, ?_, ?_⟩
  · exact kQ (jG (k := 6) (ql_R02 ha hb hc hd) n2 (by decide)) (jG (k := 6) (ql_R02 hp hq hr hs) n1 (by decide)) (by decide)
  · exact kQ (jG (k := 6) (ql_R12 ha hb hc hd) n2 (by decide)) (jG (k := 6) (ql_R12 hp hq hr hs) n1 (by decide)) (by decide)
  · exact kQ (jG (k := 6) (ql_R22 ha hb hc hd) n2 (by decide)) (jG (k := 6) (ql_R22 hp hq hr hs) n1 (by decide)) (by decide)
theorem ql_cr {a b c d : Rat} {m n k : Nat} (ha : QL a m) (hb : QL b n) (hc : QL c m) (hd : QL d n) (h : (m + n) + (m + n) + 1 ≤ k) : QL (a * b - c * d) k :=
  xG (jG ha hb (Nat.le_refl _)) (jG hc hd (Nat.le_refl _)) h
theorem pair_cases (lx ly lz la lb lc ld lf lu lv rx ry rz ra rb rc rd rf ru rv : Int) :
    (∃ c, stn2 (uQ lx ly lz lu lv lf la lb lc ld) (uQ rx ry rz ru rv rf ra rb rc rd) = c ∧ c ≠ 0) ∨
    (uQ lx ly lz lu lv lf la lb lc ld = 0 ∧ uQ rx ry rz ru rv rf ra rb rc rd = 0 ∧ ∃ b0 b1 b2 : Rat, (((rx - lx : Int) : Rat) = b0 ∧ ((ry - ly : Int) : Rat) = b1 ∧ ((rz - lz : Int) : Rat) = b2) ∧ (QL b0 3 ∧ QL b1 3 ∧ QL b2 3) ∧ upV la lb lc ld ra rb rc rd b0 b1 b2 = true) ∨
    (uQ lx ly lz lu lv lf la lb lc ld = 0 ∧ uQ rx ry rz ru rv rf ra rb rc rd = 0 ∧ ∃ b0 b1 b2 e00 e01 e02 e10 e11 e12 e20 e21 e22 : Rat, RFr lx ly lz la lb lc ld rx ry rz ra rb rc rd b0 b1 b2 e00 e01 e02 e10 e11 e12 e20 e21 e22 ∧ upV la lb lc ld ra rb rc rd b0 b1 b2 = false ∧ (QL b0 3 ∧ QL b1 3 ∧ QL b2 3) ∧ (QL e00 400 ∧ QL e01 400 ∧ QL e02 400 ∧ QL e10 400 ∧ QL e11 400 ∧ QL e12 400 ∧ QL e20 400 ∧ QL e21 400 ∧ QL e22 400)) := by
  by_cases hl : uQ lx ly lz lu lv lf la lb lc ld = 0
  · by_cases hr : uQ rx ry rz ru rv rf ra rb rc rd = 0
    · have hl2 := vU hl; have hr2 := vU hr
      have qb0 : QL ((rx - lx : Int) : Rat) 3 := kL (jN (by omega) (by omega)) (by decide)
      have qb1 : QL ((ry - ly : Int) : Rat) 3 := kL (jN (by omega) (by omega)) (by decide)
      have qb2 : QL ((rz - lz : Int) : Rat) 3 := kL (jN (by omega) (by omega)) (by decide)
      rcases hup : upV la lb lc ld ra rb rc rd ((rx - lx : Int) : Rat) ((ry - ly : Int) : Rat) ((rz - lz : Int) : Rat) with _ | _
      · obtain ⟨d0, d1, d2⟩ := ql_dq0 hl2.2.2.2.2.2.2 hr2.2.2.2.2.2.2
        have k0 := yA qb0 qb1 qb2 (Nat.le_refl _) (by decide)
        have e0 := jG (k := 6) qb0 k0 (by decide)
        have e1 := jG (k := 6) qb1 k0 (by decide)
        have e2 := jG (k := 6) qb2 k0 (by decide)
        have s0 := ql_cr (k := 39) d1 e2 d2 e1 (by decide)
        have s1 := ql_cr (k := 39) d2 e0 d0 e2 (by decide)
        have s2 := ql_cr (k := 39) d0 e1 d1 e0 (by decide)
        have k1 := yA s0 s1 s2 (Nat.le_refl _) (by decide)
        have f0 := jG (k := 78) s0 k1 (by decide)
        have f1 := jG (k := 78) s1 k1 (by decide)
        have f2 := jG (k := 78) s2 k1 (by decide)
        have t0 := ql_cr (k := 169) e1 f2 e2 f1 (by decide)
        have t1 := ql_cr (k := 169) e2 f0 e0 f2 (by decide)
        have t2 := ql_cr (k := 169) e0 f1 e1 f0 (by decide)
        have k2 := yA t0 t1 t2 (Nat.le_refl _) (by decide)
        have g0 := jG (k := 338) t0 k2 (by decide)
        have g1 := jG (k := 338) t1 k2 (by decide)
        have g2 := jG (k := 338) t2 k2 (by decide)
        exact .inr (.inr ⟨hl, hr, _, _, _, _, _, _, _, _, _, _, _, _, ⟨rfl, rfl, rfl, rfl, rfl, rfl, rfl, rfl, rfl, rfl, rfl, rfl⟩, hup, ⟨qb0, qb1, qb2⟩, qV e0 (by decide), qV e1 (by decide), qV e2 (by decide), qV f0 (by decide), qV f1 (by decide), qV f2 (by decide), qV g0 (by decide), qV g1 (by decide), qV g2 (by decide)⟩)
      · exact .inr (.inl ⟨hl, hr, _, _, _, ⟨rfl, rfl, rfl⟩, ⟨qb0, qb1, qb2⟩, hup⟩)
    · exact .inl ⟨_, rfl, by unfold stn2; rw [if_pos hl]; exact hr⟩
  · exact .inl ⟨_, rfl, by unfold stn2; rw [if_neg hl]; exact hl⟩
end Go.Fid
