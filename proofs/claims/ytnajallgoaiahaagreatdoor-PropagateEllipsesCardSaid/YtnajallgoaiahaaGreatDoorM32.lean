/- Part 32 of a proof: rules, plain facts, and functions walked. -/
import Derived.Test.YtnajallgoaiahaaGreatDoorM25
import Derived.Test.YtnajallgoaiahaaGreatDoorM21
import Derived.Test.YtnajallgoaiahaaGreatDoorM29
import Derived.Test.YtnajallgoaiahaaGreatDoorM12
set_option linter.unusedVariables false
set_option linter.unusedSimpArgs false
namespace Go.Fid
def tabB : Nat → List (List kD) → BS
  | _, [] => []
  | k, r :: rs => (k, some ((kV r).map .d)) :: tabB (k + 1) rs
theorem eZ : ∀ (k : Nat) (rows : List (List kD)) (i : Nat), kK (tabB k rows) i = if k ≤ i then (rows[i - k]?).map (fun r => (kV r).map SV.d) else none
  | k, [], i => by simp [tabB, kK]
  | k, r :: rs, i => by
    simp only [tabB]
    rw [jQ, eZ (k + 1) rs i]
    by_cases h : k = i
    · subst h; simp
    · rw [if_neg h]
      by_cases h2 : k + 1 ≤ i
      · rw [if_pos h2, if_pos (by omega), show i - k = (i - (k + 1)) + 1 by omega, List.getElem?_cons_succ]
      · rw [if_neg h2, if_neg (by omega)]
theorem tabB_names {k q i : Nat} {rows : List (List kD)} {c : List SV} (h : kK (tabB k rows) i = some c) : qZ q c = false := by
  rw [eZ] at h
  split at h
  · rw [Option.map_eq_some_iff] at h
    obtain ⟨r, _, rfl⟩ := h
    exact zJ q id _
  · cases h
abbrev mI (E s : Nat) (rows : List (List kD)) : BS := (0, some (nM E s 2 rows)) :: tabB 2 rows
theorem tabA_row {E s : Nat} {rows : List (List kD)} {j : Nat} {r : List kD} (h : rows[j]? = some r) : kK (mI E s rows) (j + 2) = some ((kV r).map .d) := by
  show kK ((0, _) :: tabB 2 rows) (j + 2) = _
  rw [jQ, if_neg (by omega), eZ, if_pos (by omega), show j + 2 - 2 = j by omega, h]; rfl
theorem tabA_clr1 {E s : Nat} {rows : List (List kD)} : Clr 1 (mI E s rows) := fun j c hj h => by
  have h : kK ((0, some (nM E s 2 rows)) :: tabB 2 rows) j = some c := h
  rw [jQ] at h
  split at h
  · injection h with h; subst h; exact rowC_names (.inl (by decide))
  · exact tabB_names h
theorem tab_frb {k : Nat} : ∀ (rows : List (List kD)) (j : Nat), k < j → FrB k (tabB j rows)
  | [], j, h => frb_nil k
  | r :: rs, j, h => frb_d (by rw [← Bool.not_eq_true]; exact fun e => by have := Nat.eq_of_beq_eq_true e; omega) (tab_frb rs (j + 1) (by omega))
theorem tabA_frb {E s : Nat} {rows : List (List kD)} : FrB 1 (mI E s rows) := frb_cs rfl (rowC_names (.inl (by decide))) (tab_frb rows 2 (by decide))
theorem tabA_clr {E s : Nat} {rows : List (List kD)} {c : Option (List SV)} : Clr 1 ((1, c) :: mI E s rows) := fun j d hj h => by
  rw [jQ, if_neg (fun e => hj e.symm)] at h
  exact tabA_clr1 j d hj h
theorem tabA_clr0 {E s : Nat} {rows : List (List kD)} {l : List kD} : ∀ j c, j ≠ 0 → kK ((1, some (l.map SV.d)) :: mI E s rows) j = some c → qZ 0 c = false := fun j c hj h => by
  rw [jQ] at h
  split at h
  · injection h with h; subst h; exact zJ 0 id l
  · have h : kK ((0, some (nM E s 2 rows)) :: tabB 2 rows) j = some c := h
    rw [jQ, if_neg (fun e => hj e.symm)] at h
    exact tabB_names h
theorem bget_dup {k : Nat} {x y : Option (List SV)} {B : BS} : ∀ i c, kK ((k, x) :: B) i = some c → kK ((k, x) :: (k, y) :: B) i = some c := fun i c h => by
  rw [jQ] at h ⊢
  split
  · rename_i e; rw [if_pos e] at h; exact h
  · rename_i e; rw [if_neg e] at h; rw [jQ, if_neg e]; exact h
theorem tabA_rows {E s : Nat} {rows : List (List kD)} {x y : Option (List SV)} : ∀ (j : Nat) r, rows[j]? = some r → kK ((0, x) :: (1, y) :: mI E s rows) (j + 2) = some ((kV r).map .d) := fun j r h => by
  rw [jQ, if_neg (by omega), jQ, if_neg (by omega)]; exact tabA_row h
section
variable {P : Program} {N : Fr} {c : Code} {Q : Exit → PS → Prop} {S : SL} {B : BS}
theorem pwp_fixS (t : Nat) {k T s n : Nat} (ht : kI S t = .own k T s n) (h : ∀ ao cap, qI P N c Q ⟨(t, .ownx k T s n (.slice ao n cap)) :: S, B⟩) : qI P N c Q ⟨S, B⟩ := fun C a w M hn ⟨D, β, hs⟩ => by
  have hr := hs.slots t
  dsimp only at hr
  rw [ht] at hr
  obtain ⟨ao, cap, hv⟩ : ∃ ao cap, a.tmps.getD t undef = .slice ao n cap := by
    rcases hr with ⟨_, h2, h3⟩ | ⟨b, cap, vs, _, h3, _⟩
    · exact ⟨_, _, by rw [h3, h2]⟩
    · exact ⟨_, _, h3⟩
  refine h ao cap C a w M hn ⟨D, β, hs.base, hs.mem, hs.high, fun u => ?_⟩
  show qF w D β _ (kI ((t, _) :: S) u)
  rw [qR]
  split
  · rename_i e; subst e; exact ⟨hv, hr⟩
  · exact hs.slots u
theorem oMvx {o : Oper} {k T s n : Nat} {u : Value} (h : mvK o = true := by kernel_rfl) (hx : mvV S o = .ownx k T s n u := by kernel_rfl) : uL P o (kI S) [] (.d (.val u)) :=
  (hx ▸ kY h).weaken fun w D β v hv => by
    have e : v = u := hv.1
    subst e
    exact uT.val v
theorem tab_app {o : Oper} {T E1 t' : TypeId} {x y : Operand} {bytes E s m : Nat} {zv : List Value} {rows : List (List kD)} {d : kD} {M : Fr} (ho : o.op = .call { callee := .builtin .append, args := #[x, y], argTypes := #[T, T] })
    (hd : yZ M o.dst = true) (hT : uV P T = some (E1, 1)) (hz : xP P E1 = some zv) (hzl : zv.length = 1) (hby : xW P E1 = some bytes) (hx : ev (kI S) x = .own 0 E1 1 m) (hm : m = rows.length) (hb : kK B 0 = some (nM E s 2 rows))
    (hB : ∀ j c, j ≠ 0 → kK B j = some c → qZ 0 c = false)
    (hy : ev (kI S) y = .d (.sl t' 1 [d])) (hd1 : d.cells = [d]) (hbig : rows.length + 1 ≤ maxLen) (hbig' : (rows.length + 1) * bytes ≤ 140737488355328) {m2 : Nat} (hm2 : rows.length + 1 = m2)
    (C : fX) (a : Act) (w : World) (Q : Exit → Act → World → Prop) (hn : C.n = M) (hs : mJ C a w ⟨S, B⟩) :
    o.wp P a w (fun a' w' => mJ C a' w' ⟨eB o.dst (.own 0 E1 1 m2) (gK 0 S), (0, some (nM E s 2 rows ++ [.d d])) :: B⟩) Q := by
  subst hm
  subst hm2
  have h := app_soundG (P := P) (st := ⟨S, B⟩) (k := 0) (cs := nM E s 2 rows) (es' := [d]) (N := M) ho hd hT hz hzl hby hx hb (rowC_names (.inl (by decide))) (by rw [dP, Nat.mul_one]) hy hbig hbig' hB C a w Q hn hs
  rw [show (kV [d]).map SV.d = [.d d] by rw [nC, flat_nil, hd1]; rfl] at h
  exact h
theorem names2_sget {p q : Nat} {S : SL} (h : (S.all fun e => !e.2.names p && !e.2.names q) = true) (t : Nat) : (kI S t).names p = false ∧ (kI S t).names q = false := by
  induction S with
  | nil => exact ⟨rfl, rfl⟩
  | cons e S ih =>
    obtain ⟨j, x⟩ := e
    simp only [List.all_cons, Bool.and_eq_true, Bool.not_eq_true'] at h
    rw [qR]
    split
    · exact h.1
    · exact ih (by simpa using h.2)
theorem tab_push {S' : SL} {E s cap m : Nat} {ao : Option Addr} {rows : List (List kD)} {r : List kD} (t : Nat) (hm : r.length = m) (ht : kI S t = .ownx 1 E s m (.slice ao m cap)) (h0 : kK B 0 = some (nM E s 2 rows ++ [.d (.val (.slice ao m cap))]))
    (h1 : kK B 1 = some ((kV r).map .d)) (hr : ∀ (j : Nat) r', rows[j]? = some r' → kK B (j + 2) = some ((kV r').map .d)) (hs1 : S'.map (fun p => kI S p.1) = S'.map (·.2)) (hn : (S'.all fun p => !p.2.names (rows.length + 2) && !p.2.names 1) = true) :
    uP ⟨S, B⟩ ⟨S', mI E s (rows ++ [r])⟩ := fun C a w ⟨D, β, hs⟩ => by
  subst hm
  have hβ : ∀ j, j ≠ rows.length + 2 → (fun i => if i = rows.length + 2 then β 1 else β i : qG) j = β j := fun j hj => by simp [hj]
  have hβ0 : (fun i => if i = rows.length + 2 then β 1 else β i : qG) (rows.length + 2) = β 1 := by simp
  generalize (fun i => if i = rows.length + 2 then β 1 else β i : qG) = β' at hβ hβ0
  have tgt : ∀ {i c}, kK (mI E s (rows ++ [r])) i = some c → (i = 0 ∧ c = nM E s 2 (rows ++ [r])) ∨ (∃ j r', i = j + 2 ∧ rows[j]? = some r' ∧ c = (kV r').map SV.d) ∨ (i = rows.length + 2 ∧ c = (kV r).map SV.d) := fun {i c} hi => by
    have hi : kK ((0, some (nM E s 2 (rows ++ [r]))) :: tabB 2 (rows ++ [r])) i = some c := hi
    rw [jQ] at hi
    split at hi
    · rename_i e; injection hi with hi; exact .inl ⟨e.symm, hi.symm⟩
    · rw [eZ] at hi
      split at hi
      · rw [Option.map_eq_some_iff] at hi
        obtain ⟨r', hr', rfl⟩ := hi
        by_cases hlt : i - 2 < rows.length
        · rw [List.getElem?_append_left hlt] at hr'
          exact .inr (.inl ⟨i - 2, r', by omega, hr', rfl⟩)
        · have hl := (List.getElem?_eq_some_iff.1 hr').1
          simp only [List.length_append, List.length_cons, List.length_nil] at hl
          have e : i - 2 = rows.length := by omega
          rw [e] at hr'
          simp at hr'
          subst hr'
          exact .inr (.inr ⟨by omega, rfl⟩)
      · cases hi
  -- where a block of the new state lay
  have src : ∀ {i c}, kK (mI E s (rows ++ [r])) i = some c → ∃ q c', kK B q = some c' ∧ β' i = β q ∧ (i = rows.length + 2 → q = 1) ∧ (i ≠ rows.length + 2 → q = i) ∧ q ≠ rows.length + 2 := fun {i c} hi => by
    rcases tgt hi with ⟨rfl, _⟩ | ⟨j, r', rfl, hr', _⟩ | ⟨rfl, _⟩
    · exact ⟨0, _, h0, hβ _ (by omega), fun e => by omega, fun _ => rfl, by omega⟩
    · have hlt := (List.getElem?_eq_some_iff.1 hr').1
      exact ⟨j + 2, _, hr j r' hr', hβ _ (by omega), fun e => by omega, fun _ => rfl, by omega⟩
    · exact ⟨1, _, h1, hβ0, fun _ => rfl, fun e => absurd rfl e, by omega⟩
  have hne1 : ∀ {i c}, kK (mI E s (rows ++ [r])) i = some c → i ≠ 1 := fun {i c} hi e => by
    rcases tgt hi with ⟨h, _⟩ | ⟨j, r', h, _, _⟩ | ⟨h, _⟩ <;> omega
  refine ⟨D, β', hs.base, ⟨fun i c hi => ?_, fun i1 i2 c1 c2 q1 q2 b e1 e2 => ?_⟩, fun i c hi b e => ?_, fun u => ?_⟩
  · rcases tgt hi with ⟨rfl, rfl⟩ | ⟨j, r', rfl, hr', rfl⟩ | ⟨rfl, rfl⟩
    · rcases hs.mem.ok 0 _ h0 with ⟨_, h⟩ | ⟨b, vs, T, g1, g2, g3, g4, g5⟩
      · simp at h
      · refine .inr ⟨b, vs, T, (hβ 0 (by omega)).trans g1, g2, by rw [dP]; simpa [dP] using g3, fun i x hx => ?_, g5⟩
        rw [rowC_get, Option.map_eq_some_iff] at hx
        obtain ⟨r', hr', rfl⟩ := hx
        by_cases hlt : i < rows.length
        · rw [List.getElem?_append_left hlt] at hr'
          obtain ⟨u, e1, e2, e3⟩ := g4 i (.own (2 + i) E s r'.length) (by rw [List.getElem?_append_left (by rw [dP]; exact hlt), rowC_get, hr']; rfl)
          exact ⟨u, e1, e2, e3.frame hβ (by simp only [SV.names]; rw [← Bool.not_eq_true]; exact fun e => by have := Nat.eq_of_beq_eq_true e; omega)⟩
        · have hl := (List.getElem?_eq_some_iff.1 hr').1
          simp only [List.length_append, List.length_cons, List.length_nil] at hl
          have e : i = rows.length := by omega
          subst e
          simp at hr'
          subst hr'
          obtain ⟨u, e1, e2, e3⟩ := g4 rows.length (.d (.val (.slice ao r.length cap))) (by rw [List.getElem?_append_right (by rw [dP]; omega), dP, Nat.sub_self]; rfl)
          have eu := vA e3
          have hrep := hs.slots t
          dsimp only at hrep
          rw [ht] at hrep
          obtain ⟨ev, hrep⟩ := hrep
          rw [ev, ← eu] at hrep
          refine ⟨u, e1, e2, ?_⟩
          show qF w D β' u (.own (2 + rows.length) E s r.length)
          rw [Nat.add_comm]
          rcases hrep with ⟨k1, k2, k3⟩ | ⟨b', cap', vs', k1, k2⟩
          · exact .inl ⟨hβ0.trans k1, k2, k3⟩
          · exact .inr ⟨b', cap', vs', hβ0.trans k1, k2⟩
    · have hlt := (List.getElem?_eq_some_iff.1 hr').1
      exact (hs.mem.ok _ _ (hr j r' hr')).frame hβ (by omega) (zJ _ id _)
    · rcases hs.mem.ok 1 _ h1 with ⟨g1, g2⟩ | ⟨b, vs, T, g1, g2, g3, g4, g5⟩
      · exact .inl ⟨hβ0.trans g1, g2⟩
      · refine .inr ⟨b, vs, T, hβ0.trans g1, g2, g3, fun i x hx => ?_, g5⟩
        obtain ⟨u, e1, e2, e3⟩ := g4 i x hx
        rw [List.getElem?_map, Option.map_eq_some_iff] at hx
        obtain ⟨d, _, rfl⟩ := hx
        exact ⟨u, e1, e2, e3⟩
  · obtain ⟨p1, d1, g1, b1, n1, m1, _⟩ := src q1
    obtain ⟨p2, d2, g2, b2, n2, m2, _⟩ := src q2
    have hp := hs.mem.inj p1 p2 d1 d2 g1 g2 b (b1.symm.trans e1) (b2.symm.trans e2)
    have w1 := hne1 q1
    have w2 := hne1 q2
    by_cases x1 : i1 = rows.length + 2 <;> by_cases x2 : i2 = rows.length + 2
    · omega
    · have := n1 x1; have := m2 x2; omega
    · have := m1 x1; have := n2 x2; omega
    · have := m1 x1; have := m2 x2; omega
  · obtain ⟨p1, d1, g1, b1, _⟩ := src hi
    exact hs.high _ _ g1 b (b1.symm.trans e)
  · obtain ⟨hnm, _⟩ := names2_sget hn u
    show qF w D β' _ (kI S' u)
    rcases vW hs1 u with h | h
    · rw [h]; trivial
    · have h2 := hs.slots u
      rw [h] at hnm ⊢
      exact h2.frame hβ hnm
end
theorem sg_range {N k : Nat} (h : k < N) : sg (List.range N) N k = k := by unfold sg; rw [List.getElem?_range h]; rfl
theorem nd_of {M : Nat} : ∀ {ks : List Nat}, ks.Nodup → (∀ k ∈ ks, k < M) → ndB M ks = true
  | [], _, _ => rfl
  | k :: ks, h1, h2 => by
    rw [List.nodup_cons] at h1
    simp only [ndB, Bool.and_eq_true, Bool.not_eq_true', Nat.blt_eq]
    refine ⟨⟨h2 k (by simp), ?_⟩, nd_of h1.2 fun j hj => h2 j (by simp [hj])⟩
    rw [← Bool.not_eq_true, dH]
    exact h1.1
theorem nd_range (N : Nat) : ndB N (List.range N) = true := nd_of List.nodup_range fun k hk => List.mem_range.1 hk
theorem rb_tabB {N : Nat} : ∀ (rows : List (List kD)) (k : Nat), k + rows.length ≤ N → RB (List.range N) N (tabB k rows) (tabB k rows)
  | [], k, h => .nil
  | r :: rs, k, h => by
    simp only [List.length_cons] at h
    exact .cons (List.getElem?_range (by omega)) (nD _ _) (rb_tabB rs (k + 1) (by omega))
theorem rowC_ren {N E s : Nat} : ∀ (rows : List (List kD)) (k : Nat), k + rows.length ≤ N → (nM E s k rows).map (SV.ren (sg (List.range N) N)) = nM E s k rows
  | [], k, h => rfl
  | r :: rs, k, h => by
    simp only [List.length_cons] at h
    simp only [nM, List.map_cons]
    rw [rowC_ren rs (k + 1) (by omega)]
    show SV.own (sg (List.range N) N k) E s r.length :: _ = _
    rw [sg_range (by omega)]
theorem rb_tab {E s : Nat} (rows : List (List kD)) : RB (List.range (rows.length + 2)) (rows.length + 2) (mI E s rows) (mI E s rows) :=
  .cons (List.getElem?_range (by omega)) (rowC_ren rows 2 (by omega)) (rb_tabB rows 2 (by omega))
section
variable {P : Program} {n : Fr} {ops : Array Oper} {K : SL → BS → Prop} {S : SL} {l : List Oper} {o : Oper}
def SV.isD : SV → Bool
  | .d _ => true
  | _ => false
theorem isD_okV {S : SL} (h : (S.all fun p => p.2.isD) = true) (ks : List Nat) (M t : Nat) : okV ks M [] [] (kI S t) = true := by
  induction S with
  | nil => rfl
  | cons p S ih =>
    obtain ⟨j, x⟩ := p
    simp only [List.all_cons, Bool.and_eq_true] at h
    rw [qR]
    split
    · cases x with
      | d x => rfl
      | _ => cases h.1
    · exact ih h.2
theorem bget_app2 {X Z : BS} {j : Nat} {c : List SV} (_ : True) : kK X j = some c → kK (X ++ Z) j = some c := by
  induction X with
  | nil => intro h; simp [kK] at h
  | cons p X ih =>
    obtain ⟨q, x⟩ := p
    intro h
    show kK ((q, x) :: (X ++ Z)) j = _
    rw [jQ] at h ⊢
    split
    · rename_i e; rw [if_pos e] at h; exact h
    · rename_i e; rw [if_neg e] at h; exact ih h
theorem zTab {f : FuncId} {y : Operand} {args : List Operand} {ats : Array TypeId} {ds : List kD} {Eo E s m : Nat} {rows : List (List kD)} (hf : mL P f (ds.map SV.d) [] (.own 0 Eo 1 rows.length) (mI E s rows)) (hm : rows.length = m)
    (r : SK P n ops K ((dO o, .own 0 Eo 1 m) :: S) (mI E s rows) l) (ho : o.op = .call { callee := .value y, args := args.toArray, argTypes := ats } := by exact rfl) (hy : ev (kI S) y = .d (.val (.func (.func f) #[] #[])) := by kernel_rfl) (g : goK n ops S o = true := by kernel_rfl)
    (hx : args.map (ev (kI S)) = ds.map SV.d := by kernel_rfl) (hS : (S.all fun p => p.2.isD) = true := by kernel_rfl) : SK P n ops K S [] (o :: l) := by
  subst hm
  obtain ⟨hd, hg, hdB⟩ := yP g
  have hok : ∀ (ks : List Nat) (M : Nat) (t : Nat), kI (cutS ks M [] [] S) t = kI S t := fun ks M t => by
    rw [sget_cut, isD_okV hS ks M t]; rfl
  refine zX (S1 := (dO o, .own 0 Eo 1 rows.length) :: S) (B1 := mI E s rows) (fun C a w Q hn' hs => ?_) hg r
  have hcall := call_op (C := C) (a := a) (w := w) (Q := Q) (S0 := S) (B0 := []) (ks := List.range (rows.length + 2)) (F := []) (M := rows.length + 2) (ex := []) (o := o) hf ho (.fn hy) (by
      rw [List.append_nil, hx, List.map_map]; rfl) (by rw [hn', hd]; exact hdB) (nd_range _) .nil (rb_tab rows) rfl .nil rfl (fun j c _ h => by cases h) hs
  rw [hd] at hcall
  refine Oper.wp_mono (fun a' w' h => ?_) hcall
  refine yW (fun t => ?_) (fun k c hk => ?_) C a' w' h
  · show kI ((dO o, _) :: S) t = .junk ∨ kI ((dO o, _) :: S) t = kI ((dO o, _) :: cutS _ _ _ _ S) t
    rw [qR, qR]
    split
    · refine .inr ?_
      show _ = SV.own (sg (List.range (rows.length + 2)) (rows.length + 2) 0) Eo 1 rows.length
      rw [sg_range (by omega)]
    · rw [hok]; exact .inr rfl
  · exact bget_app2 trivial hk
end
theorem rowC_set {E s : Nat} : ∀ (rows : List (List kD)) (k j : Nat) (r : List kD), r.length = (rows.getD j []).length → nM E s k (rows.set j r) = nM E s k rows
  | [], k, j, r, h => rfl
  | x :: rs, k, 0, r, h => by
    have h : r.length = x.length := h
    simp only [List.set_cons_zero, nM, h]
  | x :: rs, k, j + 1, r, h => by
    simp only [List.set_cons_succ, nM]
    rw [rowC_set rs (k + 1) j r h]
theorem tab_set {S S' : SL} {E s : Nat} {rows : List (List kD)} {j : Nat} {r : List kD} (hr : r.length = (rows.getD j []).length) (hj : j < rows.length) (hs : S'.map (fun p => kI S p.1) = S'.map (·.2)) :
    uP ⟨S, (j + 2, some ((kV r).map .d)) :: mI E s rows⟩ ⟨S', mI E s (rows.set j r)⟩ := by
  refine yW (vW hs) fun i c hi => ?_
  have hi : kK ((0, some (nM E s 2 (rows.set j r))) :: tabB 2 (rows.set j r)) i = some c := hi
  rw [jQ] at hi ⊢
  by_cases h0 : 0 = i
  · rw [if_pos h0, rowC_set rows 2 j r hr] at hi
    rw [if_neg (by omega)]
    show kK ((0, some (nM E s 2 rows)) :: tabB 2 rows) i = some c
    rw [jQ, if_pos h0]; exact hi
  · rw [if_neg h0, eZ] at hi
    split at hi
    · rename_i h2
      rw [List.getElem?_set] at hi
      by_cases h3 : j + 2 = i
      · rw [if_pos h3]
        rw [if_pos (by omega), if_pos (by omega)] at hi
        exact hi
      · rw [if_neg h3]
        rw [if_neg (by omega)] at hi
        show kK ((0, some (nM E s 2 rows)) :: tabB 2 rows) i = some c
        rw [jQ, if_neg h0, eZ, if_pos h2]; exact hi
    · cases hi
section
variable {P : Program} {n : Fr} {ops : Array Oper} {K : SL → BS → Prop} {S S0 S1 : SL} {B B0 B1 : BS} {l : List Oper} {o : Oper} {news : List Nat} {acc0 : List (List Nat × List Nat)}
theorem kdr {id : Nat} {Q : Exit → PS → Prop} (S1 : SL) (B1 : BS) (hm : P.follows .mixedOrders = true) (h : DK P n l.toArray (KI S1 B1) [] [] S0 B0 l) (hq : Q .normal ⟨S1, B1⟩) (hb : backB l.toArray = true := by kernel_rfl) (hp : l.all gA = true := by kernel_rfl) : qI P n (.region id l.toArray true) Q ⟨S0, B0⟩ := fun C a w N hn hs => by
  obtain ⟨st1, acc, h1, h0, h2⟩ := h
  subst hn
  exact wpIn_region_any hm (draw_sound (C := C) rfl (by simpa using h1) (by simpa using h0) hb (by simpa using hp) (fun a' w' hs' => ⟨_, h2 C a' w' hs', hq⟩) hs)
theorem wI (h : uP ⟨S, B⟩ ⟨S1, B1⟩) (h7 : orderB ops acc0 = true := by kernel_rfl) : DK P n ops (KI S1 B1) news acc0 S B [] := ⟨⟨S, B⟩, [], .nil, by simpa using h7, h⟩
theorem tab_ld {T E s : TypeId} {x : Operand} {rows : List (List kD)} {j : Nat} {m : Nat} (hs : qO P T = some (false, 1)) (hj : j < rows.length) (hm : (rows.getD j []).length = m) (ho : o.op = .load T x := by exact rfl) (hx : ev (kI S) x = .ref 0 j := by exact rfl) : ROk P o S (mI E s rows) 0 (.own (j + 2) E s m) :=
  ⟨nM E s 2 rows, e_ld1 ho hx hs (by
    subst hm
    rw [rowC_get, List.getElem?_eq_getElem hj]
    simp only [Option.map_some, List.getD_eq_getElem?_getD, List.getElem?_eq_getElem hj, Option.getD_some]
    rw [Nat.add_comm]), by show kK ((0, _) :: tabB 2 rows) 0 = _; rw [jQ, if_pos rfl]⟩
end
theorem flat_lenS {s : Nat} : ∀ (r : List kD), (∀ e ∈ r, e.cells.length = s) → (kV r).length = r.length * s
  | [], _ => by simp [flat_nil]
  | e :: r, h => by
    rw [nC, List.length_append, h e (by simp), List.length_cons, Nat.add_mul, flat_lenS r (fun x hx => h x (by simp [hx]))]
    omega
theorem tab_pubs {S : SL} {E s : Nat} : ∀ (rows : List (List kD)) (k : Nat) (done : List SV) (B : BS), 0 < k → (∀ r ∈ rows, ∀ e ∈ r, e.cells.length = s) → kK B 0 = some (done ++ nM E s k rows) → (∀ (j : Nat) (r : List kD), rows[j]? = some r → kK B (k + j) = some ((kV r).map .d)) →
    uP ⟨S, B⟩ ⟨S, [(0, some (done ++ rows.map fun r => .d (.sl E s r)))]⟩
  | [], k, done, B, hk, hc, h0, hb => by
    simp only [nM, List.append_nil] at h0
    simp only [List.map_nil, List.append_nil]
    refine yW (fun t => .inr rfl) fun i c hi => ?_
    rw [jQ] at hi
    split at hi
    · rename_i e; subst e; rw [h0]; exact hi
    · cases hi
  | r :: rs, k, done, B, hk, hc, h0, hb => by
    have hr := hc r (by simp)
    have hl : ((kV r).map SV.d).length = r.length * s := by rw [List.length_map, flat_lenS r hr]
    have h1 := eY (st := ⟨S, B⟩) (j := 0) (k := k) (s := s) (m := r.length) (T := E) (pre := done) (post := nM E s (k + 1) rs) (cs := (kV r).map .d) (es := r) h0 (by omega) (by have := hb 0 r rfl; simpa using this) hr rfl (by rw [← hl, List.take_length])
    have h2 := tab_pubs (S := S) rs (k + 1) (done ++ [.d (.sl E s r)]) ((0, some (done ++ .d (.sl E s r) :: nM E s (k + 1) rs)) :: (k, none) :: B) (by omega) (fun x hx => hc x (by simp [hx])) (by rw [jQ, if_pos rfl, List.append_assoc]; rfl) (fun j x hx => by
      rw [jQ, if_neg (by omega), jQ, if_neg (by omega), show k + 1 + j = k + (j + 1) by omega]
      exact hb (j + 1) x (by simpa using hx))
    rw [List.append_assoc] at h2
    exact h1.trans h2
theorem tab_pub {S : SL} {E s : Nat} (rows : List (List kD)) (hc : ∀ r ∈ rows, ∀ e ∈ r, e.cells.length = s) : uP ⟨S, mI E s rows⟩ ⟨S, [(0, some (rows.map fun r => .d (.sl E s r)))]⟩ :=
  tab_pubs rows 2 [] (mI E s rows) (by decide) hc (by show kK ((0, _) :: tabB 2 rows) 0 = _; rw [jQ, if_pos rfl]; rfl) fun j r h => by
    rw [Nat.add_comm]; exact tabA_row h
end Go.Fid
set_option linter.unusedVariables false
set_option linter.unusedSimpArgs false
namespace Go.Proofs.YtnajallgoaiahaaGreatDoor
open Go.Fid
def zQ (zs : List Int) : List Rat := zs.map fun z : Int => (z : Rat)
theorem zQ_ql {zs : List Int} (h : ∀ z ∈ zs, -9223372036854775808 ≤ z ∧ z ≤ 9223372036854775807) : ∀ q ∈ zQ zs, QL q 3 := fun q hq => by
  obtain ⟨z, hz, rfl⟩ := List.mem_map.1 hq
  exact yR (qL (h z hz).1 (h z hz).2) (by decide)
theorem zQ_row {zs : List Int} {n : Nat} (h : ∀ z ∈ zs, -9223372036854775808 ≤ z ∧ z ≤ 9223372036854775807) (hn : 3 ≤ n) (hl : zs.length ≤ 1000000) : zG n (List.map jT (zQ zs)) := pts_row (fun q hq => yA (zQ_ql h q hq) hn) (by unfold zQ; rw [List.length_map]; exact hl)
def kT : List vT := [⟨1, 0, 0, zr⟩, ⟨1, 1, 0, zr⟩, ⟨4, 0, 1, zr⟩]
def kX : List Rat := zQ [2, 3]
def kQ : List (List jE) := [List.map jT (zQ [1, 0]), List.map jT (zQ [0, 4])]
def kE : List (List jE) := [List.map jT (zQ [5, 4]), List.map jT (zQ [4, 5])]
theorem kX_ql : ∀ q ∈ kX, QL q 1048576 := fun q hq => yA (zQ_ql (by decide) q hq) (by decide)
theorem kT_ok : ∀ x ∈ kT, hH x.n (jN x.n) 1048576 := fun x hx => by
  have : x.n = zr := by
    unfold kT at hx
    simp only [List.mem_cons, List.not_mem_nil, or_false] at hx
    rcases hx with rfl | rfl | rfl <;> rfl
  rw [this]
  exact ⟨rfl, by decide, by decide, by decide⟩
theorem kQ_ok : vR 1048576 kQ := ⟨fun r hr => by
  unfold kQ at hr
  simp only [List.mem_cons, List.not_mem_nil, or_false] at hr
  rcases hr with rfl | rfl <;> exact zQ_row (by decide) (by decide) (by decide), by decide⟩
theorem kE_ok : vR 6 kE := ⟨fun r hr => by
  unfold kE at hr
  simp only [List.mem_cons, List.not_mem_nil, or_false] at hr
  rcases hr with rfl | rfl <;> exact zQ_row (by decide) (by decide) (by decide), by decide⟩
theorem vrow_of (l : List Rat) : eT (List.map jT l) = true := by
  unfold eT
  rw [List.all_eq_true]
  intro a ha
  obtain ⟨r, h1, rfl⟩ := List.mem_map.1 ha
  exact nY _
theorem kQ_rect : mF kQ kQ.length kX.length := ⟨rfl, fun l hl => by
  unfold kQ at hl
  simp only [List.mem_cons, List.not_mem_nil, or_false] at hl
  rcases hl with rfl | rfl <;> exact ⟨rfl, vrow_of _⟩, by decide, by decide, by decide, by decide⟩
theorem kE_rect : mF kE 2 2 := ⟨rfl, fun l hl => by
  unfold kE at hl
  simp only [List.mem_cons, List.not_mem_nil, or_false] at hl
  rcases hl with rfl | rfl <;> exact ⟨rfl, vrow_of _⟩, by decide, by decide, by decide, by decide⟩
theorem kE_chk : nE kE = 0 := rect_chk kE_rect
theorem eqm2 {a b c d : Rat} (h : b = c) : symB [[jT a, jT b], [jT c, jT d]] = true := by
  refine sym_yes fun i hi j hj => ?_
  match i, j, hi, hj with
  | 1, 0, _, _ => exact decide_eq_true (by subst h; rfl)
theorem kQ_fit : gJ kQ kX.length = 0 := fit_ok ⟨rfl, rfl⟩ (eqm2 rfl)
theorem kE_fit : gJ kE kE.length = 0 := fit_ok ⟨rfl, rfl⟩ (eqm2 rfl)
instance (n : Nat) (a : R2) : Decidable (GL n a) := by unfold GL QL; infer_instance
theorem kT_run : JRun (List.map cZ kX) kT := by
  refine ⟨by decide +kernel, fun k hk => ?_, fun k hk => ?_⟩
  · match k, hk with
    | 0, _ => exact ⟨by decide +kernel, by decide +kernel, rfl⟩
    | 1, _ => exact ⟨by decide +kernel, by decide +kernel, rfl⟩
    | 2, _ => exact ⟨by decide +kernel, by decide +kernel, rfl⟩
  · match k, hk with
    | 0, _ => intro h; revert h; decide
    | 1, _ => intro h; revert h; decide
    | 2, _ => intro h; revert h; decide
theorem kGr : yX kX kT = [jT 3, jT 2] := by
  unfold yX
  rw [show (gO (List.map cZ kX) kT).g = [(3, 3), (2, 2)] by decide +kernel]
  rfl
theorem kVar : covR kQ (yX kX kT) (yX kX kT) = 25 := by
  rw [kGr]
  show 0 + jN (jT 3) * jN (jT (0 + jN (jT 1) * jN (jT 3) + jN (jT 0) * jN (jT 2))) + jN (jT 2) * jN (jT (0 + jN (jT 0) * jN (jT 3) + jN (jT 4) * jN (jT 2))) = 25
  simp only [gR]
  decide +kernel
theorem kEa : jN ((kE.getD 0 []).getD 0 (jE.mk (jD.mk false []) (jD.mk false []))) = 5 := by
  show jN (jT ((5 : Int) : Rat)) = 5
  rw [gR]; rfl
theorem kEb : jN ((kE.getD 1 []).getD 1 (jE.mk (jD.mk false []) (jD.mk false []))) = 5 := by
  show jN (jT ((5 : Int) : Rat)) = 5
  rw [gR]; rfl
theorem kEc : jN ((kE.getD 0 []).getD 1 (jE.mk (jD.mk false []) (jD.mk false []))) = 4 := by
  show jN (jT ((4 : Int) : Rat)) = 4
  rw [gR]; rfl
theorem zs_at {zs : List Int} (h : ∀ z ∈ zs, -9223372036854775808 ≤ z ∧ z ≤ 9223372036854775807) {i : Nat} (hi : i < zs.length) : -9223372036854775808 ≤ zs.getD i 0 ∧ zs.getD i 0 ≤ 9223372036854775807 := by
  rw [List.getD_eq_getElem?_getD, List.getElem?_eq_getElem hi]; exact h _ (List.getElem_mem _)
theorem rng2 {a b c d : Rat} (h1 : a = c) (h2 : b = d) : kG.mk (jT a) (jT b) = kG.mk (jT c) (jT d) := by rw [h1, h2]
end Go.Proofs.YtnajallgoaiahaaGreatDoor
set_option linter.unusedVariables false
set_option linter.unusedSimpArgs false
namespace Go.Proofs.YtnajallgoaiahaaGreatDoor
open Go.Fid
def trE (m : List (List jE)) (i j a b : Nat) : jE := if a < i ∨ (a = i ∧ b < j) then (m.getD a []).getD b (jE.mk (jD.mk false []) (jD.mk false [])) else jT ((0 : Int) : Rat)
def trT (m : List (List jE)) (r c i j : Nat) : List (List jE) := (List.range c).map fun b => (List.range r).map fun a => trE m i j a b
def trM (m : List (List jE)) (r c : Nat) : List (List jE) := (List.range c).map fun b => (List.range r).map fun a => (m.getD a []).getD b (jE.mk (jD.mk false []) (jD.mk false []))
theorem aI (m : List (List jE)) (r c i j : Nat) : (trT m r c i j).length = c := by simp [trT]
theorem trT_at (m : List (List jE)) {r c i j b : Nat} (h : b < c) : (trT m r c i j).getD b [] = (List.range r).map fun a => trE m i j a b := by
  unfold trT
  rw [List.getD_eq_getElem?_getD, List.getElem?_map, List.getElem?_range h]; rfl
theorem trT_row (m : List (List jE)) {r c i j b : Nat} (h : b < c) : ((trT m r c i j).getD b []).length = r := by rw [trT_at m h]; simp
theorem trT_set (m : List (List jE)) {r c i j : Nat} (hi : i < r) (hj : j < c) : (trT m r c i j).set j (((trT m r c i j).getD j []).set i ((m.getD i []).getD j (jE.mk (jD.mk false []) (jD.mk false [])))) = trT m r c i (j + 1) := by
  rw [trT_at m hj]
  refine List.ext_getElem (by rw [List.length_set, aI, aI]) fun b h1 h2 => ?_
  rw [aI] at h2
  have g1 : ∀ q (h : b < (trT m r c i q).length), (trT m r c i q)[b] = (List.range r).map fun a => trE m i q a b := fun q h => by simp [trT]
  rw [List.getElem_set, g1 (j + 1)]
  split
  · rename_i e; subst e
    refine List.ext_getElem (by simp) fun a h3 h4 => ?_
    rw [List.getElem_set]
    simp only [List.getElem_map, List.getElem_range]
    split
    · rename_i e; subst e
      unfold trE; rw [if_pos (by omega)]
    · unfold trE
      by_cases h : a < i
      · rw [if_pos (by omega), if_pos (by omega)]
      · rw [if_neg (by omega), if_neg (by omega)]
  · rw [g1 j]
    refine List.map_congr_left fun a _ => ?_
    unfold trE
    by_cases h : a < i ∨ (a = i ∧ b < j)
    · rw [if_pos h, if_pos (by omega)]
    · rw [if_neg h, if_neg (by omega)]
theorem trT_next (m : List (List jE)) (r c i : Nat) : trT m r c i c = trT m r c (i + 1) 0 := by
  unfold trT
  refine List.map_congr_left fun b hb => List.map_congr_left fun a _ => ?_
  have hb := List.mem_range.1 hb
  unfold trE
  by_cases h : a < i + 1
  · rw [if_pos (by omega), if_pos (by omega)]
  · rw [if_neg (by omega), if_neg (by omega)]
theorem trT_0 (m : List (List jE)) (r c : Nat) : trT m r c 0 0 = List.replicate c (List.replicate r (jT ((0 : Int) : Rat))) := by
  unfold trT
  rw [List.eq_replicate_iff]
  refine ⟨by simp, fun l hl => ?_⟩
  obtain ⟨b, _, rfl⟩ := List.mem_map.1 hl
  rw [List.eq_replicate_iff]
  refine ⟨by simp, fun x hx => ?_⟩
  obtain ⟨a, _, rfl⟩ := List.mem_map.1 hx
  unfold trE; rw [if_neg (by omega)]
theorem trT_end (m : List (List jE)) (r c : Nat) : trT m r c r 0 = trM m r c := by
  unfold trT trM
  refine List.map_congr_left fun b hb => List.map_congr_left fun a ha => ?_
  have ha := List.mem_range.1 ha
  unfold trE; rw [if_pos (by omega)]
abbrev tdD (L : List (List jE)) : List (List kD) := L.map (List.map jK)
theorem tdD_at {L : List (List jE)} (j : Nat) : (tdD L).getD j [] = (L.getD j []).map jK := by
  rw [List.getD_eq_getElem?_getD, List.getD_eq_getElem?_getD, List.getElem?_map]
  cases L[j]? <;> rfl
theorem tdD_get {L : List (List jE)} {j : Nat} (h : j < L.length) : (tdD L)[j]? = some ((L.getD j []).map jK) := by
  rw [List.getElem?_map, List.getD_eq_getElem?_getD, List.getElem?_eq_getElem h]; rfl
theorem tdD_set {L : List (List jE)} (j : Nat) (r : List jE) : (tdD L).set j (r.map jK) = tdD (L.set j r) := by
  show (L.map _).set j _ = (L.set j r).map _
  rw [List.map_set]
theorem tdD_cells {L : List (List jE)} : ∀ r ∈ tdD L, ∀ e ∈ r, e.cells.length = 4 := fun r hr e he => by
  obtain ⟨l, _, rfl⟩ := List.mem_map.1 hr
  obtain ⟨x, _, rfl⟩ := List.mem_map.1 he
  rfl
theorem rng_all {f : Nat → Bool} {n : Nat} (h : ∀ a, a < n → f a = true) : (List.range n).all f = true := List.all_eq_true.2 fun a ha => h a (List.mem_range.1 ha)
theorem rng_no {f : Nat → Bool} {n i : Nat} (hi : i < n) (h : f i = false) : (List.range n).all f = false := by
  cases hb : (List.range n).all f with
  | false => rfl
  | true => rw [List.all_eq_true.1 hb i (List.mem_range.2 hi)] at h; cases h
theorem up_all {f : Nat → Bool} {i : Nat} (h : ∀ a, a < i → f a = true) (hi : f i = true) : ∀ a, a < i + 1 → f a = true := fun a ha => by
  rcases Nat.lt_or_ge a i with h1 | h1
  · exact h a h1
  · obtain rfl : a = i := by omega
    exact hi
def eK (l k : List jE) : Bool := decide (l.length = k.length) && (List.range l.length).all fun i => gM (l.getD i (jE.mk (jD.mk false []) (jD.mk false []))) (k.getD i (jE.mk (jD.mk false []) (jD.mk false [])))
def sameM (m q : List (List jE)) : Bool := decide (m.length = q.length) && (List.range m.length).all fun i => eK (m.getD i []) (q.getD i [])
theorem sameL_len {l k : List jE} (h : ((l.length : Nat) : Int) ≠ ((k.length : Nat) : Int)) : eK l k = false := by unfold eK; rw [decide_eq_false (by omega), Bool.false_and]
theorem sameL_no {l k : List jE} {i : Nat} (hi : i < l.length) (h : gM (l.getD i (jE.mk (jD.mk false []) (jD.mk false []))) (k.getD i (jE.mk (jD.mk false []) (jD.mk false []))) = false) : eK l k = false := by unfold eK; rw [rng_no hi h, Bool.and_false]
theorem sameL_yes {l k : List jE} (h0 : ((l.length : Nat) : Int) = ((k.length : Nat) : Int)) (h : ∀ a, a < l.length → gM (l.getD a (jE.mk (jD.mk false []) (jD.mk false []))) (k.getD a (jE.mk (jD.mk false []) (jD.mk false []))) = true) : eK l k = true := by unfold eK; rw [decide_eq_true (by omega), rng_all h]; rfl
theorem sameM_len {l k : List (List jE)} (h : ((l.length : Nat) : Int) ≠ ((k.length : Nat) : Int)) : sameM l k = false := by unfold sameM; rw [decide_eq_false (by omega), Bool.false_and]
theorem sameM_no {l k : List (List jE)} {i : Nat} (hi : i < l.length) (h : eK (l.getD i []) (k.getD i []) = false) : sameM l k = false := by unfold sameM; rw [rng_no hi h, Bool.and_false]
theorem sameM_yes {l k : List (List jE)} (h0 : ((l.length : Nat) : Int) = ((k.length : Nat) : Int)) (h : ∀ a, a < l.length → eK (l.getD a []) (k.getD a []) = true) : sameM l k = true := by unfold sameM; rw [decide_eq_true (by omega), rng_all h]; rfl
theorem trM_at (m : List (List jE)) {r c b : Nat} (h : b < c) : (trM m r c).getD b [] = (List.range r).map fun a => (m.getD a []).getD b (jE.mk (jD.mk false []) (jD.mk false [])) := by
  unfold trM
  rw [List.getD_eq_getElem?_getD, List.getElem?_map, List.getElem?_range h]; rfl
theorem trM_ok {m : List (List jE)} {N c : Nat} (hm : vR N m) (hr : mF m m.length c) : vR N (trM m m.length c) := by
  have h1 := hr.r64
  have h2 := hr.c64
  refine ⟨fun l hl => ?_, by simp [trM]; omega⟩
  obtain ⟨b, hb, rfl⟩ := List.mem_map.1 hl
  have hb := List.mem_range.1 hb
  refine ⟨fun x hx => ?_, by simp; omega⟩
  obtain ⟨a, ha, rfl⟩ := List.mem_map.1 hx
  have ha := List.mem_range.1 ha
  exact qN (kO (d := []) hm ha).1 (by rw [(hr.at ha).1]; exact hb)
theorem same_valid {x y : jE} (hx : kP x = true) (hy : kP y = true) : gM x y = decide (jN x = jN y) := by
  rw [← ofQ_toQ hx, ← ofQ_toQ hy, sameR_of, gR, gR]
theorem sym_tr {m : List (List jE)} (hr : mF m m.length m.length) : sameM m (trM m m.length m.length) = symB m := by
  have hv : ∀ i j, i < m.length → j < m.length → kP ((m.getD i []).getD j zr) = true := fun i j hi hj => by
    obtain ⟨h1, h2⟩ := hr.at hi
    exact valid_get h2 (by rw [h1]; exact hj)
  have hg : ∀ i j, i < m.length → j < m.length → ((trM m m.length m.length).getD i []).getD j zr = (m.getD j []).getD i zr := fun i j hi hj => by
    rw [trM_at m hi, List.getD_eq_getElem?_getD, List.getElem?_map, List.getElem?_range hj]; rfl
  have he : ∀ i j, i < m.length → j < m.length → gM ((m.getD i []).getD j zr) (((trM m m.length m.length).getD i []).getD j zr) = eqM m i j := fun i j hi hj => by
    rw [hg i j hi hj, same_valid (hv i j hi hj) (hv j i hj hi)]; rfl
  cases hs : symB m with
  | true =>
    refine sameM_yes (by simp [trM]) fun i hi => sameL_yes (by rw [(hr.at hi).1, trM_at m hi]; simp) fun j hj => ?_
    have hj : j < m.length := by rw [(hr.at hi).1] at hj; exact hj
    refine (he i j hi hj).trans (decide_eq_true ?_)
    rcases Nat.lt_trichotomy i j with h | h | h
    · exact (sym_at hs hj h).symm
    · rw [h]
    · exact sym_at hs hi h
  | false =>
    cases hm : sameM m (trM m m.length m.length) with
    | false => rfl
    | true =>
      rw [← hs]; symm
      unfold sameM at hm
      rw [Bool.and_eq_true] at hm
      refine sym_yes fun i hi j hj => ?_
      have h1 := List.all_eq_true.1 hm.2 i (List.mem_range.2 hi)
      unfold eK at h1
      rw [Bool.and_eq_true] at h1
      rw [← he i j hi (by omega)]
      exact List.all_eq_true.1 h1.2 j (List.mem_range.2 (by rw [(hr.at hi).1]; omega))
theorem bad_any {m : List (List jE)} {i : Nat} (hi : i < m.length) (h : xS m (m.getD i []) = true) : m.any (xS m) = true := by
  rw [List.any_eq_true]
  refine ⟨m.getD i [], ?_, h⟩
  rw [List.getD_eq_getElem?_getD, List.getElem?_eq_getElem hi]; exact List.getElem_mem _
theorem bad_none {m : List (List jE)} (h : ∀ a, a < m.length → xS m (m.getD a []) = false) : m.any (xS m) = false := by
  rw [List.any_eq_false]
  intro l hl
  obtain ⟨i, hi, rfl⟩ := List.getElem_of_mem hl
  have := h i hi
  rw [List.getD_eq_getElem?_getD, List.getElem?_eq_getElem hi] at this
  rw [show xS m m[i] = false from this]; simp
theorem up_bad {f : Nat → Bool} {i : Nat} (h : ∀ a, a < i → f a = false) (hi : f i = false) : ∀ a, a < i + 1 → f a = false := fun a ha => by
  rcases Nat.lt_or_ge a i with h1 | h1
  · exact h a h1
  · obtain rfl : a = i := by omega
    exact hi
def brX (x : jE) : Bool := if (decide (1 < ((x.num.gs.length : Nat) : Int)) || decide (1 < ((x.den.gs.length : Nat) : Int))) = true then false else
  ((((x.num.gs.length : Nat) : Int) == 0) || decide (((x.num.gs.getD 0 0 : Nat) : Int) < 100000)) && ((((x.den.gs.length : Nat) : Int) == 0) || decide (((x.den.gs.getD 0 0 : Nat) : Int) ≤ 100))
def shX (n : Nat) (x : jE) : Bool := !(decide (((n : Nat) : Int) < ((digR x : Nat) : Int)) || (decide (((n : Nat) : Int) ≤ 6) && !(brX x)))
theorem shX_t {n : Nat} {x : jE} (h : (decide (((n : Nat) : Int) < ((digR x : Nat) : Int)) || (decide (((n : Nat) : Int) ≤ 6) && !(brX x))) = true) : shX n x = false := by unfold shX; rw [h]; rfl
theorem shX_f {n : Nat} {x : jE} (h : (decide (((n : Nat) : Int) < ((digR x : Nat) : Int)) || (decide (((n : Nat) : Int) ≤ 6) && !(brX x))) = false) : shX n x = true := by unfold shX; rw [h]; rfl
theorem shX_le {n : Nat} {x : jE} (h : shX n x = true) : digR x ≤ n := by
  unfold shX at h
  rw [Bool.not_eq_true', Bool.or_eq_false_iff, decide_eq_false_iff_not] at h
  omega
def shR (c n : Nat) (l : List jE) : Bool := decide (l.length ≤ c) && l.all (shX n)
def shM (c n : Nat) (m : List (List jE)) : Bool := decide (m.length ≤ c) && m.all (shR c n)
theorem all_up {α : Type} {f : α → Bool} {l : List α} {i : Nat} {d : α} (h : i < l.length) (ha : (l.take i).all f = true) (hf : f (l.getD i d) = true) : (l.take (i + 1)).all f = true := by
  rw [take_all (d := d) h, ha, hf]; rfl
theorem all_no {α : Type} {f : α → Bool} {l : List α} {i : Nat} {d : α} (h : i < l.length) (hf : f (l.getD i d) = false) : l.all f = false := by
  cases hb : l.all f with
  | false => rfl
  | true =>
    rw [List.getD_eq_getElem?_getD, List.getElem?_eq_getElem h, Option.getD_some, List.all_eq_true.1 hb _ (List.getElem_mem h)] at hf; cases hf
theorem shR_long {c n : Nat} {l : List jE} (h : ((c : Nat) : Int) < ((l.length : Nat) : Int)) : shR c n l = false := by unfold shR; rw [decide_eq_false (by omega)]; rfl
theorem shR_no {c n : Nat} {l : List jE} (h : (l.all (shX n)) = false) : shR c n l = false := by unfold shR; rw [h, Bool.and_false]
theorem shR_yes {c n : Nat} {l : List jE} (h0 : ¬ ((c : Nat) : Int) < ((l.length : Nat) : Int)) (h : (l.all (shX n)) = true) : shR c n l = true := by unfold shR; rw [decide_eq_true (by omega), h]; rfl
theorem shM_long {c n : Nat} {l : List (List jE)} (h : ((c : Nat) : Int) < ((l.length : Nat) : Int)) : shM c n l = false := by unfold shM; rw [decide_eq_false (by omega)]; rfl
theorem shM_no {c n : Nat} {l : List (List jE)} (h : l.all (shR c n) = false) : shM c n l = false := by unfold shM; rw [h, Bool.and_false]
theorem shM_yes {c n : Nat} {l : List (List jE)} (h0 : ¬ ((c : Nat) : Int) < ((l.length : Nat) : Int)) (h : l.all (shR c n) = true) : shM c n l = true := by unfold shM; rw [decide_eq_true (by omega), h]; rfl
theorem shM_ok {m : List (List jE)} {c n : Nat} (h : shM c n m = true) (hn : 1 ≤ n) (hc : c ≤ 1000) : vR n m := by
  unfold shM at h
  simp only [Bool.and_eq_true, decide_eq_true_eq, List.all_eq_true] at h
  refine ⟨fun r hr => ?_, by omega⟩
  have h2 := h.2 r hr
  unfold shR at h2
  simp only [Bool.and_eq_true, decide_eq_true_eq, List.all_eq_true] at h2
  refine ⟨fun a ha => ?_, by omega⟩
  have h3 := shX_le (h2.2 a ha)
  unfold digR at h3
  exact qok_raw hn (by omega) (by omega)
theorem rt_sq {s : Rat} (k : Nat) (hs : 0 ≤ s) : Rat.divInt (kH (vF (s * ((((2 ^ k : Nat) : Int) : Rat) * (((2 ^ k : Nat) : Int) : Rat))))) ((2 ^ k : Nat) : Int) * Rat.divInt (kH (vF (s * ((((2 ^ k : Nat) : Int) : Rat) * (((2 ^ k : Nat) : Int) : Rat))))) ((2 ^ k : Nat) : Int) ≤ s ∧
    s ≤ Rat.divInt (mW (s * ((((2 ^ k : Nat) : Int) : Rat) * (((2 ^ k : Nat) : Int) : Rat)))) ((2 ^ k : Nat) : Int) * Rat.divInt (mW (s * ((((2 ^ k : Nat) : Int) : Rat) * (((2 ^ k : Nat) : Int) : Rat)))) ((2 ^ k : Nat) : Int) := by
  have h1 := rt_lo (xJ (k := k) hs)
  have h2 := rt_hi (xJ (k := k) hs)
  rw [← div_sq _ k] at h1 h2
  exact ⟨Rat.le_of_mul_le_mul_right h1 (pp_pos k), Rat.le_of_mul_le_mul_right h2 (pp_pos k)⟩
theorem half2 : Rat.divInt 1 2 + Rat.divInt 1 2 = 1 := by decide +kernel
theorem el_eq1 {A B C h r : Rat} (hh : h + h = 1) : (h * (A + B) + r - A) * (h * (A + B) + r - B) - C * C = r * r - ((h * (A - B)) * (h * (A - B)) + C * C) := by grind
theorem el_eq2 {A B C h r : Rat} (hh : h + h = 1) : (h * (A + B) - r - A) * (h * (A + B) - r - B) - C * C = r * r - ((h * (A - B)) * (h * (A - B)) + C * C) := by grind
theorem cmpQ_ge0 {a b : Rat} : 0 ≤ xC a b ↔ b ≤ a := by
  constructor
  · intro h
    rcases Rat.le_total (a := b) (b := a) with h1 | h1
    · exact h1
    · rcases Rat.le_iff_lt_or_eq.1 h1 with h2 | h2
      · have := cmpQ_lt.2 h2; omega
      · rw [h2]; exact Rat.le_refl
  · intro h
    rcases Rat.le_iff_lt_or_eq.1 h with h2 | h2
    · have := cmpQ_gt.2 h2; omega
    · have := cmpQ_eq.2 h2.symm; omega
section
variable {A B C r l : Rat}
theorem sub_le0 {a b : Rat} (h : a - b ≤ 0) : a ≤ b := by grind
theorem el_s1 {h : Rat} (hh : h + h = 1) (hl : l * l ≤ (h * (A - B)) * (h * (A - B)) + C * C) : xC ((h * (A + B) + l - A) * (h * (A + B) + l - B)) (C * C) ≤ 0 := cmpQ_le.2 (sub_le0 (by rw [el_eq1 hh]; grind))
theorem el_s2 {h : Rat} (hh : h + h = 1) (hr : (h * (A - B)) * (h * (A - B)) + C * C ≤ r * r) : 0 ≤ xC ((h * (A + B) + r - A) * (h * (A + B) + r - B)) (C * C) := cmpQ_ge0.2 (by have e := el_eq1 (A := A) (B := B) (C := C) (r := r) hh; grind)
theorem el_s3 {h : Rat} (hh : h + h = 1) (hr : (h * (A - B)) * (h * (A - B)) + C * C ≤ r * r) : 0 ≤ xC ((h * (A + B) - r - A) * (h * (A + B) - r - B)) (C * C) := cmpQ_ge0.2 (by have e := el_eq2 (A := A) (B := B) (C := C) (r := r) hh; grind)
theorem el_s4 {h : Rat} (hh : h + h = 1) (hl : l * l ≤ (h * (A - B)) * (h * (A - B)) + C * C) : xC ((h * (A + B) - l - A) * (h * (A + B) - l - B)) (C * C) ≤ 0 := cmpQ_le.2 (sub_le0 (by rw [el_eq2 hh]; grind))
end
end Go.Proofs.YtnajallgoaiahaaGreatDoor
