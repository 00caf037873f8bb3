/- Part 13 of a proof: rules, plain facts, and functions walked. -/
import Derived.Test.YtleidgohjckmlaaM12
set_option linter.unusedVariables false
set_option linter.unusedSimpArgs false
namespace Go.Fid
open Go.RowKit (Below)
def rowC (E : TypeId) (s : Nat) : Nat → List (List Dat) → List SV
  | _, [] => []
  | k, r :: rs => .own k E s r.length :: rowC E s (k + 1) rs
def rowB : Nat → List (List Dat) → BS
  | _, [] => []
  | k, r :: rs => (k, some (r.map .d)) :: rowB (k + 1) rs
theorem rowC_get {E : TypeId} {s : Nat} : ∀ (k : Nat) (rows : List (List Dat)) (j : Nat), (rowC E s k rows)[j]? = (rows[j]?).map fun r => .own (k + j) E s r.length
  | _, [], j => by simp [rowC]
  | k, r :: rs, 0 => by simp [rowC]
  | k, r :: rs, j + 1 => by
    simp only [rowC, List.getElem?_cons_succ]
    rw [rowC_get (k + 1) rs j, show k + 1 + j = k + (j + 1) by omega]
theorem rowC_len {E : TypeId} {s : Nat} : ∀ (k : Nat) (rows : List (List Dat)), (rowC E s k rows).length = rows.length
  | _, [] => rfl
  | k, r :: rs => by simp [rowC, rowC_len (k + 1) rs]
theorem rowB_get : ∀ (k : Nat) (rows : List (List Dat)) (i : Nat), bget (rowB k rows) i = if k ≤ i then (rows[i - k]?).map (List.map SV.d) else none
  | k, [], i => by simp [rowB, bget]
  | k, r :: rs, i => by
    simp only [rowB]
    rw [bget_cons, rowB_get (k + 1) rs i]
    by_cases h : k = i
    · subst h; simp
    · rw [if_neg h]
      by_cases h2 : k + 1 ≤ i
      · rw [if_pos h2, if_pos (by omega), show i - k = (i - (k + 1)) + 1 by omega, List.getElem?_cons_succ]
      · rw [if_neg h2, if_neg (by omega)]
theorem rowC_names {E : TypeId} {s k q : Nat} {rows : List (List Dat)} (h : q < k ∨ k + rows.length ≤ q) : namesAny q (rowC E s k rows) = false := by
  simp only [namesAny, List.any_eq_false]
  intro x hx
  obtain ⟨j, hj⟩ := List.getElem?_of_mem hx
  rw [rowC_get, Option.map_eq_some_iff] at hj
  obtain ⟨r, hr, rfl⟩ := hj
  have := (List.getElem?_eq_some_iff.1 hr).1
  simp only [SV.names, Bool.not_eq_true]
  rw [← Bool.not_eq_true]
  exact fun e => by have := Nat.eq_of_beq_eq_true e; omega
theorem rowB_names {k q i : Nat} {rows : List (List Dat)} {c : List SV} (h : bget (rowB k rows) i = some c) : namesAny q c = false := by
  rw [rowB_get] at h
  split at h
  · rw [Option.map_eq_some_iff] at h
    obtain ⟨r, _, rfl⟩ := h
    exact namesAny_map q id r
  · cases h
theorem blk_weak {w : World} {D : DSet} {β : BMap} {k : Nat} {cs cs' : List SV} (h : BlkOk w D β k cs) (hl : cs'.length = cs.length) (hx : ∀ (i : Nat) (x : SV), cs'[i]? = some x → x = SV.junk ∨ cs[i]? = some x) : BlkOk w D β k cs' := by
  rcases h with ⟨h1, h2⟩ | ⟨b, vs, T, h1, h2, h3, h4, h5⟩
  · exact .inl ⟨h1, List.eq_nil_of_length_eq_zero (by rw [hl, h2]; rfl)⟩
  · refine .inr ⟨b, vs, T, h1, h2, by omega, fun i x hi => ?_, h5⟩
    have hlt : i < cs.length := by have := (List.getElem?_eq_some_iff.1 hi).1; omega
    obtain ⟨u, e1, e2, e3⟩ := h4 i _ (List.getElem?_eq_getElem hlt)
    rcases hx i x hi with rfl | h
    · exact ⟨u, e1, e2, trivial⟩
    · rw [List.getElem?_eq_getElem hlt] at h
      injection h with h
      exact ⟨u, e1, e2, h ▸ e3⟩
theorem sim_junk {S : SL} {B : BS} {cs : List SV} (j : Nat) : SimImp ⟨S, (0, some cs) :: B⟩ ⟨S, (0, some (cs.set j .junk)) :: B⟩ := fun C a w ⟨D, β, hs⟩ => by
  have conv : ∀ {i c}, bget ((0, some (cs.set j SV.junk)) :: B) i = some c → ∃ c', bget ((0, some cs) :: B) i = some c' := fun {i c} hi => by
    rw [bget_cons] at hi ⊢
    split at hi
    · rename_i e; rw [if_pos e]; exact ⟨_, rfl⟩
    · rename_i e; rw [if_neg e]; exact ⟨_, hi⟩
  refine ⟨D, β, hs.base, ⟨fun i c hi => ?_, fun i1 i2 c1 c2 q1 q2 => ?_⟩, fun i c hi => ?_, hs.slots⟩
  · rw [bget_cons] at hi
    split at hi
    · rename_i e; subst e
      injection hi with hi; subst hi
      refine blk_weak (hs.mem.ok 0 cs (by rw [bget_cons, if_pos rfl])) (by simp) fun i x hx => ?_
      rw [List.getElem?_set] at hx
      split at hx
      · split at hx
        · injection hx with hx; exact .inl hx.symm
        · cases hx
      · exact .inr hx
    · rename_i e
      exact hs.mem.ok i c (by rw [bget_cons, if_neg e]; exact hi)
  · obtain ⟨d1, g1⟩ := conv q1
    obtain ⟨d2, g2⟩ := conv q2
    exact hs.mem.inj i1 i2 d1 d2 g1 g2
  · obtain ⟨d, g⟩ := conv hi
    exact hs.high i d g
section
variable {P : Program} {o : Oper} {S : SL}
theorem row_app {T E t' : TypeId} {x y : Operand} {j bytes : Nat} {zv : List Value} {rows : List (List Dat)} {d : Dat} {N : Fr} (ho : o.op = .call { callee := .builtin .append, args := #[x, y], argTypes := #[T, T] })
    (hd : dstB N o.dst = true) (hT : elemB P T = some (E, 1)) (hz : zeroB P E = some zv) (hzl : zv.length = 1) (hby : bytesB P E = some bytes) (hj : j < rows.length) (hx : ev (sget S) x = .own (j + 1) E 1 (rows.getD j []).length)
    (hy : ev (sget S) y = .d (.sl t' 1 [d])) (hd1 : d.cells = [d]) (hbig : (rows.getD j []).length + 1 ≤ maxLen) (hbig' : ((rows.getD j []).length + 1) * bytes ≤ 140737488355328)
    (C : Ctx) (a : Act) (w : World) (Q : Exit → Act → World → Prop) (hn : C.n = N) (hs : Sim C a w ⟨S, (0, some (rowC E 1 1 rows)) :: rowB 1 rows⟩) :
    o.wp P a w (fun a' w' => Sim C a' w' ⟨putS o.dst (.own (j + 1) E 1 ((rows.getD j []).length + 1)) (forget (j + 1) S), (j + 1, some ((rows.getD j [] ++ [d]).map .d)) :: (0, some ((rowC E 1 1 rows).set j .junk)) :: rowB 1 rows⟩) Q := by
  have hr : rows[j]? = some (rows.getD j []) := by rw [List.getD_eq_getElem?_getD, List.getElem?_eq_getElem hj]; rfl
  have h := app_soundG (P := P) (st := ⟨S, (0, some ((rowC E 1 1 rows).set j .junk)) :: rowB 1 rows⟩) (k := j + 1) (cs := (rows.getD j []).map .d) (es' := [d]) (N := N) ho hd hT hz hzl hby hx
    (by show bget ((0, _) :: _) (j + 1) = _; rw [bget_cons, if_neg (by omega), rowB_get, if_pos (by omega), show j + 1 - 1 = j by omega, hr]; rfl) (namesAny_map (j + 1) id _) (by simp) hy hbig hbig' (fun i c hi hb => by
      dsimp only at hb
      rw [bget_cons] at hb
      split at hb
      · injection hb with hb; subst hb
        simp only [namesAny, List.any_eq_false]
        intro v hv
        obtain ⟨q, hq⟩ := List.getElem?_of_mem hv
        rw [List.getElem?_set] at hq
        split at hq
        · split at hq
          · injection hq with hq; subst hq; simp [SV.names]
          · cases hq
        · rename_i hne
          rw [rowC_get, Option.map_eq_some_iff] at hq
          obtain ⟨r, _, rfl⟩ := hq
          simp only [SV.names]
          exact fun e => hne (by have := Nat.eq_of_beq_eq_true e; omega)
      · exact rowB_names hb) C a w Q hn (sim_junk j C a w hs)
  have e : (rows.getD j []).map SV.d ++ (flat [d]).map SV.d = (rows.getD j [] ++ [d]).map SV.d := by rw [flat_cons, flat_nil, hd1]; simp
  rw [e] at h
  exact h
theorem row_nil {T E E1 t' : TypeId} {x y : Operand} {bytes : Nat} {zv : List Value} {rows : List (List Dat)} {N : Fr} (ho : o.op = .call { callee := .builtin .append, args := #[x, y], argTypes := #[T, T] })
    (hd : dstB N o.dst = true) (hT : elemB P T = some (E1, 1)) (hz : zeroB P E1 = some zv) (hzl : zv.length = 1) (hby : bytesB P E1 = some bytes) (hx : ev (sget S) x = .own 0 E1 1 rows.length)
    (hy : ev (sget S) y = .d (.sl t' 1 [.val (.slice none 0 0)])) (hbig : rows.length + 1 ≤ maxLen) (hbig' : (rows.length + 1) * bytes ≤ 140737488355328)
    (C : Ctx) (a : Act) (w : World) (Q : Exit → Act → World → Prop) (hn : C.n = N) (hs : Sim C a w ⟨S, (0, some (rowC E 1 1 rows)) :: rowB 1 rows⟩) :
    o.wp P a w (fun a' w' => Sim C a' w' ⟨putS o.dst (.own 0 E1 1 (rows.length + 1)) (forget 0 S), (0, some (rowC E 1 1 rows ++ [.d (.val (.slice none 0 0))])) :: (0, some (rowC E 1 1 rows)) :: rowB 1 rows⟩) Q :=
  app_soundG (P := P) (st := ⟨S, (0, some (rowC E 1 1 rows)) :: rowB 1 rows⟩) (k := 0) (cs := rowC E 1 1 rows) (es' := [.val (.slice none 0 0)]) (N := N) ho hd hT hz hzl hby hx rfl (rowC_names (.inl (by decide))) (by rw [rowC_len, Nat.mul_one]) hy hbig hbig' (fun i c hi hb => by
      dsimp only at hb
      rw [bget_cons, if_neg (fun e => hi e.symm)] at hb
      exact rowB_names hb) C a w Q hn hs
theorem names_sget {k : Nat} {S : SL} (h : (S.all fun p => !p.2.names k) = true) (t : Nat) : (sget S t).names k = false := by
  induction S with
  | nil => rfl
  | cons p S ih =>
    obtain ⟨j, x⟩ := p
    simp only [List.all_cons, Bool.and_eq_true, Bool.not_eq_true'] at h
    rw [sget_cons]
    split
    · exact h.1
    · exact ih h.2
theorem sim_row {S' : SL} {E : TypeId} {rows : List (List Dat)} {c0 : Option (List SV)} (hs1 : S'.map (fun p => sget S p.1) = S'.map (·.2)) (hn : (S'.all fun p => !p.2.names (rows.length + 1)) = true) :
    SimImp ⟨S, (0, some (rowC E 1 1 rows ++ [.d (.val (.slice none 0 0))])) :: (0, c0) :: rowB 1 rows⟩ ⟨S', (0, some (rowC E 1 1 (rows ++ [[]]))) :: rowB 1 (rows ++ [[]])⟩ := fun C a w ⟨D, β, hs⟩ => by
  have hβ : ∀ j, j ≠ rows.length + 1 → (fun i => if i = rows.length + 1 then none else β i : BMap) j = β j := fun j hj => by simp [hj]
  have hβ0 : (fun i => if i = rows.length + 1 then none else β i : BMap) (rows.length + 1) = none := by simp
  generalize (fun i => if i = rows.length + 1 then none else β i : BMap) = β' at hβ hβ0
  have src : ∀ {i r}, rows[i]? = some r → bget ((0, some (rowC E 1 1 rows ++ [SV.d (.val (.slice none 0 0))])) :: (0, c0) :: rowB 1 rows) (i + 1) = some (r.map SV.d) := fun {i r} h => by
    rw [bget_cons, if_neg (by omega), bget_cons, if_neg (by omega), rowB_get, if_pos (by omega), show i + 1 - 1 = i by omega, h]; rfl
  have tgt : ∀ {i c}, bget ((0, some (rowC E 1 1 (rows ++ [[]]))) :: rowB 1 (rows ++ [[]])) i = some c → (i = 0 ∧ c = rowC E 1 1 (rows ++ [[]])) ∨ (∃ j r, i = j + 1 ∧ rows[j]? = some r ∧ c = r.map SV.d) ∨ (i = rows.length + 1 ∧ c = []) := fun {i c} hi => by
    rw [bget_cons] at hi
    split at hi
    · rename_i e; injection hi with hi; exact .inl ⟨e.symm, hi.symm⟩
    · rw [rowB_get] at hi
      split at hi
      · rw [Option.map_eq_some_iff] at hi
        obtain ⟨r, hr, rfl⟩ := hi
        by_cases hlt : i - 1 < rows.length
        · rw [List.getElem?_append_left hlt] at hr
          exact .inr (.inl ⟨i - 1, r, by omega, hr, rfl⟩)
        · have hl := (List.getElem?_eq_some_iff.1 hr).1
          simp only [List.length_append, List.length_cons, List.length_nil] at hl
          have e : i - 1 = rows.length := by omega
          rw [e] at hr
          simp at hr
          subst hr
          exact .inr (.inr ⟨by omega, rfl⟩)
      · cases hi
  have conv : ∀ {i c}, i ≠ rows.length + 1 → bget ((0, some (rowC E 1 1 (rows ++ [[]]))) :: rowB 1 (rows ++ [[]])) i = some c → ∃ c', bget ((0, some (rowC E 1 1 rows ++ [SV.d (.val (.slice none 0 0))])) :: (0, c0) :: rowB 1 rows) i = some c' := fun {i c} hne hi => by
    rcases tgt hi with ⟨rfl, _⟩ | ⟨j, r, rfl, hr, _⟩ | ⟨h, _⟩
    · exact ⟨_, by rw [bget_cons, if_pos rfl]⟩
    · exact ⟨_, src hr⟩
    · exact absurd h hne
  refine ⟨D, β', hs.base, ⟨fun i c hi => ?_, fun i1 i2 c1 c2 q1 q2 b e1 e2 => ?_⟩, fun i c hi b e => ?_, fun t => ?_⟩
  · rcases tgt hi with ⟨rfl, rfl⟩ | ⟨j, r, rfl, hr, rfl⟩ | ⟨rfl, rfl⟩
    · rcases hs.mem.ok 0 _ (by rw [bget_cons, if_pos rfl]) with ⟨_, h⟩ | ⟨b, vs, T, h1, h2, h3, h4, h5⟩
      · simp at h
      · refine .inr ⟨b, vs, T, (hβ 0 (by omega)).trans h1, h2, by rw [rowC_len]; simpa [rowC_len] using h3, fun i x hx => ?_, h5⟩
        rw [rowC_get, Option.map_eq_some_iff] at hx
        obtain ⟨r, hr, rfl⟩ := hx
        by_cases hlt : i < rows.length
        · rw [List.getElem?_append_left hlt] at hr
          obtain ⟨u, e1, e2, e3⟩ := h4 i (.own (1 + i) E 1 r.length) (by rw [List.getElem?_append_left (by rw [rowC_len]; exact hlt), rowC_get, hr]; rfl)
          exact ⟨u, e1, e2, e3.frame hβ (by simp only [SV.names]; rw [← Bool.not_eq_true]; exact fun e => by have := Nat.eq_of_beq_eq_true e; omega)⟩
        · have hl := (List.getElem?_eq_some_iff.1 hr).1
          simp only [List.length_append, List.length_cons, List.length_nil] at hl
          have e : i = rows.length := by omega
          subst e
          simp at hr
          subst hr
          obtain ⟨u, e1, e2, e3⟩ := h4 rows.length (.d (.val (.slice none 0 0))) (by rw [List.getElem?_append_right (by rw [rowC_len]; omega), rowC_len, Nat.sub_self]; rfl)
          refine ⟨u, e1, e2, .inl ⟨by rw [Nat.add_comm]; exact hβ0, rfl, rep_val e3⟩⟩
    · have hlt := (List.getElem?_eq_some_iff.1 hr).1
      exact (hs.mem.ok _ _ (src hr)).frame hβ (by omega) (namesAny_map _ id r)
    · exact .inl ⟨hβ0, rfl⟩
  · have n1 : i1 ≠ rows.length + 1 := fun e => by rw [e, hβ0] at e1; cases e1
    have n2 : i2 ≠ rows.length + 1 := fun e => by rw [e, hβ0] at e2; cases e2
    obtain ⟨d1, g1⟩ := conv n1 q1
    obtain ⟨d2, g2⟩ := conv n2 q2
    exact hs.mem.inj i1 i2 d1 d2 g1 g2 b ((hβ _ n1).symm.trans e1) ((hβ _ n2).symm.trans e2)
  · have n1 : i ≠ rows.length + 1 := fun e' => by rw [e', hβ0] at e; cases e
    obtain ⟨d, g⟩ := conv n1 hi
    exact hs.high i d g b ((hβ _ n1).symm.trans e)
  · have hnm := names_sget hn t
    rcases sget_eq_or hs1 t with h | h
    · show RepS w D β' _ (sget S' t)
      rw [h]; trivial
    · have h2 := hs.slots t
      show RepS w D β' _ (sget S' t)
      rw [h] at hnm ⊢
      exact h2.frame hβ hnm
theorem publishAt {st : PS} {j k s m : Nat} {T : TypeId} {pre post cs : List SV} {es : List Dat} (hj : bget st.bs j = some (pre ++ .own k T s m :: post)) (hjk : k ≠ j) (hb : bget st.bs k = some cs) (hes : ∀ e ∈ es, e.cells.length = s) (hl : es.length = m) (hc : cs.take (m * s) = (flat es).map .d) :
    SimImp st ⟨st.sl, (j, some (pre ++ .d (.sl T s es) :: post)) :: (k, none) :: st.bs⟩ := fun C a w ⟨D, β, h⟩ => by
  obtain ⟨D', h', hown⟩ := publish_core (T := T) h hb hes hl hc
  have hj2 : bget ((k, none) :: st.bs) j = some (pre ++ .own k T s m :: post) := by rw [bget_cons, if_neg hjk]; exact hj
  have conv : ∀ {i c}, bget ((j, some (pre ++ SV.d (.sl T s es) :: post)) :: (k, none) :: st.bs) i = some c → ∃ c', bget ((k, none) :: st.bs) i = some c' := fun {i c} hi => by
    rw [bget_cons] at hi
    split at hi
    · rename_i e; subst e; exact ⟨_, hj2⟩
    · exact ⟨c, hi⟩
  refine ⟨D', β, h'.base, ⟨fun i c hi => ?_, fun i1 i2 c1 c2 q1 q2 => ?_⟩, fun i c hi => ?_, h'.slots⟩
  · rw [bget_cons] at hi
    split at hi
    · rename_i e; subst e
      injection hi with hi; subst hi
      rcases h'.mem.ok j _ hj2 with ⟨_, q⟩ | ⟨b, vs, T2, q1, q2, q3, q4, q5⟩
      · simp at q
      · refine .inr ⟨b, vs, T2, q1, q2, by simpa using q3, fun i x hx => ?_, q5⟩
        by_cases h1 : i < pre.length
        · rw [List.getElem?_append_left h1] at hx
          exact q4 i x (by rw [List.getElem?_append_left h1]; exact hx)
        · rw [List.getElem?_append_right (by omega)] at hx
          cases hq : i - pre.length with
          | zero =>
            rw [hq] at hx
            simp at hx
            subst hx
            obtain ⟨u, e1, e2, e3⟩ := q4 i (.own k T s m) (by rw [List.getElem?_append_right (by omega), hq]; rfl)
            exact ⟨u, e1, e2, hown u D' e3⟩
          | succ q =>
            rw [hq] at hx
            exact q4 i x (by rw [List.getElem?_append_right (by omega), hq]; simpa using hx)
    · exact h'.mem.ok i c hi
  · obtain ⟨d1, g1⟩ := conv q1
    obtain ⟨d2, g2⟩ := conv q2
    exact h'.mem.inj i1 i2 d1 d2 g1 g2
  · obtain ⟨d, g⟩ := conv hi
    exact h'.high i d g
theorem flat_ones {r : List Dat} (h : ∀ e ∈ r, e.cells = [e]) : flat r = r := by
  induction r with
  | nil => rfl
  | cons e r ih => rw [flat_cons, h e (by simp), ih (fun x hx => h x (by simp [hx]))]; rfl
theorem rows_pub {E : TypeId} : ∀ (rows : List (List Dat)) (k : Nat) (done : List SV) (B : BS), 0 < k → (∀ r ∈ rows, ∀ e ∈ r, e.cells = [e]) → bget B 0 = some (done ++ rowC E 1 k rows) → (∀ (j : Nat) (r : List Dat), rows[j]? = some r → bget B (k + j) = some (r.map .d)) →
    SimImp ⟨S, B⟩ ⟨S, [(0, some (done ++ rows.map fun r => .d (.sl E 1 r)))]⟩
  | [], k, done, B, hk, hc, h0, hb => by
    simp only [rowC, List.append_nil] at h0
    simp only [List.map_nil, List.append_nil]
    refine sim_get (fun t => .inr rfl) fun i c hi => ?_
    rw [bget_cons] at hi
    split at hi
    · rename_i e; subst e; rw [h0]; exact hi
    · cases hi
  | r :: rs, k, done, B, hk, hc, h0, hb => by
    have hr := hc r (by simp)
    have h1 := publishAt (st := ⟨S, B⟩) (j := 0) (k := k) (s := 1) (m := r.length) (T := E) (pre := done) (post := rowC E 1 (k + 1) rs) (cs := r.map .d) (es := r) h0 (by omega) (by have := hb 0 r rfl; simpa using this) (fun e he => by rw [hr e he]; rfl) rfl (by rw [flat_ones hr, Nat.mul_one, ← List.length_map (f := SV.d), List.take_length])
    have h2 := rows_pub rs (k + 1) (done ++ [.d (.sl E 1 r)]) ((0, some (done ++ .d (.sl E 1 r) :: rowC E 1 (k + 1) rs)) :: (k, none) :: B) (by omega) (fun x hx => hc x (by simp [hx])) (by rw [bget_cons, if_pos rfl, List.append_assoc]; rfl) (fun j x hx => by
      rw [bget_cons, if_neg (by omega), bget_cons, if_neg (by omega), show k + 1 + j = k + (j + 1) by omega]
      exact hb (j + 1) x (by simpa using hx))
    rw [List.append_assoc] at h2
    exact h1.trans h2
end
end Go.Fid
set_option linter.unusedVariables false
set_option linter.unusedSimpArgs false
namespace Go.Fid
theorem sim_mask {S : SL} {B : BS} {j : Nat} {cs : List SV} (i : Nat) (hb : bget B j = some cs) : SimImp ⟨S, B⟩ ⟨S, (j, some (cs.set i .junk)) :: B⟩ := fun C a w ⟨D, β, hs⟩ => by
  have conv : ∀ {q c}, bget ((j, some (cs.set i SV.junk)) :: B) q = some c → ∃ c', bget B q = some c' := fun {q c} hq => by
    rw [bget_cons] at hq
    split at hq
    · rename_i e; subst e; exact ⟨_, hb⟩
    · exact ⟨_, hq⟩
  refine ⟨D, β, hs.base, ⟨fun q c hq => ?_, fun i1 i2 c1 c2 q1 q2 => ?_⟩, fun q c hq => ?_, hs.slots⟩
  · rw [bget_cons] at hq
    split at hq
    · rename_i e; subst e
      injection hq with hq; subst hq
      refine blk_weak (hs.mem.ok _ cs hb) (by simp) fun q x hx => ?_
      rw [List.getElem?_set] at hx
      split at hx
      · split at hx
        · injection hx with hx; exact .inl hx.symm
        · cases hx
      · exact .inr hx
    · exact hs.mem.ok q c hq
  · obtain ⟨d1, g1⟩ := conv q1
    obtain ⟨d2, g2⟩ := conv q2
    exact hs.mem.inj i1 i2 d1 d2 g1 g2
  · obtain ⟨d, g⟩ := conv hq
    exact hs.high q d g
theorem ownCell {S : SL} {B : BS} {j : Nat} {cs : List SV} (i k E s : Nat) (hj : bget B j = some cs) (hi : cs[i]? = some (.d (.val (.slice none 0 0)))) (hf : freshB k ⟨S, B⟩ = true) :
    SimImp ⟨S, B⟩ ⟨S, (j, some (cs.set i (.own k E s 0))) :: (k, some []) :: B⟩ := fun C a w ⟨D, β, hs⟩ => by
  have hβ : ∀ q, q ≠ k → (fun q => if q = k then none else β q : BMap) q = β q := fun q hq => by simp [hq]
  have hβ0 : (fun q => if q = k then none else β q : BMap) k = none := by simp
  generalize (fun q => if q = k then none else β q : BMap) = β' at hβ hβ0
  obtain ⟨hjk, hnm⟩ := fresh_blk hf hj
  have conv : ∀ {q c}, q ≠ k → bget ((j, some (cs.set i (SV.own k E s 0))) :: (k, some []) :: B) q = some c → ∃ c', bget B q = some c' := fun {q c} hne hq => by
    rw [bget_cons] at hq
    split at hq
    · rename_i e; subst e; exact ⟨_, hj⟩
    · rw [bget_cons, if_neg (fun e => hne e.symm)] at hq; exact ⟨_, hq⟩
  refine ⟨D, β', hs.base, ⟨fun q c hq => ?_, fun i1 i2 c1 c2 q1 q2 b e1 e2 => ?_⟩, fun q c hq b e => ?_, fun t => (hs.slots t).frame hβ (fresh_slot hf t)⟩
  · rw [bget_cons] at hq
    split at hq
    · rename_i e; subst e
      injection hq with hq; subst hq
      rcases hs.mem.ok _ cs hj with ⟨h1, h2⟩ | ⟨b, vs, T, h1, h2, h3, h4, h5⟩
      · rw [h2] at hi; simp at hi
      · refine .inr ⟨b, vs, T, (hβ _ hjk).trans h1, h2, by simpa using h3, fun q x hx => ?_, h5⟩
        rw [List.getElem?_set] at hx
        split at hx
        · rename_i e; subst e
          split at hx
          · injection hx with hx; subst hx
            obtain ⟨u, e1, e2, e3⟩ := h4 i _ hi
            exact ⟨u, e1, e2, .inl ⟨hβ0, rfl, rep_val e3⟩⟩
          · cases hx
        · obtain ⟨u, e1, e2, e3⟩ := h4 q x hx
          exact ⟨u, e1, e2, e3.frame hβ (names_get hnm hx)⟩
    · rw [bget_cons] at hq
      split at hq
      · rename_i e; subst e
        injection hq with hq; subst hq
        exact .inl ⟨hβ0, rfl⟩
      · obtain ⟨g1, g2⟩ := fresh_blk hf hq
        exact (hs.mem.ok q c hq).frame hβ g1 g2
  · have n1 : i1 ≠ k := fun e => by rw [e, hβ0] at e1; cases e1
    have n2 : i2 ≠ k := fun e => by rw [e, hβ0] at e2; cases e2
    obtain ⟨d1, g1⟩ := conv n1 q1
    obtain ⟨d2, g2⟩ := conv n2 q2
    exact hs.mem.inj i1 i2 d1 d2 g1 g2 b ((hβ _ n1).symm.trans e1) ((hβ _ n2).symm.trans e2)
  · have n1 : q ≠ k := fun e' => by rw [e', hβ0] at e; cases e
    obtain ⟨d, g⟩ := conv n1 hq
    exact hs.high q d g b ((hβ _ n1).symm.trans e)
theorem pwp_own {P : Program} {n : Fr} {c : Code} {Q : Exit → PS → Prop} {S : SL} {B : BS} (j i k E s : Nat) {cs : List SV} (hj : bget B j = some cs := by kernel_rfl) (hi : cs[i]? = some (.d (.val (.slice none 0 0))) := by kernel_rfl) (h1 : (S.all fun p => !p.2.names k) = true := by kernel_rfl)
    (h2 : FrB k B := by repeat first | exact frb_nil _ | refine frb_map rfl ?_ | refine frb_d rfl ?_ | refine frb_cs rfl rfl ?_ | refine frb_none rfl ?_) (h : PWp P n c Q ⟨S, (j, some (cs.set i (.own k E s 0))) :: (k, some []) :: B⟩) : PWp P n c Q ⟨S, B⟩ :=
  pwp_sim (ownCell i k E s hj hi (freshB_of h1 h2)) h
section
variable {P : Program} {n : Fr} {ops : Array Oper} {K : SL → BS → Prop} {S : SL} {B : BS} {l : List Oper} {o : Oper} {α : Type} {T E t' : TypeId} {x y : Operand} {k s m bytes : Nat} {zv : List Value}
theorem zAm (j i : Nat) {cs : List SV} (F : α → Dat) (L L' : List α) (hL : L.length = m) (hT : elemB P T = some (E, 1)) (hz : zeroB P E = some zv) (hby : bytesB P E = some bytes) (r : SK P n ops K ((dO o, .own k E 1 (L ++ L').length) :: forget k S) ((k, some ((L ++ L').map (fun g => SV.d (F g)))) :: (j, some (cs.set i .junk)) :: B) l)
    (ho : o.op = .call { callee := .builtin .append, args := #[x, y], argTypes := #[T, T] } := by exact rfl) (g : goK n ops S o = true := by kernel_rfl) (hx : ev (sget S) x = .own k E 1 m := by exact rfl) (hj : bget B j = some cs := by exact rfl) (hjk : Nat.beq j k = false := by kernel_rfl) (hb : bget B k = some (L.map (fun g => SV.d (F g))) := by kernel_rfl) (hy : ev (sget S) y = .d (.sl t' 1 (L'.map F)) := by exact rfl) (hF : ∀ g, (F g).cells = [F g] := by intro g; kernel_rfl) (hzl : zv.length = 1 := by kernel_rfl)
    (hbig : m + L'.length ≤ maxLen := by first | (simp only [List.length_cons, List.length_nil, maxLen]; omega) | (simp [maxLen]; omega)) (hbig' : (m + L'.length) * bytes ≤ 140737488355328 := by first | omega | (simp only [List.length_cons, List.length_nil]; omega) | (simp; omega))
    (hm : namesAny k (cs.set i .junk) = false := by kernel_rfl) (hB : Clr k ((j, none) :: B) := by refine clr_none ?_; repeat first | exact clr_nil _ | refine clr_self ?_ | refine clr_map ?_ | refine clr_none ?_ | refine clr_bx ?_ | refine clr_d ?_) : SK P n ops K S B (o :: l) := by
  obtain ⟨hd, hg, hdB⟩ := goK_spec g
  have hne : j ≠ k := beq_false_ne hjk
  refine zX (S1 := (dO o, .own k E 1 (L ++ L').length) :: forget k S) (B1 := (k, some ((L ++ L').map (fun g => SV.d (F g)))) :: (j, some (cs.set i .junk)) :: B) (fun C a w Q hn hs => ?_) hg r
  have hs' := sim_mask i hj C a w hs
  have := app_sound (st := ⟨S, (j, some (cs.set i .junk)) :: B⟩) (N := n) (es := L.map F) (es' := L'.map F) ho (by rw [hd]; exact hdB) hT hz hzl hby hx (by show bget ((j, _) :: B) k = _; rw [bget_cons, if_neg hne]; exact hb) (by rw [flat_one F hF, List.map_map]; rfl) (by rw [flat_one F hF, List.length_map, hL, Nat.mul_one]) hy (by simpa using hbig) (by simpa using hbig') (fun q c hq hc => by
    dsimp only at hc
    rw [bget_cons] at hc
    split at hc
    · injection hc with hc; subst hc; exact hm
    · rename_i e; exact hB q c hq (by rw [bget_cons, if_neg e]; exact hc)) C a w Q hn hs'
  have e1 : (flat (L.map F ++ L'.map F)).map SV.d = (L ++ L').map (fun g => SV.d (F g)) := by rw [← List.map_append, flat_one F hF, List.map_map]; rfl
  have e2 : m + (L'.map F).length = (L ++ L').length := by rw [List.length_map, List.length_append, hL]
  rw [hd, e1, e2] at this
  exact this
theorem oSx {k j E s N off : Nat} {old : List SV} (hs : shapeB P T = some (false, 1)) (ho : o.op = .store T x y := by exact rfl) (hx : ev (sget S) x = .ref k off := by exact rfl) (hy : ev (sget S) y = .own j E s N := by exact rfl) (hb : bget B k = some old := by exact rfl) (hle : Nat.ble (off + 1) old.length = true := by kernel_rfl) : TK P o S B k (patch old off [.own j E s N]) :=
  ⟨_, t_store ho hx hy hs (.inr ⟨⟨j, E, s, N, rfl⟩, rfl⟩) rfl (Nat.le_of_ble_eq_true hle), hb⟩
variable {news : List Nat} {acc0 : List (List Nat × List Nat)}
theorem wA (k' : Nat) (F : α → Dat) (L L' : List α) (hL : L.length = m) (hT : elemB P T = some (E, 1)) (hz : zeroB P E = some zv) (hby : bytesB P E = some bytes) (r : DK P n ops K (k' :: news) (acc0 ++ [([k], [k', k])]) ((dO o, .own k' E 1 (L ++ L').length) :: S) ((k', some ((L ++ L').map (fun g => SV.d (F g)))) :: (k, none) :: B) l)
    (ho : o.op = .call { callee := .builtin .append, args := #[x, y], argTypes := #[T, T] } := by exact rfl) (g : goK n ops S o = true := by kernel_rfl) (hx : ev (sget S) x = .own k E 1 m := by exact rfl) (hb : bget B k = some (L.map (fun g => SV.d (F g))) := by kernel_rfl) (hy : ev (sget S) y = .d (.sl t' 1 (L'.map F)) := by exact rfl) (hF : ∀ g, (F g).cells = [F g] := by intro g; kernel_rfl) (hzl : zv.length = 1 := by kernel_rfl)
    (hpos : Nat.blt 0 L'.length = true := by kernel_rfl) (hbig : m + L'.length ≤ maxLen := by first | (simp only [List.length_cons, List.length_nil, maxLen]; omega) | (simp [maxLen]; omega)) (hbig' : (m + L'.length) * bytes ≤ 140737488355328 := by first | omega | (simp only [List.length_cons, List.length_nil]; omega) | (simp; omega))
    (hne : Nat.beq k k' = false := by kernel_rfl) (h1 : (S.all fun p => !p.2.names k') = true := by kernel_rfl)
    (h2 : FrB k' B := by repeat first | exact frb_nil _ | refine frb_map rfl ?_ | refine frb_d rfl ?_ | refine frb_cs rfl rfl ?_ | refine frb_none rfl ?_) (hn : clear1 news (.own k' E 1 0) = true := by kernel_rfl) : DK P n ops K news acc0 S B (o :: l) := by
  obtain ⟨st1, acc, r1, r0, r2⟩ := r
  obtain ⟨hd, hg, hdB⟩ := goK_spec g
  have h := app_local (P := P) (o := o) (S := sget S) (k := k) (k' := k') (cs := L.map (fun g => SV.d (F g))) (es' := L'.map F) ho hT hz hzl hby hx (namesAny_map k' F L) (by rw [List.length_map, hL, Nat.mul_one]) hy (by rw [List.length_map]; exact Nat.le_of_ble_eq_true hpos) (by simpa using hbig) (by simpa using hbig')
  have e1 : (L.map (fun g => SV.d (F g))) ++ (flat (L'.map F)).map .d = (L ++ L').map (fun g => SV.d (F g)) := by rw [flat_one F hF, List.map_map, List.map_append]; rfl
  have e2 : m + (L'.map F).length = (L ++ L').length := by rw [List.length_map, List.length_append, hL]
  rw [e1, e2] at h
  have hs := DStep.a (P := P) (n := n) (ops := ops) (news := news) (st := ⟨S, B⟩) (o := o) h hg (by rw [hd]; exact hdB) hb (freshB_of h1 h2) (beq_false_ne hne) hn (clearL_map _ _ _)
  rw [hd] at hs
  exact ⟨st1, ([k], [k', k]) :: acc, .cons hs r1, by simpa using r0, r2⟩
end
end Go.Fid
set_option linter.unusedVariables false
set_option linter.unusedSimpArgs false
namespace Go.Fid
def swN (k k' j : Nat) : Nat := bif Nat.beq j k then k' else j
def SV.sw (k k' : Nat) : SV → SV
  | .ref j o => .ref (swN k k' j) o
  | .own j t s n => .own (swN k k' j) t s n
  | .view j o n => .view (swN k k' j) o n
  | .clo f ks => .clo f (ks.map (swN k k'))
  | x => x
theorem swN_eq (k k' : Nat) : swN k k' k = k' := by simp [swN]
theorem swN_ne {k k' j : Nat} (h : j ≠ k) : swN k k' j = j := by
  have : Nat.beq j k = false := by rw [← Bool.not_eq_true]; exact fun e => h (Nat.eq_of_beq_eq_true e)
  simp [swN, this]
theorem RepS.sw {w : World} {D : DSet} {β : BMap} {k k' : Nat} {v : Value} {x : SV} (h : RepS w D β v (x.sw k k')) : RepS w D (fun j => β (swN k k' j)) v x := by
  cases x with
  | d x => exact h
  | ref j o => exact h
  | own j t s n => exact h
  | clo f ks =>
    obtain ⟨vs, h1, h2, h3⟩ := h
    exact ⟨vs, h1, by simpa using h2, fun i j hj => h3 i (swN k k' j) (by rw [List.getElem?_map, hj]; rfl)⟩
  | emp => exact h
  | view j o n => exact h
  | junk => trivial
theorem sw_of {k k' : Nat} {x : SV} (h : x.names k = false) : x.sw k k' = x := by
  have key : ∀ j, Nat.beq k j = false → swN k k' j = j := fun j hj => swN_ne (fun e => by subst e; simp at hj)
  cases x with
  | ref j o => simp only [SV.sw]; rw [key j h]
  | own j t s n => simp only [SV.sw]; rw [key j h]
  | view j o n => simp only [SV.sw]; rw [key j h]
  | clo f ks =>
    simp only [SV.sw]
    simp only [SV.names, List.any_eq_false] at h
    have : ks.map (swN k k') = ks := by
      conv => rhs; rw [← List.map_id ks]
      exact List.map_congr_left fun j hj => key j (by rw [← Bool.not_eq_true]; exact h j hj)
    rw [this]
  | d x => rfl
  | emp => rfl
  | junk => rfl
theorem sim_ren {S S' : SL} {B B' : BS} (k k' : Nat) (h1 : S'.map (fun p => sget S p.1) = S'.map (fun p => p.2.sw k k') := by kernel_rfl) (h2 : B'.map (fun p => bget B (swN k k' p.1)) = B'.map (·.2) := by kernel_rfl) (h3 : (B'.all fun p => !(Nat.beq p.1 k')) = true := by kernel_rfl)
    (h4 : Clr k ((k, none) :: B) := by repeat first | exact clr_nil _ | refine clr_self ?_ | refine clr_map ?_ | refine clr_none ?_ | refine clr_bx ?_ | refine clr_d ?_ | refine clr_cons rfl ?_) (h5 : bget B k = none := by kernel_rfl) : SimImp ⟨S, B⟩ ⟨S', B'⟩ := fun C a w ⟨D, β, hs⟩ => by
  have hget : ∀ {l : BS}, (l.map (fun p => bget B (swN k k' p.1)) = l.map (·.2)) → ∀ {j c}, bget l j = some c → bget B (swN k k' j) = some c := by
    intro l
    induction l with
    | nil => intro _ j c h; simp [bget] at h
    | cons p l ih =>
      intro hl j c hj
      obtain ⟨q, y⟩ := p
      simp only [List.map_cons, List.cons.injEq] at hl
      rw [bget_cons] at hj
      split at hj
      · rename_i e; subst e; rw [hl.1]; exact hj
      · exact ih hl.2 hj
  have hkey : ∀ {l : BS}, ((l.all fun p => !(Nat.beq p.1 k')) = true) → ∀ {j c}, bget l j = some c → j ≠ k' := by
    intro l
    induction l with
    | nil => intro _ j c h; simp [bget] at h
    | cons p l ih =>
      intro hl j c hj e
      obtain ⟨q, y⟩ := p
      simp only [List.all_cons, Bool.and_eq_true, Bool.not_eq_true'] at hl
      rw [bget_cons] at hj
      split at hj
      · rename_i e2; subst e2; subst e; simp at hl
      · exact ih hl.2 hj e
  have hnk : ∀ {j c}, bget B j = some c → j ≠ k ∧ namesAny k c = false := fun {j c} hj => by
    have hne : j ≠ k := fun e => by subst e; rw [h5] at hj; cases hj
    exact ⟨hne, h4 j c hne (by rw [bget_cons, if_neg (fun e => hne e.symm)]; exact hj)⟩
  have hsl : ∀ {l : SL}, (l.map (fun p => sget S p.1) = l.map (fun p => p.2.sw k k')) → ∀ t, sget l t = .junk ∨ sget S t = (sget l t).sw k k' := by
    intro l
    induction l with
    | nil => intro _ t; exact .inl rfl
    | cons p l ih =>
      intro hl t
      obtain ⟨q, y⟩ := p
      simp only [List.map_cons, List.cons.injEq] at hl
      rw [sget_cons]
      split
      · rename_i e; subst e; exact .inr hl.1
      · exact ih hl.2 t
  refine ⟨D, fun j => β (swN k k' j), hs.base, ⟨fun j c hj => ?_, fun j1 j2 c1 c2 q1 q2 b e1 e2 => ?_⟩, fun j c hj b hb => hs.high _ c (hget h2 hj) b hb, fun t => ?_⟩
  · have hc := hget h2 hj
    obtain ⟨_, hn⟩ := hnk hc
    rcases hs.mem.ok _ c hc with h | ⟨b, vs, T, g1, g2, g3, g4, g5⟩
    · exact .inl h
    · refine .inr ⟨b, vs, T, g1, g2, g3, fun i x hi => ?_, g5⟩
      obtain ⟨u, e1, e2, e3⟩ := g4 i x hi
      exact ⟨u, e1, e2, RepS.sw (by rw [sw_of (names_get hn hi)]; exact e3)⟩
  · have := hs.mem.inj _ _ c1 c2 (hget h2 q1) (hget h2 q2) b e1 e2
    have n1 := hkey h3 q1
    have n2 := hkey h3 q2
    by_cases g1 : j1 = k <;> by_cases g2 : j2 = k
    · omega
    · subst g1; rw [swN_eq, swN_ne g2] at this; omega
    · subst g2; rw [swN_eq, swN_ne g1] at this; omega
    · rw [swN_ne g1, swN_ne g2] at this; exact this
  · show RepS w D _ _ (sget S' t)
    rcases hsl h1 t with h | h
    · rw [h]; trivial
    · have := hs.slots t
      dsimp only at this
      rw [h] at this
      exact this.sw
end Go.Fid
set_option linter.unusedVariables false
set_option linter.unusedSimpArgs false
namespace Go.Fid
open Go.RowKit (Below)
section
variable {P : Program}
theorem run_append_make (w : World) (t u ty e : TypeId) (i : TypeInfo) (z : Value) (ht : P.underlying t = some (.slice e)) (hu : P.underlying u = some (.int .i64)) (hi : P.info? e = some i) (hz : i.zero = some z) (hs : 0 < i.size) (n : Nat)
    (h0 : 0 < n) (h63 : (n : Int) ≤ 9223372036854775807) (h48 : n * i.bytes ≤ 140737488355328) :
    (Builtin.append_ #[t, u] ty #[.slice none 0 0, .int .i64 (n : Int)]).run P w =
      .ok (.slice (some ⟨w.heap.size, 0, none⟩) n (grownCap w n 0 e)) (w.drew.alloc (.cells (Builtin.zeroCells z.cells n ++ Builtin.zeroCells z.cells (grownCap w n 0 e - n)) e)) := by
  have hn : n ≠ 0 := by omega
  have hw : IntKind.i64.wrap (n : Int) = (n : Int) := wi64 rfl (by omega) h63
  have h1 : ¬ ((n : Int) < 0) := by omega
  have h2 : ¬ (281474976710656 < (n : Int) * (i.bytes : Int)) := by
    have h := Int.ofNat_le.2 h48
    rw [Int.natCast_mul] at h; omega
  have h63' : ¬ (9223372036854775807 < (n : Int)) := by omega
  have h48' : ¬ (281474976710656 < Builtin.nextslicecap n 0 * i.bytes) := by rw [nextslicecap_zero h0]; omega
  have h3 : ¬ (n * i.size = 0) := by rw [Nat.mul_eq_zero]; omega
  simp [Builtin.append_, run_underlying ht, run_underlying hu, sizeOf, typeInfo, zeroValue, hi, hz, asInt, asIntOf, hw, h1, h2, h3, hn, h63', h48', Question.forced, run_firstCells_none, newRow, grownCap]
end
section
variable {P : Program} {o : Oper} {S : Nat → SV}
theorem n_appz {T U E : TypeId} {x y : Operand} {n bytes : Nat} {zv : List Value} (k : Nat) (ho : o.op = .call { callee := .builtin .append, args := #[x, y], argTypes := #[T, U] }) (hT : elemB P T = some (E, 1)) (hU : intB P U = some .i64) (hz : zeroB P E = some zv) (hzl : zv.length = 1) (hby : bytesB P E = some bytes)
    (hx : ev S x = .d (.val (.slice none 0 0))) (hy : ev S y = .d (.val (.int .i64 ((n : Nat) : Int)))) (h0 : 0 < n) (hbig : n ≤ maxLen) (hbig' : n * bytes ≤ 140737488355328) (h1c : zv.all Value.oneCell' = true) : NOk P o S k [.junk] (.own k E 1 n) :=
  fun a w D β Q hop hD => by
    have h1 := hop x (by simp [ho, Op.operands, Call.operands])
    have h2 := hop y (by simp [ho, Op.operands, Call.operands])
    rw [hx] at h1
    rw [hy] at h2
    have h1 := rep_val h1
    have h2 := rep_val h2
    obtain ⟨i, z, z1, z2, z3⟩ := zero_of hz
    obtain ⟨j, f1, f2, f3⟩ := elem_of hT
    have hij : i = j := by rw [z1] at f2; injection f2
    subst hij
    have hbi : i.bytes = bytes := by
      unfold bytesB at hby
      rw [z1] at hby
      simpa using hby
    subst hbi
    have hzs : z.cells.size = 1 := by rw [z3]; simpa using hzl
    have hml : (maxLen : Int) ≤ 9223372036854775807 := by decide
    have hr := run_append_make (P := P) w T U o.type E i z f1 (int_of hU) z1 z2 (by omega) n h0 (by omega) hbig'
    have hge := grownCap_ge w n 0 E
    have hcm := grownCap_le_maxLen w n 0 E hbig
    generalize grownCap w n 0 E = G at hr hge hcm
    have hbel : Below w.heap.size w (w.drew.alloc (.cells (Builtin.zeroCells z.cells n ++ Builtin.zeroCells z.cells (G - n)) E)) := ⟨rfl, rfl, rfl, by simp, fun q hq => heap_alloc_old w.drew _ hq⟩
    have hrun : (execOp a.eval o).run P w = .ok (.value (.slice (some ⟨w.heap.size, 0, none⟩) n G)) (w.drew.alloc (.cells (Builtin.zeroCells z.cells n ++ Builtin.zeroCells z.cells (G - n)) E)) := by
      simp only [execOp, ho, resolve, invoke, builtin, Sem.run_bind, Sem.run_pure, Result.andThen_ok, List.map_toArray, List.map_cons, List.map_nil, h1, h2, hr]
    refine wp_value hrun ⟨_, D, w.heap.size, rfl, hbel, DUp.of_same D, Nat.le_refl _, by simp, fun t q hq => Nat.lt_irrefl _ (hD t _ q hq), .inr ⟨w.heap.size, _, E, by simp [BMap.set], heap_alloc_new w.drew _, ?_, fun i x hx => ?_, fun t q hq => Nat.lt_irrefl _ (hD t _ q hq)⟩, .inr ⟨w.heap.size, G, _, by simp [BMap.set], rfl, heap_alloc_new w.drew _, ?_, hge, hcm⟩⟩
    · simp only [Array.size_append, size_zeroCells, hzs, Nat.mul_one, List.length_cons, List.length_nil]
      omega
    · have hi0 : i = 0 := by
        have := (List.getElem?_eq_some_iff.1 hx).1
        simp at this; exact this
      subst hi0
      simp at hx
      subst hx
      have hlt : 0 < (Builtin.zeroCells z.cells n ++ Builtin.zeroCells z.cells (G - n)).size := by simp only [Array.size_append, size_zeroCells, hzs, Nat.mul_one]; omega
      refine ⟨_, Array.getElem?_eq_getElem hlt, ?_, trivial⟩
      obtain ⟨v0, rfl⟩ := List.length_eq_one_iff.1 hzl
      have hz1 : v0.oneCell' = true := by simpa using h1c
      rw [Array.getElem_append_left (by simp only [size_zeroCells, hzs, Nat.mul_one]; omega)]
      simp only [Builtin.zeroCells, Array.getElem_map, Array.getElem_range, z3]
      simpa [Nat.mod_one] using hz1
    · simp only [Array.size_append, size_zeroCells, hzs, Nat.mul_one]
      omega
theorem oAz {T U E : TypeId} {x y : Operand} {bytes : Nat} {zv : List Value} (k n : Nat) (hT : elemB P T = some (E, 1)) (hU : intB P U = some .i64) (hz : zeroB P E = some zv) (hby : bytesB P E = some bytes) (h0 : 0 < n) (hbig : n ≤ maxLen) (hbig' : n * bytes ≤ 140737488355328)
    (ho : o.op = .call { callee := .builtin .append, args := #[x, y], argTypes := #[T, U] } := by exact rfl) (hx : ev S x = .d (.val (.slice none 0 0)) := by exact rfl) (hy : ev S y = .d (.val (.int .i64 ((n : Nat) : Int))) := by exact rfl) (hzl : zv.length = 1 := by kernel_rfl) (h1c : zv.all Value.oneCell' = true := by kernel_rfl) : NOk P o S k [.junk] (.own k E 1 n) :=
  n_appz k ho hT hU hz hzl hby hx hy h0 hbig hbig' h1c
theorem oCp0 {T E : TypeId} {s : Nat} {x : Operand} (hT : elemB P T = some (E, s)) (ho : o.op = .call { callee := .builtin .cap, args := #[x], argTypes := #[T] } := by exact rfl) (hx : ev S x = .d (.val (.slice none 0 0)) := by exact rfl) : EOk P o S [] (.d (.val (.int .i64 ((0 : Nat) : Int)))) :=
  EOk.same fun a w D β hop _ => by
    have h1 := hop x (by simp [ho, Op.operands, Call.operands])
    rw [hx] at h1
    obtain ⟨i, f1, f2, f3⟩ := elem_of hT
    exact ⟨.int .i64 ((0 : Nat) : Int), by simp [execOp, ho, resolve, invoke, builtin, rep_val h1, Builtin.cap_, run_underlying f1, goInt], .val _⟩
theorem oLn0 {T E : TypeId} {s : Nat} {x : Operand} (hT : elemB P T = some (E, s)) (ho : o.op = .call { callee := .builtin .len, args := #[x], argTypes := #[T] } := by exact rfl) (hx : ev S x = .d (.val (.slice none 0 0)) := by exact rfl) : EOk P o S [] (.d (.val (.int .i64 ((0 : Nat) : Int)))) :=
  EOk.same fun a w D β hop _ => by
    have h1 := hop x (by simp [ho, Op.operands, Call.operands])
    rw [hx] at h1
    obtain ⟨i, f1, f2, f3⟩ := elem_of hT
    exact ⟨.int .i64 ((0 : Nat) : Int), by simp [execOp, ho, resolve, invoke, builtin, rep_val h1, Builtin.len_, run_underlying f1, goInt], .val _⟩
theorem oSn0 {T E : TypeId} {s : Nat} {x y : Operand} {ki : IntKind} (hT : elemB P T = some (E, s)) (ho : o.op = .slice T x none (some y) none := by exact rfl) (hx : ev S x = .d (.val (.slice none 0 0)) := by exact rfl) (hy : ev S y = .d (.val (.int ki ((0 : Nat) : Int))) := by exact rfl) : EOk P o S [] (.d (.val (.slice none 0 0))) :=
  EOk.same fun a w D β hop _ => by
    have h1 := hop x (by simp [ho, Op.operands])
    have h2 := hop y (by simp [ho, Op.operands])
    rw [hx] at h1
    rw [hy] at h2
    have h2 := rep_val h2
    obtain ⟨i, f1, f2, f3⟩ := elem_of hT
    have b1 : ∀ c : BoundsCode, (Instr.sliceBound (.int ki ((0 : Nat) : Int)) 0 c).run P w = .ok 0 w := fun _ => run_sliceBound (Nat.le_refl _) w
    have hb0 : (Instr.sliceBounds true 0 0 none (some (.int ki 0)) none).run P w = .ok (0, 0, 0) w := by
      have b2 := b1 .sliceAcap
      simp only [Int.natCast_zero] at b2
      simp [Instr.sliceBounds, b2]
    exact ⟨.slice none 0 0, by simp [execOp, ho, rep_val h1, h2, Instr.sliceAt, run_underlying f1, Instr.slice, hb0, run_sizeOf f2], .val _⟩
theorem e_slo {T E t : TypeId} {x y : Operand} {k s m h : Nat} {ki : IntKind} (ho : o.op = .slice T x none (some y) none) (hT : elemB P T = some (E, s)) (hx : ev S x = .own k t s m) (hy : ev S y = .d (.val (.int ki ((h : Nat) : Int)))) (hh : h ≤ m) : EOk P o S [] (.own k t s h) :=
  EOk.same fun a w D β hop _ => by
    have h1 := hop x (by simp [ho, Op.operands])
    rw [hx] at h1
    have h2 := hop y (by simp [ho, Op.operands])
    rw [hy] at h2
    have h2 := rep_val h2
    obtain ⟨i, f1, f2, f3⟩ := elem_of hT
    have hb : ∀ n cap, h ≤ cap → (Instr.sliceBounds true n cap none (some (.int ki ((h : Nat) : Int))) none).run P w = .ok (0, h, cap) w := fun n cap hc => by
      have b1 : ∀ c : BoundsCode, (Instr.sliceBound (.int ki (h : Int)) cap c).run P w = .ok h w := fun _ => run_sliceBound hc w
      simp [Instr.sliceBounds, b1]
    rcases h1 with ⟨g1, g2, g3⟩ | ⟨b, cap, vs, g1, g2, g3, g4, g5, g6⟩
    · subst g2
      have h0 : h = 0 := by omega
      subst h0
      have hb0 : (Instr.sliceBounds true 0 0 none (some (.int ki 0)) none).run P w = .ok (0, 0, 0) w := hb 0 0 (Nat.le_refl _)
      refine ⟨.slice none 0 0, ?_, .inl ⟨g1, rfl, rfl⟩⟩
      simp [execOp, ho, h2, g3, Instr.sliceAt, run_underlying f1, Instr.slice, hb0, run_sizeOf f2]
    · refine ⟨.slice (some ⟨b, 0, none⟩) h cap, ?_, .inr ⟨b, cap, vs, g1, rfl, g3, g4, by omega, g6⟩⟩
      simp [execOp, ho, h2, g2, Instr.sliceAt, run_underlying f1, Instr.slice, hb m cap (by omega), run_sizeOf f2, Addr.add_lit]
theorem oSl0 {T E t : TypeId} {x y : Operand} {k s m : Nat} {ki : IntKind} (h : Nat) (hT : elemB P T = some (E, s)) (hh : h ≤ m) (ho : o.op = .slice T x none (some y) none := by exact rfl) (hx : ev S x = .own k t s m := by exact rfl) (hy : ev S y = .d (.val (.int ki ((h : Nat) : Int))) := by exact rfl) : EOk P o S [] (.own k t s h) := e_slo ho hT hx hy hh
end
def RetO2 (rs : List ResultVar) (T s n : Nat) (es : List Dat) : Exit → PS → Prop
  | .ret, st => ∃ t k, rs = [.tmp t] ∧ sget st.sl t = .own k T s n ∧ ∃ cs, bget st.bs k = some cs ∧ cs ≠ [] ∧ es.length ≤ cs.length ∧ ∀ (i : Nat) d, es[i]? = some d → cs[i]? = some (.d d)
  | .normal, st => ∃ t k, rs = [.tmp t] ∧ sget st.sl t = .own k T s n ∧ ∃ cs, bget st.bs k = some cs ∧ cs ≠ [] ∧ es.length ≤ cs.length ∧ ∀ (i : Nat) d, es[i]? = some d → cs[i]? = some (.d d)
  | _, _ => False
section
variable {P : Program}
theorem fn_introO2 {f : FuncId} {fn : Func} {c : Code} {ds : List Dat} {T s n : Nat} {es : List Dat} (hf : P.funcs[f]? = some fn) (hb : fn.body = some c) (hc : callB P f = true) (hn : Nat.ble ds.length fn.ntmps = true) (h : PWp P ⟨0, fn.ntmps, none⟩ c (RetO2 fn.results.toList T s n es) ⟨initSl ds 0, []⟩) : TakesO P f ds T s n es :=
  ⟨hc, fun w D vs hD hargs => by
    refine (callsIn_wide (n := 0)).1 (callsIn_of_wp_marks hf hb trivial ?_)
    have hle : ds.length ≤ fn.ntmps := Nat.le_of_ble_eq_true hn
    have hvl := hargs.1
    have hsim : Sim ⟨w, D, w, #[], ⟨0, fn.ntmps, none⟩⟩ { tmps := vs.toArray ++ Array.replicate (fn.ntmps - vs.toArray.size) undef, defers := [] } w ⟨initSl ds 0, []⟩ := by
      refine ⟨D, fun _ => none, ⟨.nil, by simp; omega, fun _ _ _ _ => rfl, fun _ _ h _ => h, fun t ht => absurd ht (Nat.not_lt_zero t), Below.refl _ _, fun _ _ _ h => h, fun _ _ _ h => .inl h, hD⟩, ⟨fun k cs hk => by simp [bget] at hk, fun k1 k2 c1 c2 h1 => by simp [bget] at h1⟩, fun k c hk => by simp [bget] at hk, fun t => ?_⟩
      show RepS w D _ _ (sget (initSl ds 0) t)
      rw [sget_init]
      simp only [Nat.zero_le, if_true, Nat.sub_zero]
      cases hd : ds[t]? with
      | none => trivial
      | some d =>
        have ht : t < vs.length := by rw [hvl]; exact (List.getElem?_eq_some_iff.1 hd).1
        refine hargs.2 t _ d ?_ hd
        rw [Array.getD_eq_getD_getElem?, Array.getElem?_append_left (by simpa using ht)]
        simp [ht]
    refine wpIn_mono (h _ _ w 0 rfl hsim) fun e a w' ⟨st, ⟨D', β, hs⟩, hq⟩ => ?_
    have fin : (∃ t k, fn.results.toList = [.tmp t] ∧ sget st.sl t = .own k T s n ∧ ∃ cs, bget st.bs k = some cs ∧ cs ≠ [] ∧ es.length ≤ cs.length ∧ ∀ (i : Nat) d, es[i]? = some d → cs[i]? = some (.d d)) → LeavesInM Fence.wide 0 P fn a.tmps (OPost w D T s n es) a.defers .returning w' := fun ⟨t, k, h1, h2, cs, h3, hne, h3l, h3c⟩ => by
      have ht := hs.slots t
      rw [h2] at ht
      rcases ht with ⟨q0, _, _⟩ | ⟨b, cap, vs', g1, g2, g3, g4, g5, g6⟩
      · rcases hs.mem.ok k _ h3 with ⟨_, q⟩ | ⟨b', vs2, T2, q1, _⟩
        · exact absurd q hne
        · rw [q0] at q1; cases q1
      · rcases hs.mem.ok k _ h3 with ⟨q, _⟩ | ⟨b', vs2, T2, q1, q2, q3, q4, q5⟩
        · rw [g1] at q; cases q
        · obtain rfl : b = b' := by rw [g1] at q1; injection q1
          rw [g3] at q2
          injection q2 with q2
          injection q2 with q2 qT
          subst q2; subst qT
          have hr : fn.results = #[.tmp t] := by rw [← Array.toList_inj, h1]
          refine leaves_own (a := a) hs.base.defers (fun w2 => ?_) hs.base.below hs.base.dmono hs.base.dnew hs.base.dok (hs.high k _ h3 b g1) q5 g2 g3 g4 g5 g6 (by omega) (fun i d hd => q4 i (.d d) (h3c i d hd))
          rw [results_eq, hr]
          simp [resF]
    cases e with
    | normal => exact fin hq
    | ret => exact fin hq
    | exit id => exact hq.elim
    | goto l => exact hq.elim
    | panic ch => exact hq.elim
    | outgrown => exact hq.elim⟩
end
end Go.Fid
