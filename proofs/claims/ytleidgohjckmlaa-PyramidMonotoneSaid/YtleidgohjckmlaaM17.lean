/- Part 17 of a proof: rules, plain facts, and functions walked. -/
import Derived.Test.YtleidgohjckmlaaM16
import Derived.Test.YtleidgohjckmlaaM8
import Derived.Test.YtleidgohjckmlaaM9
import Derived.Test.YtleidgohjckmlaaChecked
set_option linter.unusedVariables false
set_option linter.unusedSimpArgs false
namespace Go.Fid
theorem fdiv2 (n : Int) : n.fdiv 2 = n / 2 := Int.fdiv_eq_ediv_of_nonneg _ (by decide)
def loS : List Int → List Int
  | a :: b :: r => ((a + b).fdiv 2) :: loS r
  | [a] => [a]
  | [] => []
def hiS : List Int → List Int
  | a :: b :: r => (a - b) :: hiS r
  | _ => []
def joinS : List Int → List Int → List Int
  | l :: ls, h :: hs => (l + (h + 1).fdiv 2) :: ((l + (h + 1).fdiv 2) - h) :: joinS ls hs
  | l :: _, [] => [l]
  | [], _ => []
def Bd (n : Int) (l : List Int) : Prop := ∀ x ∈ l, -n ≤ x ∧ x ≤ n
theorem Bd.get {n : Int} {l : List Int} (h : Bd n l) (hn : 0 ≤ n) (i : Nat) : -n ≤ l.getD i 0 ∧ l.getD i 0 ≤ n := by
  rw [List.getD_eq_getElem?_getD]
  cases e : l[i]? with
  | none => simp; omega
  | some x => exact h x (List.mem_of_getElem? e)
theorem Bd.up {m n : Int} {l : List Int} (h : Bd m l) (hm : m ≤ n) : Bd n l := fun x hx => by have := h x hx; omega
theorem two_ind {P : List Int → Prop} (h0 : P []) (h1 : ∀ a, P [a]) (h2 : ∀ a b r, P r → P (a :: b :: r)) : ∀ l, P l
  | [] => h0
  | [a] => h1 a
  | a :: b :: r => h2 a b r (two_ind h0 h1 h2 r)
theorem loS_len (l : List Int) : (loS l).length = (l.length + 1) / 2 := by
  induction l using two_ind with
  | h0 => rfl
  | h1 a => simp [loS]
  | h2 a b r ih => simp only [loS, List.length_cons, ih]; omega
theorem hiS_len (l : List Int) : (hiS l).length = l.length / 2 := by
  induction l using two_ind with
  | h0 => rfl
  | h1 a => simp [hiS]
  | h2 a b r ih => simp only [hiS, List.length_cons, ih]; omega
theorem loS_bd {n : Int} {l : List Int} (h : Bd n l) : Bd n (loS l) := by
  induction l using two_ind with
  | h0 => exact h
  | h1 a => exact h
  | h2 a b r ih =>
    intro x hx
    simp only [loS, List.mem_cons] at hx
    rcases hx with rfl | hx
    · have h1 := h a (by simp)
      have h2 := h b (by simp)
      rw [fdiv2]; omega
    · exact ih (fun y hy => h y (by simp [hy])) x hx
theorem hiS_bd {n : Int} {l : List Int} (h : Bd n l) : Bd (2 * n) (hiS l) := by
  induction l using two_ind with
  | h0 => intro x hx; cases hx
  | h1 a => intro x hx; cases hx
  | h2 a b r ih =>
    intro x hx
    simp only [hiS, List.mem_cons] at hx
    rcases hx with rfl | hx
    · have h1 := h a (by simp)
      have h2 := h b (by simp)
      omega
    · exact ih (fun y hy => h y (by simp [hy])) x hx
theorem loS_app {a : List Int} (b : List Int) : a.length % 2 = 0 → loS (a ++ b) = loS a ++ loS b := by
  induction a using two_ind with
  | h0 => intro _; rfl
  | h1 x => intro h; simp at h
  | h2 x y r ih => intro h; simp only [List.cons_append, loS]; rw [ih (by simp only [List.length_cons] at h; omega)]
theorem hiS_app {a : List Int} (b : List Int) : a.length % 2 = 0 → hiS (a ++ b) = hiS a ++ hiS b := by
  induction a using two_ind with
  | h0 => intro _; rfl
  | h1 x => intro h; simp at h
  | h2 x y r ih => intro h; simp only [List.cons_append, hiS]; rw [ih (by simp only [List.length_cons] at h; omega)]
theorem take_two {l : List Int} {i : Nat} (h : i + 1 < l.length) : l.take (i + 2) = l.take i ++ [l.getD i 0, l.getD (i + 1) 0] := by
  rw [List.take_add_one, List.take_add_one, List.append_assoc, List.getD_eq_getElem?_getD, List.getD_eq_getElem?_getD, List.getElem?_eq_getElem (show i < l.length by omega), List.getElem?_eq_getElem h]
  rfl
theorem take_one {l : List Int} {i : Nat} (h : i < l.length) : l.take (i + 1) = l.take i ++ [l.getD i 0] := by
  rw [List.take_add_one, List.getD_eq_getElem?_getD, List.getElem?_eq_getElem h]
  rfl
theorem pysplit_step {l lo hi : List Int} {i : Nat} (hlo : lo = loS (l.take i)) (hhi : hi = hiS (l.take i)) (he : i % 2 = 0) (h : i + 1 < l.length) :
    lo ++ [(l.getD i 0 + l.getD (i + 1) 0).fdiv 2] = loS (l.take (i + 2)) ∧ hi ++ [l.getD i 0 - l.getD (i + 1) 0] = hiS (l.take (i + 2)) := by
  have hl : (l.take i).length % 2 = 0 := by rw [List.length_take]; omega
  rw [take_two h, loS_app _ hl, hiS_app _ hl, hlo, hhi]
  exact ⟨rfl, rfl⟩
theorem pysplit_odd {l lo hi : List Int} {i : Nat} (hlo : lo = loS (l.take i)) (hhi : hi = hiS (l.take i)) (he : i % 2 = 0) (h : i + 1 = l.length) : lo ++ [l.getD i 0] = loS l ∧ hi = hiS l := by
  have hl : (l.take i).length % 2 = 0 := by rw [List.length_take]; omega
  have e : l = l.take i ++ [l.getD i 0] := by
    rw [← take_one (by omega), h, List.take_length]
  rw [hlo, hhi]
  constructor
  · conv => rhs; rw [e, loS_app _ hl]
    rfl
  · conv => rhs; rw [e, hiS_app _ hl]
    simp [hiS]
theorem joinS_app {a b : List Int} (c d : List Int) : a.length = b.length → joinS (a ++ c) (b ++ d) = joinS a b ++ joinS c d := by
  induction a generalizing b with
  | nil => intro h; cases b with
    | nil => rfl
    | cons y b => simp at h
  | cons x a ih => intro h; cases b with
    | nil => simp at h
    | cons y b => simp only [List.cons_append, joinS]; rw [ih (by simpa using h)]
theorem join_step {lo hi out : List Int} {i : Nat} (ho : out = joinS (lo.take i) (hi.take i)) (h1 : i < lo.length) (h2 : i < hi.length) :
    out ++ [lo.getD i 0 + (hi.getD i 0 + 1).fdiv 2, (lo.getD i 0 + (hi.getD i 0 + 1).fdiv 2) - hi.getD i 0] = joinS (lo.take (i + 1)) (hi.take (i + 1)) := by
  rw [take_one h1, take_one h2, joinS_app _ _ (by simp; omega), ho]
  rfl
theorem join_odd {lo hi out : List Int} {i : Nat} (ho : out = joinS (lo.take i) (hi.take i)) (h1 : i < lo.length) (h2 : i = hi.length) : out ++ [lo.getD i 0] = joinS lo hi := by
  have e : lo = lo.take i ++ (lo.getD i 0 :: lo.drop (i + 1)) := by
    conv => lhs; rw [← List.take_append_drop i lo, List.drop_eq_getElem_cons h1]
    rw [List.getD_eq_getElem?_getD, List.getElem?_eq_getElem h1]; rfl
  have e2 : hi = hi.take i ++ [] := by rw [h2, List.take_length, List.append_nil]
  conv => rhs; rw [e, e2, joinS_app _ _ (by simp; omega)]
  rw [ho]; rfl
theorem join_end {lo hi out : List Int} {i : Nat} (ho : out = joinS (lo.take i) (hi.take i)) (h1 : i = lo.length) (h2 : lo.length ≤ hi.length) : out = joinS lo hi := by
  have e : hi = hi.take i ++ hi.drop i := (List.take_append_drop i hi).symm
  have e1 : lo = lo.take i ++ [] := by rw [h1, List.take_length, List.append_nil]
  conv => rhs; rw [e1, e, joinS_app _ _ (by simp; omega)]
  rw [ho]; simp [joinS]
theorem joinS_len : ∀ (lo hi : List Int), (lo.length = hi.length ∨ lo.length = hi.length + 1) → (joinS lo hi).length = lo.length + hi.length
  | [], [], _ => rfl
  | [], h :: hs, h' => by simp at h'
  | [l], [], _ => rfl
  | l :: m :: ls, [], h' => by simp at h'
  | l :: ls, h :: hs, h' => by
    have := joinS_len ls hs (by simpa using h')
    simp only [joinS, List.length_cons, this]; omega
def tr (w : Nat) (T : List (List Int)) : List (List Int) := (List.range w).map fun j => T.map fun r => r.getD j 0
def trP (T : List (List Int)) : List (List Int) := tr (T.headD []).length T
def Rect (w : Nat) (T : List (List Int)) : Prop := ∀ r ∈ T, r.length = w
theorem tr_len (w : Nat) (T : List (List Int)) : (tr w T).length = w := by simp [tr]
theorem tr_rect (w : Nat) (T : List (List Int)) : Rect T.length (tr w T) := fun r hr => by
  simp only [tr, List.mem_map] at hr
  obtain ⟨j, _, rfl⟩ := hr
  simp
theorem trP_eq {w : Nat} {T : List (List Int)} (h : Rect w T) (hne : T ≠ []) : trP T = tr w T := by
  cases T with
  | nil => exact absurd rfl hne
  | cons r T => unfold trP; rw [List.headD_cons, h r (by simp)]
def rowsAt (w : Nat) (T : List (List Int)) (i j : Nat) : List (List Int) := (List.range (if i = 0 then j else w)).map fun q => (T.take (if q < j then i + 1 else i)).map fun r => r.getD q 0
theorem rowsAt_len (w : Nat) (T : List (List Int)) (i j : Nat) : (rowsAt w T i j).length = if i = 0 then j else w := by simp [rowsAt]
theorem rowsAt_next (w : Nat) (T : List (List Int)) (i : Nat) : rowsAt w T i w = rowsAt w T (i + 1) 0 := by
  unfold rowsAt
  rw [if_neg (show ¬ i + 1 = 0 by omega)]
  have e : (if i = 0 then w else w) = w := by split <;> rfl
  rw [e]
  refine List.map_congr_left fun q hq => ?_
  rw [if_pos (List.mem_range.1 hq), if_neg (by omega)]
theorem rowsAt_end (w : Nat) (T : List (List Int)) (h : T ≠ []) : rowsAt w T T.length 0 = tr w T := by
  unfold rowsAt tr
  rw [if_neg (fun e => h (List.eq_nil_of_length_eq_zero e))]
  refine List.map_congr_left fun q hq => ?_
  rw [if_neg (by omega), List.take_length]
theorem rowsAt_get {w i j : Nat} {T : List (List Int)} (hj : j < w) (hi : i ≠ 0) : (rowsAt w T i j).getD j [] = (T.take i).map fun r => r.getD j 0 := by
  unfold rowsAt
  rw [if_neg hi, List.getD_eq_getElem?_getD, List.getElem?_map, List.getElem?_range hj]
  simp
theorem rowsAt_first {w j : Nat} {T : List (List Int)} (r : List Int) (ht : T.take 1 = [r]) : rowsAt w T 0 j ++ [[r.getD j 0]] = rowsAt w T 0 (j + 1) := by
  unfold rowsAt
  simp only [if_pos rfl, if_true]
  rw [List.range_succ, List.map_append]
  congr 1
  · refine List.map_congr_left fun q hq => ?_
    have := List.mem_range.1 hq
    rw [if_pos this, if_pos (by omega)]
  · simp only [List.map_cons, List.map_nil]
    rw [if_pos (by omega), Nat.zero_add, ht]; rfl
theorem rowsAt_set {w i j : Nat} {T : List (List Int)} (hj : j < w) (hi : i ≠ 0) (r : List Int) (hr : T[i]? = some r) : (rowsAt w T i j).set j ((rowsAt w T i j).getD j [] ++ [r.getD j 0]) = rowsAt w T i (j + 1) := by
  rw [rowsAt_get hj hi]
  refine List.ext_getElem? fun q => ?_
  rw [List.getElem?_set]
  unfold rowsAt
  simp only [if_neg hi, List.getElem?_map, List.length_map, List.length_range]
  by_cases hq : q < w
  · rw [List.getElem?_range hq]
    by_cases e : j = q
    · subst e
      rw [if_pos rfl, if_pos hj]
      simp only [Option.map_some, Option.some.injEq]
      rw [if_pos (by omega), List.take_add_one, hr]
      simp
    · rw [if_neg e]
      simp only [Option.map_some, Option.some.injEq]
      congr 2
      by_cases h2 : q < j
      · rw [if_pos h2, if_pos (by omega)]
      · rw [if_neg h2, if_neg (by omega)]
  · have hn : (List.range w)[q]? = none := List.getElem?_eq_none (by simpa using hq)
    rw [hn]
    by_cases e : j = q
    · omega
    · rw [if_neg e]; rfl
def rowsOf (w h : Nat) (l : List Int) : List (List Int) := (List.range h).map fun y => (l.drop (y * w)).take w
theorem rowsOf_len (w h : Nat) (l : List Int) : (rowsOf w h l).length = h := by simp [rowsOf]
theorem rowsOf_rect {w h : Nat} {l : List Int} (hl : l.length = w * h) : Rect w (rowsOf w h l) := fun r hr => by
  simp only [rowsOf, List.mem_map, List.mem_range] at hr
  obtain ⟨y, hy, rfl⟩ := hr
  have : (y + 1) * w ≤ h * w := Nat.mul_le_mul_right w hy
  rw [Nat.add_mul] at this
  rw [List.length_take, List.length_drop, hl, Nat.mul_comm w h]
  omega
theorem rowsOf_succ (w h : Nat) (l : List Int) : rowsOf w (h + 1) l = rowsOf w h l ++ [(l.drop (h * w)).take w] := by simp [rowsOf, List.range_succ]
theorem flat_len {w : Nat} {T : List (List Int)} (h : Rect w T) : T.flatten.length = w * T.length := by
  induction T with
  | nil => simp
  | cons r T ih =>
    rw [List.flatten_cons, List.length_append, h r (by simp), ih (fun x hx => h x (by simp [hx])), List.length_cons, Nat.mul_add]
    omega
theorem joinS_le : ∀ (lo hi : List Int), (joinS lo hi).length ≤ 2 * lo.length
  | [], _ => by simp [joinS]
  | l :: ls, [] => by simp [joinS]; omega
  | l :: ls, h :: hs => by have := joinS_le ls hs; simp only [joinS, List.length_cons]; omega
theorem rows_h {w h : Nat} {l : List Int} (hw : 0 < w) (hl : l.length = w * h) (hb : l.length ≤ 1000000) : h ≤ 1000000 := by
  have : h * 1 ≤ h * w := Nat.mul_le_mul_left h hw
  rw [Nat.mul_comm h w] at this
  omega
theorem rows_lt {w h y i : Nat} {l : List Int} (hi : i = y * w) (hl : l.length = w * h) (h1 : i < l.length) : y + 1 ≤ h ∧ i + w ≤ l.length := by
  have hy : y < h := by
    rw [hi, hl, Nat.mul_comm w h] at h1
    exact Nat.lt_of_mul_lt_mul_right h1
  have h2 : (y + 1) * w ≤ h * w := Nat.mul_le_mul_right w hy
  rw [Nat.add_mul, Nat.one_mul] at h2
  exact ⟨hy, by rw [hi, hl, Nat.mul_comm w h]; exact h2⟩
theorem rows_step {w y i : Nat} {l : List Int} {out : List (List Int)} (hi : i = y * w) (ho : out = rowsOf w y l) : out ++ [List.drop i (List.take (i + w) l)] = rowsOf w (y + 1) l := by
  rw [rowsOf_succ, ← ho, ← hi, List.drop_take, Nat.add_sub_cancel_left]
theorem rows_end {w h y i : Nat} {l : List Int} (hw : 0 < w) (hy : y ≤ h) (hi : i = y * w) (hl : l.length = w * h) (h1 : l.length ≤ i) : y = h := by
  have h2 : h * w ≤ y * w := by rw [← hi, Nat.mul_comm h w, ← hl]; exact h1
  have := Nat.le_of_mul_le_mul_right h2 hw
  omega
theorem con_len {T : List (List Int)} {k : Nat} (h : k < T.length) : (T.take k).flatten.length + (T.getD k []).length = (T.take (k + 1)).flatten.length := by
  rw [List.take_add_one, List.getD_eq_getElem?_getD, List.getElem?_eq_getElem h]; simp only [Option.getD_some, Option.toList_some, List.flatten_append, List.flatten_cons, List.flatten_nil, List.append_nil, List.length_append]
theorem con_step {T : List (List Int)} {k : Nat} (h : k < T.length) : (T.take k).flatten ++ T.getD k [] = (T.take (k + 1)).flatten := by
  rw [List.take_add_one, List.getD_eq_getElem?_getD, List.getElem?_eq_getElem h]; simp only [Option.getD_some, Option.toList_some, List.flatten_append, List.flatten_cons, List.flatten_nil, List.append_nil]
theorem con_le {T : List (List Int)} {k n : Nat} (h : T.flatten.length ≤ n) : (T.take k).flatten.length ≤ n := by
  have e : T.flatten = (T.take k).flatten ++ (T.drop k).flatten := by rw [← List.flatten_append, List.take_append_drop]
  rw [e, List.length_append] at h; omega
theorem con_end {T : List (List Int)} {k : Nat} (h : T.length ≤ k) : (T.take k).flatten = T.flatten := by rw [List.take_of_length_le h]
theorem con_row {T : List (List Int)} {k n : Nat} (h : T.flatten.length ≤ n) : (T.getD k []).length ≤ n := by
  by_cases hk : k < T.length
  · have := con_len hk; have := con_le (k := k + 1) h; omega
  · rw [List.getD_eq_getElem?_getD, List.getElem?_eq_none (by omega)]; simp
theorem con_row0 {T : List (List Int)} (h : T.flatten = []) (k : Nat) : (T.getD k []).length = 0 := by
  have := con_row (T := T) (k := k) (n := 0) (by rw [h]; simp)
  omega
def TabOk (b : Int) (w : Nat) (T : List (List Int)) : Prop := Rect w T ∧ w ≤ 1000 ∧ T.length ≤ 1000 ∧ (∀ r ∈ T, Bd b r) ∧ 0 ≤ b
theorem tab_up {b c : Int} {w : Nat} {T : List (List Int)} (h : TabOk b w T) (hc : b ≤ c) : TabOk c w T := ⟨h.1, h.2.1, h.2.2.1, fun r hr => (h.2.2.2.1 r hr).up hc, Int.le_trans h.2.2.2.2 hc⟩
theorem tr_bd {b : Int} {w : Nat} {T : List (List Int)} (h : ∀ r ∈ T, Bd b r) (h0 : 0 ≤ b) : ∀ r ∈ tr w T, Bd b r := fun r hr x hx => by
  obtain ⟨j, _, rfl⟩ := List.mem_map.1 hr
  obtain ⟨s, hs, rfl⟩ := List.mem_map.1 hx
  exact (h s hs).get h0 j
theorem tab_tr {b : Int} {w : Nat} {T : List (List Int)} (h : TabOk b w T) : TabOk b T.length (trP T) := by
  by_cases h0 : T = []
  · subst h0; exact ⟨fun r hr => absurd hr List.not_mem_nil, Nat.zero_le _, Nat.zero_le _, fun r hr => absurd hr List.not_mem_nil, h.2.2.2.2⟩
  · rw [trP_eq h.1 h0]; exact ⟨tr_rect w T, h.2.2.1, by rw [tr_len]; exact h.2.1, tr_bd h.2.2.2.1 h.2.2.2.2, h.2.2.2.2⟩
theorem tab_lo {b : Int} {w : Nat} {T : List (List Int)} (h : TabOk b w T) : TabOk b ((w + 1) / 2) (T.map loS) :=
  ⟨fun r hr => by obtain ⟨s, hs, rfl⟩ := List.mem_map.1 hr; rw [loS_len, h.1 s hs], by have := h.2.1; omega, by rw [List.length_map]; exact h.2.2.1, fun r hr => by obtain ⟨s, hs, rfl⟩ := List.mem_map.1 hr; exact loS_bd (h.2.2.2.1 s hs), h.2.2.2.2⟩
theorem tab_hi {b : Int} {w : Nat} {T : List (List Int)} (h : TabOk b w T) : TabOk (2 * b) (w / 2) (T.map hiS) :=
  ⟨fun r hr => by obtain ⟨s, hs, rfl⟩ := List.mem_map.1 hr; rw [hiS_len, h.1 s hs], by have := h.2.1; omega, by rw [List.length_map]; exact h.2.2.1, fun r hr => by obtain ⟨s, hs, rfl⟩ := List.mem_map.1 hr; exact hiS_bd (h.2.2.2.1 s hs), by have := h.2.2.2.2; omega⟩
theorem tab_take {b : Int} {w : Nat} {T : List (List Int)} (h : TabOk b w T) (k : Nat) : TabOk b w (T.take k) :=
  ⟨fun r hr => h.1 r (List.mem_of_mem_take hr), h.2.1, by rw [List.length_take]; have := h.2.2.1; omega, fun r hr => h.2.2.2.1 r (List.mem_of_mem_take hr), h.2.2.2.2⟩
theorem tab_get {b : Int} {w : Nat} {T : List (List Int)} (h : TabOk b w T) (k : Nat) : Bd b (T.getD k []) ∧ (T.getD k []).length ≤ 1000 := by
  by_cases hk : k < T.length
  · have hm : T.getD k [] ∈ T := by rw [List.getD_eq_getElem?_getD, List.getElem?_eq_getElem hk]; exact List.getElem_mem hk
    exact ⟨h.2.2.2.1 _ hm, by rw [h.1 _ hm]; exact h.2.1⟩
  · rw [List.getD_eq_getElem?_getD, List.getElem?_eq_none (by omega)]; exact ⟨fun x hx => absurd hx List.not_mem_nil, Nat.zero_le _⟩
theorem tab_flat {b : Int} {w : Nat} {T : List (List Int)} (h : TabOk b w T) : T.flatten.length ≤ 1000000 := by
  rw [flat_len h.1]; exact Nat.mul_le_mul h.2.1 h.2.2.1
theorem tab_len {b : Int} {w : Nat} {T : List (List Int)} (h : TabOk b w T) : T.length ≤ 1000 := h.2.2.1
theorem tab_fbd {b : Int} {w : Nat} {T : List (List Int)} (h : TabOk b w T) : Bd b T.flatten := fun x hx => by
  obtain ⟨r, hr, hx⟩ := List.mem_flatten.1 hx
  exact h.2.2.2.1 r hr x hx
theorem map_step {α β : Type} (f : α → β) (d : α) {l : List α} {out : List β} {k : Nat} (ho : out = (l.take k).map f) (h : k < l.length) : out ++ [f (l.getD k d)] = (l.take (k + 1)).map f := by
  rw [ho, List.take_add_one, List.getD_eq_getElem?_getD, List.getElem?_eq_getElem h]
  simp only [Option.getD_some, Option.toList_some, List.map_append, List.map_cons, List.map_nil]
theorem map_end {α β : Type} (f : α → β) {l : List α} {out : List β} {k : Nat} (ho : out = (l.take k).map f) (h : l.length ≤ k) : out = l.map f := by rw [ho, List.take_of_length_le h]
theorem map_lenle {α β : Type} (f : α → β) {l : List α} {out : List β} {k n : Nat} (ho : out = (l.take k).map f) (h : l.length ≤ n) : out.length ≤ n := by rw [ho, List.length_map, List.length_take]; omega
def colLo (T : List (List Int)) : List Int := (trP ((trP T).map loS)).flatten
def colHi (T : List (List Int)) : List Int := (trP ((trP T).map hiS)).flatten
def firstIx (f : Int → Bool) : List Int → Nat → Int
  | [], _ => -1
  | x :: r, i => bif f x then ((i : Nat) : Int) else firstIx f r (i + 1)
theorem firstIx_step (f : Int → Bool) (l : List Int) (k : Nat) (h : k < l.length) (hf : f (l.getD k 0) = false) : firstIx f (l.drop k) k = firstIx f (l.drop (k + 1)) (k + 1) := by
  rw [List.drop_eq_getElem_cons h, firstIx, show f l[k] = false by rw [← hf, List.getD_eq_getElem?_getD, List.getElem?_eq_getElem h]; rfl]; rfl
theorem firstIx_at (f : Int → Bool) (l : List Int) (k : Nat) (h : k < l.length) (hf : f (l.getD k 0) = true) : firstIx f (l.drop k) k = ((k : Nat) : Int) := by
  rw [List.drop_eq_getElem_cons h, firstIx, show f l[k] = true by rw [← hf, List.getD_eq_getElem?_getD, List.getElem?_eq_getElem h]; rfl]; rfl
theorem firstIx_end (f : Int → Bool) (l : List Int) (k : Nat) (h : l.length ≤ k) : firstIx f (l.drop k) k = -1 := by rw [List.drop_eq_nil_of_le h]; rfl
theorem firstIx_any (f : Int → Bool) : ∀ (l : List Int) (i : Nat), decide (0 ≤ firstIx f l i) = l.any f
  | [], i => by simp [firstIx]
  | x :: r, i => by
    rw [firstIx, List.any_cons]
    cases hx : f x with
    | true => simp
    | false => simp only [cond_false, Bool.false_or]; exact firstIx_any f r (i + 1)
def badPx (mx n : Int) : Bool := decide (n < 0) || decide (mx < n)
theorem wh_bd {w h : Int} (w1 : 1 ≤ w) (w2 : w ≤ 64) (w3 : 1 ≤ h) (w4 : h ≤ 64) : -4096 ≤ w * h ∧ w * h ≤ 4096 := by
  have h1 : w * h ≤ 64 * 64 := Int.mul_le_mul w2 w4 (by omega) (by decide)
  have h2 : 0 ≤ w * h := Int.mul_nonneg (by omega) (by omega)
  omega
def chkB (w h mx : Int) (px : List Int) : Bool := ((decide ((min (min w h) mx) < 1) || decide (64 < (max w h))) || decide (65535 < mx)) || (((px.length : Nat) : Int) != (w * h))
def chkC (w h mx : Int) (px : List Int) : Int := bif chkB w h mx px || px.any (badPx mx) then 1 else 0
theorem chk_1 {w h mx : Int} {px : List Int} (hc : chkB w h mx px = true) : chkC w h mx px = 1 := by simp [chkC, hc]
theorem chk_2 {w h mx : Int} {px : List Int} (hc : px.any (badPx mx) = true) : chkC w h mx px = 1 := by simp [chkC, hc]
theorem chk_3 {w h mx : Int} {px : List Int} (h1 : chkB w h mx px = false) (h2 : px.any (badPx mx) = false) : chkC w h mx px = 0 := by simp [chkC, h1, h2]
theorem chk_ok {w h mx : Int} {px : List Int} (hc : chkC w h mx px = 0) : ∃ a b : Nat, w = a ∧ h = b ∧ 1 ≤ a ∧ a ≤ 64 ∧ 1 ≤ b ∧ b ≤ 64 ∧ 1 ≤ mx ∧ mx ≤ 65535 ∧ px.length = a * b ∧ ∀ x ∈ px, 0 ≤ x ∧ x ≤ mx := by
  have h1 : chkB w h mx px = false := by
    cases h : chkB w h mx px with
    | false => rfl
    | true => rw [chk_1 h] at hc; cases hc
  have h2 : px.any (badPx mx) = false := by
    cases h : px.any (badPx mx) with
    | false => rfl
    | true => rw [chk_2 h] at hc; cases hc
  simp only [chkB, Bool.or_eq_false_iff, decide_eq_false_iff_not, bne_eq_false_iff_eq] at h1
  obtain ⟨⟨⟨q1, q2⟩, q3⟩, q4⟩ := h1
  refine ⟨w.toNat, h.toNat, by omega, by omega, by omega, by omega, by omega, by omega, by omega, by omega, ?_, fun x hx => ?_⟩
  · have e1 : w = ((w.toNat : Nat) : Int) := by omega
    have e2 : h = ((h.toNat : Nat) : Int) := by omega
    rw [e1, e2, ← Int.natCast_mul] at q4
    exact Int.ofNat.inj q4
  · have := List.any_eq_false.1 h2 x hx
    simp only [badPx, Bool.or_eq_true, decide_eq_true_eq, not_or] at this
    omega
def RstOk (w h : Nat) (px : List Int) : Prop := 1 ≤ w ∧ w ≤ 64 ∧ 1 ≤ h ∧ h ≤ 64 ∧ px.length = w * h ∧ Bd 65535 px
theorem rows_tab {w h : Nat} {px : List Int} (hv : RstOk w h px) : TabOk 65535 w (rowsOf w h px) :=
  ⟨rowsOf_rect hv.2.2.2.2.1, by have := hv.2.1; omega, by rw [rowsOf_len]; have := hv.2.2.2.1; omega, fun r hr x hx => by
    obtain ⟨y, _, rfl⟩ := List.mem_map.1 hr
    exact hv.2.2.2.2.2 x (List.mem_of_mem_drop (List.mem_of_mem_take hx)), by decide⟩
theorem rst_len {w h : Nat} {px : List Int} (hv : RstOk w h px) : px.length ≤ 4096 := by
  obtain ⟨_, h1, _, h2, h3, _⟩ := hv
  rw [h3]; exact Nat.mul_le_mul h1 h2
def bLow (w h : Nat) (px : List Int) : List Int := colLo ((rowsOf w h px).map loS)
def bDown (w h : Nat) (px : List Int) : List Int := colHi ((rowsOf w h px).map loS)
def bRight (w h : Nat) (px : List Int) : List Int := colLo ((rowsOf w h px).map hiS)
def bCorner (w h : Nat) (px : List Int) : List Int := colHi ((rowsOf w h px).map hiS)
def chkB2 (w h mx : Int) (px : List Int) : Bool := (((((decide (w < 1) || decide (64 < w)) || decide (h < 1)) || decide (64 < h)) || decide (mx < 1)) || decide (65535 < mx)) || (((px.length : Nat) : Int) != (w * h))
theorem chkB2_eq (w h mx : Int) (px : List Int) : chkB2 w h mx px = chkB w h mx px := by
  unfold chkB2 chkB
  rw [Bool.eq_iff_iff]
  simp only [Bool.or_eq_true, decide_eq_true_eq, bne_iff_ne]
  constructor <;> intro hq <;> omega
theorem py_any_at {f : Int → Bool} {l : List Int} {k : Nat} (h : k < l.length) (hf : f (l.getD k 0) = true) : l.any f = true := by
  rw [List.getD_eq_getElem?_getD, List.getElem?_eq_getElem h] at hf
  exact List.any_eq_true.2 ⟨l[k], List.getElem_mem h, hf⟩
theorem py_any_step {f : Int → Bool} {l : List Int} {k : Nat} (hv : (l.take k).any f = false) (h : k < l.length) (hf : f (l.getD k 0) = false) : (l.take (k + 1)).any f = false := by
  rw [take_one h, List.any_append, hv, List.any_cons, hf]; rfl
theorem py_any_end {f : Int → Bool} {l : List Int} {k : Nat} (hv : (l.take k).any f = false) (h : l.length ≤ k) : l.any f = false := by rw [List.take_of_length_le h] at hv; exact hv
theorem py_eq_len {l m : List Int} (h : ((l.length : Nat) : Int) ≠ ((m.length : Nat) : Int)) : (l == m) = false := by
  rw [beq_eq_false_iff_ne]; intro e; subst e; exact h rfl
theorem py_eq_at {l m : List Int} {k : Nat} (h : l.getD k 0 ≠ m.getD k 0) : (l == m) = false := by
  rw [beq_eq_false_iff_ne]; intro e; subst e; exact h rfl
theorem py_eq_step {l m : List Int} {k : Nat} (hv : l.take k = m.take k) (h1 : k < l.length) (h2 : l.length = m.length) (h : l.getD k 0 = m.getD k 0) : l.take (k + 1) = m.take (k + 1) := by
  rw [take_one h1, take_one (h2 ▸ h1), hv, h]
theorem py_eq_end {l m : List Int} {k : Nat} (hv : l.take k = m.take k) (h1 : l.length ≤ k) (h2 : l.length = m.length) : (l == m) = true := by
  rw [List.take_of_length_le h1, List.take_of_length_le (h2 ▸ h1)] at hv; rw [hv]; exact beq_self_eq_true m
theorem rect_get {w y : Nat} {T : List (List Int)} (h : Rect w T) (hy : y < T.length) : (T.getD y []).length = w := by
  refine h _ ?_
  rw [List.getD_eq_getElem?_getD, List.getElem?_eq_getElem hy]; exact List.getElem_mem hy
def same4 (aw ah am : Int) (al : List Int) (bw bh bm : Int) (bl : List Int) : Bool := ((decide (aw = bw) && decide (ah = bh)) && decide (am = bm)) && (al == bl)
def stkR (A B : List (List Int)) (k : Nat) : List (List Int) := (List.range k).map fun x => joinS (A.getD x []) (B.getD x [])
theorem stkR_step (A B : List (List Int)) (k : Nat) : stkR A B k ++ [joinS (A.getD k []) (B.getD k [])] = stkR A B (k + 1) := by simp [stkR, List.range_succ]
theorem stkR_len (A B : List (List Int)) (k : Nat) : (stkR A B k).length = k := by simp [stkR]
theorem getD_ge {l : List (List Int)} {k : Nat} (h : l.length ≤ k) : l.getD k [] = [] := by rw [List.getD_eq_getElem?_getD, List.getElem?_eq_none h]; rfl
theorem joinS_bd {n m : Int} : ∀ {lo hi : List Int}, Bd n lo → Bd m hi → 0 ≤ m → Bd (n + 2 * m + 1) (joinS lo hi)
  | [], hi, _, _, _ => by cases hi <;> exact fun x hx => absurd hx (by simp [joinS])
  | [a], [], h1, _, h0 => fun x hx => by
    have := h1 a (by simp)
    simp [joinS] at hx
    subst hx; omega
  | a :: b :: lo, [], h1, _, h0 => fun x hx => by
    have := h1 a (by simp)
    simp [joinS] at hx
    try (subst hx; omega)
  | a :: lo, d :: hi, h1, h2, h0 => fun x hx => by
    have q1 := h1 a (by simp)
    have q2 := h2 d (by simp)
    have ih := joinS_bd (lo := lo) (hi := hi) (fun y hy => h1 y (by simp [hy])) (fun y hy => h2 y (by simp [hy])) h0
    have hf := fdiv2 (d + 1)
    simp only [joinS, List.mem_cons] at hx
    rcases hx with rfl | rfl | hx
    · omega
    · omega
    · exact ih x hx
theorem stk_tab {b : Int} {s t k : Nat} {A B : List (List Int)} (hA : TabOk b s A) (hB : TabOk b t B) (hst : s = t ∨ s = t + 1) (hl : t = 0 ∨ A.length ≤ B.length) (hk : k ≤ A.length) (h2 : s + t ≤ 1000) : TabOk (b + 2 * b + 1) (s + t) (stkR A B k) :=
  ⟨fun r hr => by
    obtain ⟨x, hx, rfl⟩ := List.mem_map.1 hr
    have hx := List.mem_range.1 hx
    have e1 : (A.getD x []).length = s := rect_get hA.1 (by omega)
    have e2 : (B.getD x []).length = t := by
      by_cases h : x < B.length
      · exact rect_get hB.1 h
      · rw [getD_ge (by omega)]; simp; omega
    rw [joinS_len _ _ (by omega), e1, e2], h2, by rw [stkR_len]; have := hA.2.2.1; omega, fun r hr => by
    obtain ⟨x, hx, rfl⟩ := List.mem_map.1 hr
    exact joinS_bd (tab_get hA x).1 (tab_get hB x).1 hA.2.2.2.2, by have := hA.2.2.2.2; omega⟩
def stkV (w s t : Nat) (lo hi : List Int) : List (List Int) := trP (stkR (trP (rowsOf w s lo)) (trP (rowsOf w t hi)) (trP (rowsOf w s lo)).length)
theorem stkV_0 (s t : Nat) (lo hi : List Int) : stkV 0 s t lo hi = [] := by
  have : trP (rowsOf 0 s lo) = [] := by cases s with
    | zero => rfl
    | succ s => simp [rowsOf, List.range_succ_eq_map, trP, tr]
  unfold stkV; rw [this]; rfl
theorem rows_tabG {b : Int} {w h : Nat} {px : List Int} (hw : w ≤ 1000) (hh : h ≤ 1000) (hl : px.length = w * h) (hb : Bd b px) (h0 : 0 ≤ b) : TabOk b w (rowsOf w h px) :=
  ⟨rowsOf_rect hl, hw, by rw [rowsOf_len]; exact hh, fun r hr x hx => by
    obtain ⟨y, _, rfl⟩ := List.mem_map.1 hr
    exact hb x (List.mem_of_mem_drop (List.mem_of_mem_take hx)), h0⟩
theorem trP_len {w : Nat} {T : List (List Int)} (h : Rect w T) (hne : 0 < T.length) : (trP T).length = w := by rw [trP_eq h (by intro e; rw [e] at hne; simp at hne), tr_len]
theorem stk_lens {w s t : Nat} {lo hi : List Int} (hlo : lo.length = w * s) (hhi : hi.length = w * t) : t = 0 ∨ (trP (rowsOf w s lo)).length ≤ (trP (rowsOf w t hi)).length := by
  by_cases h : t = 0
  · exact .inl h
  · right
    rw [trP_len (rowsOf_rect hhi) (by rw [rowsOf_len]; omega)]
    by_cases hs : s = 0
    · subst hs; exact Nat.zero_le _
    · rw [trP_len (rowsOf_rect hlo) (by rw [rowsOf_len]; omega)]; exact Nat.le_refl _
def badB (n : Int) : Bool := decide (n < -1048576) || decide (1048576 < n)
def dimB (w h m : Int) : Bool := ((((decide (w < 1) || decide (64 < w)) || decide (h < 1)) || decide (64 < h)) || decide (m < 1)) || decide (65535 < m)
def lenB (w h : Int) (l r d c : List Int) : Bool := (((((l.length : Nat) : Int) != (w + 1) / 2 * ((h + 1) / 2)) || (((r.length : Nat) : Int) != w / 2 * ((h + 1) / 2))) || (((d.length : Nat) : Int) != (w + 1) / 2 * (h / 2))) || (((c.length : Nat) : Int) != w / 2 * (h / 2))
def vBnd (w h m : Int) (l r d c : List Int) : Bool := bif dimB w h m then false else bif lenB w h l r d c then false else [l, r, d, c].all fun x => !(x.any badB)
theorem vb_1 {w h m : Int} {l r d c : List Int} (h1 : dimB w h m = true) : vBnd w h m l r d c = false := by simp [vBnd, h1]
theorem vb_2 {w h m : Int} {l r d c : List Int} (h2 : lenB w h l r d c = true) : vBnd w h m l r d c = false := by unfold vBnd; rw [h2]; cases dimB w h m <;> rfl
theorem vb_3 {w h m : Int} {l r d c : List Int} {k : Nat} (hk : k < 4) (h2 : ([l, r, d, c].getD k []).any badB = true) : vBnd w h m l r d c = false := by
  have : ([l, r, d, c].all fun x => !(x.any badB)) = false := by
    rw [List.all_eq_false]
    refine ⟨[l, r, d, c].getD k [], ?_, by rw [h2]; simp⟩
    rw [List.getD_eq_getElem?_getD, List.getElem?_eq_getElem (show k < [l, r, d, c].length by simpa using hk)]; exact List.getElem_mem _
  unfold vBnd; rw [this]; cases dimB w h m <;> cases lenB w h l r d c <;> rfl
theorem vb_4 {w h m : Int} {l r d c : List Int} (h1 : dimB w h m = false) (h2 : lenB w h l r d c = false) (h3 : (([l, r, d, c].take 4).any fun x => x.any badB) = false) : vBnd w h m l r d c = true := by
  unfold vBnd; rw [h1, h2]
  simp only [cond_false, List.all_eq_true, Bool.not_eq_true']
  intro x hx
  exact Bool.eq_false_iff.2 (List.any_eq_false.1 h3 x (by simpa using hx))
theorem vb_step {L : List (List Int)} {k : Nat} (hv : ((L.take k).any fun x => x.any badB) = false) (h : k < L.length) (hf : (L.getD k []).any badB = false) : ((L.take (k + 1)).any fun x => x.any badB) = false := by
  rw [List.take_add_one, List.getElem?_eq_getElem h, List.any_append, hv]
  rw [List.getD_eq_getElem?_getD, List.getElem?_eq_getElem h] at hf
  simp only [Option.getD_some] at hf
  simp [hf]
theorem pq_bd {a b : Int} (h1 : 0 ≤ a) (h2 : a ≤ 64) (h3 : 0 ≤ b) (h4 : b ≤ 64) : 0 ≤ a * b ∧ a * b ≤ 4096 := ⟨Int.mul_nonneg h1 h3, Int.mul_le_mul h2 h4 h3 (by decide)⟩
theorem four_len {l r d c : List Int} {n : Nat} (h1 : l.length ≤ n) (h2 : r.length ≤ n) (h3 : d.length ≤ n) (h4 : c.length ≤ n) (k : Nat) : ([l, r, d, c].getD k []).length ≤ n := by
  rcases k with _ | _ | _ | _ | k
  · exact h1
  · exact h2
  · exact h3
  · exact h4
  · exact Nat.zero_le _
def BndOk (w h : Nat) (l r d c : List Int) : Prop := 1 ≤ w ∧ w ≤ 64 ∧ 1 ≤ h ∧ h ≤ 64 ∧ l.length = ((w + 1) / 2) * ((h + 1) / 2) ∧ r.length = (w / 2) * ((h + 1) / 2) ∧ d.length = ((w + 1) / 2) * (h / 2) ∧ c.length = (w / 2) * (h / 2) ∧ Bd 1048576 l ∧ Bd 1048576 r ∧ Bd 1048576 d ∧ Bd 1048576 c
theorem stkV_tab {w s t : Nat} {lo hi : List Int} (hw : w ≤ 1000) (hs : 0 < s) (hst2 : s + t ≤ 1000) (hst : s = t ∨ s = t + 1) (hlo : lo.length = w * s) (hhi : hi.length = w * t) (hbl : Bd 1048576 lo) (hbh : Bd 1048576 hi) :
    TabOk 3145729 w (stkV w s t lo hi) ∧ (0 < w → (stkV w s t lo hi).length = s + t) ∧ (w = 0 → stkV w s t lo hi = []) := by
  refine ⟨?_, ?_, fun h => by rw [h, stkV_0]⟩
  all_goals
    have hA := rows_tabG hw (by omega) hlo hbl (by decide)
    have hB := rows_tabG hw (by omega) hhi hbh (by decide)
    have hA1 := tab_tr hA
    have hB1 := tab_tr hB
    rw [rowsOf_len] at hA1 hB1
    have hal : (trP (rowsOf w s lo)).length = w := trP_len hA.1 (by rw [rowsOf_len]; exact hs)
    have ht := stk_tab hA1 hB1 hst (stk_lens hlo hhi) (Nat.le_refl _) hst2
  · have := tab_tr ht
    rw [stkR_len, hal] at this
    exact tab_up (by unfold stkV; rw [hal]; exact this) (by decide)
  · intro h0
    unfold stkV
    exact trP_len ht.1 (by rw [stkR_len, hal]; exact h0)
theorem stkF_step (A B : List (List Int)) (k : Nat) : (stkR A B k).flatten ++ joinS (A.getD k []) (B.getD k []) = (stkR A B (k + 1)).flatten := by rw [← stkR_step]; simp
def pxJ (w h : Nat) (l r d c : List Int) : List Int := (stkR (stkV ((w + 1) / 2) ((h + 1) / 2) (h / 2) l d) (stkV (w / 2) ((h + 1) / 2) (h / 2) r c) (stkV ((w + 1) / 2) ((h + 1) / 2) (h / 2) l d).length).flatten
theorem row_len {P Q k : Nat} {A B : List (List Int)} (hA : Rect P A) (hB : Rect Q B) (hk : k < A.length) (hq : Q = 0 ∨ A.length ≤ B.length) (hpq : P = Q ∨ P = Q + 1) : (joinS (A.getD k []) (B.getD k [])).length = P + Q := by
  have e1 : (A.getD k []).length = P := rect_get hA hk
  have e2 : (B.getD k []).length = Q := by
    by_cases h : k < B.length
    · exact rect_get hB h
    · rw [getD_ge (by omega)]; simp; omega
  rw [joinS_len _ _ (by omega), e1, e2]
theorem stkF_len {P Q : Nat} {A B : List (List Int)} (hA : Rect P A) (hB : Rect Q B) (hq : Q = 0 ∨ A.length ≤ B.length) (hpq : P = Q ∨ P = Q + 1) : ∀ k, k ≤ A.length → (stkR A B k).flatten.length = k * (P + Q)
  | 0, _ => by simp [stkR]
  | k + 1, h => by rw [← stkF_step, List.length_append, stkF_len hA hB hq hpq k (by omega), row_len hA hB (by omega) hq hpq, Nat.add_mul, Nat.one_mul]
theorem chk_rst {w h mx : Int} {px : List Int} (hc : chkC w h mx px = 0) : ∃ a b : Nat, w = a ∧ h = b ∧ RstOk a b px ∧ 1 ≤ mx ∧ mx ≤ 65535 ∧ ∀ x ∈ px, 0 ≤ x ∧ x ≤ mx := by
  obtain ⟨a, b, h1, h2, h3, h4, h5, h6, h7, h8, h9, h10⟩ := chk_ok hc
  exact ⟨a, b, h1, h2, ⟨h3, h4, h5, h6, h9, fun x hx => by have := h10 x hx; omega⟩, h7, h8, h10⟩
def pixA (w h : Nat) (px : List Int) (x y : Int) : Int := px.getD (min y.toNat (h - 1) * w + min x.toNat (w - 1)) 0
theorem pix_lt {w h : Nat} {px : List Int} (hv : RstOk w h px) (x y : Nat) : min y (h - 1) * w ≤ 4096 ∧ min y (h - 1) * w + min x (w - 1) < px.length := by
  obtain ⟨w1, w2, h1, h2, hl, _⟩ := hv
  have e1 : min y (h - 1) * w + w ≤ h * w := by
    have : (min y (h - 1) + 1) * w ≤ h * w := Nat.mul_le_mul_right w (by omega)
    rw [Nat.add_mul, Nat.one_mul] at this; exact this
  have e2 : h * w ≤ 64 * 64 := Nat.mul_le_mul h2 w2
  rw [hl, Nat.mul_comm w h]
  omega
theorem pix_bd {w h : Nat} {px : List Int} (hv : RstOk w h px) (x y : Int) : -65535 ≤ pixA w h px x y ∧ pixA w h px x y ≤ 65535 := Bd.get hv.2.2.2.2.2 (by decide) _
end Go.Fid
namespace Go.Proofs.Ytleidgohjckmlaa
open Go.Fid
def encI (x : RInt) : Dat := .agg [.val (.bool x.neg), .sl 81 1 (x.gs.map enc_u32)]
def encR (x : RRat) : Dat := .agg [.val (.bool x.num.neg), .sl 81 1 (x.num.gs.map enc_u32), .val (.bool x.den.neg), .sl 81 1 (x.den.gs.map enc_u32)]
structure RBnd where
  width : Int
  height : Int
  max_ : Int
  low : List Int
  right : List Int
  down : List Int
  corner : List Int
def encBnd (x : RBnd) : Dat := .agg [.val (.int .i64 x.width), .val (.int .i64 x.height), .val (.int .i64 x.max_), .sl 3 1 (x.low.map enc_i64), .sl 3 1 (x.right.map enc_i64), .sl 3 1 (x.down.map enc_i64), .sl 3 1 (x.corner.map enc_i64)]
structure RRst where
  width : Int
  height : Int
  max_ : Int
  pixels : List Int
def encRst (x : RRst) : Dat := .agg [.val (.int .i64 x.width), .val (.int .i64 x.height), .val (.int .i64 x.max_), .sl 3 1 (x.pixels.map enc_i64)]
structure A3 (α : Type) where
  a0 : α
  a1 : α
  a2 : α
def encA55 (x : A3 (Int)) : Dat := .agg [.val (.int .i64 x.a0), .val (.int .i64 x.a1), .val (.int .i64 x.a2)]
def enc_sl_22 (l : List (Int)) : Dat := .sl 3 1 (l.map enc_i64)
end Go.Proofs.Ytleidgohjckmlaa
namespace Go.Proofs.Ytleidgohjckmlaa
open Go.Fid
end Go.Proofs.Ytleidgohjckmlaa
namespace Go.Proofs.Ytleidgohjckmlaa
open Go.Fid
theorem mo : Try.prog.follows .mixedOrders = true := by kernel_rfl
end Go.Proofs.Ytleidgohjckmlaa
