import Derived.Test.YtcdgmcfkhkikbaaGreatRat
import Derived.Test.YtcdgmcfkhkikbaaGreatFid15
/-
  Intervals, as they are laid out and as what they stand for. Plain Lean.
-/
namespace Go.Fid
def validG (a : RRng) : Bool := validR a.lo && (validR a.hi && decide (toQ a.lo ≤ toQ a.hi))
def GOk (n : Nat) (a : RRng) : Prop := QOk a.lo (toQ a.lo) n ∧ QOk a.hi (toQ a.hi) n
theorem gok_get {l : List RRng} {n j : Nat} {d : RRng} (h : ∀ a ∈ l, GOk n a) (hj : j < l.length) : GOk n (l.getD j d) := by
  rw [List.getD, List.getElem?_eq_getElem hj]
  exact h _ (List.getElem_mem hj)
theorem qok_raw {x : RRat} {n : Nat} (h : 1 ≤ n) (h1 : x.num.gs.length ≤ n) (h2 : x.den.gs.length ≤ n) : QOk x (toQ x) n := ⟨rfl, h, h1, h2⟩
theorem qok_self {x : RRat} {q : Rat} {n : Nat} (h : QOk x q n) : QOk x (toQ x) n := ⟨rfl, h.p, h.n1, h.n2⟩
theorem validG_of {p q : Rat} (h : p ≤ q) : validG ⟨ofQ p, ofQ q⟩ = true := by
  unfold validG
  simp only [validR_ofQ, toQ_ofQ, Bool.true_and]
  exact decide_eq_true h
theorem validG_form {a : RRng} (h : validG a = true) : a = ⟨ofQ (toQ a.lo), ofQ (toQ a.hi)⟩ ∧ toQ a.lo ≤ toQ a.hi := by
  unfold validG at h
  rw [Bool.and_eq_true, Bool.and_eq_true, decide_eq_true_eq] at h
  obtain ⟨h1, h2, h3⟩ := h
  exact ⟨by rw [ofQ_toQ h1, ofQ_toQ h2], h3⟩
theorem cmpQ_le {a b : Rat} : cmpQ a b ≤ 0 ↔ a ≤ b := by
  unfold cmpQ
  by_cases h : a < b
  · rw [if_pos h]; exact ⟨fun _ => Rat.le_of_lt h, fun _ => by decide⟩
  · rw [if_neg h]
    by_cases h2 : b < a
    · rw [if_pos h2]; exact ⟨fun h3 => by omega, fun h3 => absurd h3 (Rat.not_le.2 h2)⟩
    · rw [if_neg h2]; exact ⟨fun _ => Rat.not_lt.1 h2, fun _ => by decide⟩
theorem cmpQ_lt {a b : Rat} : cmpQ a b < 0 ↔ a < b := by
  unfold cmpQ
  by_cases h : a < b
  · rw [if_pos h]; exact ⟨fun _ => h, fun _ => by decide⟩
  · rw [if_neg h]
    by_cases h2 : b < a
    · rw [if_pos h2]; exact ⟨fun h3 => by omega, fun h3 => absurd h3 h⟩
    · rw [if_neg h2]; exact ⟨fun h3 => by omega, fun h3 => absurd h3 h⟩
theorem cmpQ_gt {a b : Rat} : 0 < cmpQ a b ↔ b < a := by
  unfold cmpQ
  by_cases h : a < b
  · rw [if_pos h]; exact ⟨fun h3 => by omega, fun h3 => absurd (Rat.le_of_lt h3) (Rat.not_le.2 h)⟩
  · rw [if_neg h]
    by_cases h2 : b < a
    · rw [if_pos h2]; exact ⟨fun _ => h2, fun _ => by decide⟩
    · rw [if_neg h2]; exact ⟨fun h3 => by omega, fun h3 => absurd h3 h2⟩
theorem cmpQ_eq {a b : Rat} : cmpQ a b = 0 ↔ a = b := by
  unfold cmpQ
  by_cases h : a < b
  · rw [if_pos h]; exact ⟨fun h3 => by omega, fun h3 => absurd h (h3 ▸ Rat.lt_irrefl)⟩
  · rw [if_neg h]
    by_cases h2 : b < a
    · rw [if_pos h2]; exact ⟨fun h3 => by omega, fun h3 => absurd h2 (h3 ▸ Rat.lt_irrefl)⟩
    · rw [if_neg h2]; exact ⟨fun _ => Rat.le_antisymm (Rat.not_lt.1 h2) (Rat.not_lt.1 h), fun _ => rfl⟩
theorem validG_eq (a : RRng) : ((validR a.lo && validR a.hi) && decide (cmpQ (toQ a.lo) (toQ a.hi) ≤ 0)) = validG a := by
  unfold validG
  rw [Bool.and_assoc]
  congr 2
  rw [Bool.eq_iff_iff, decide_eq_true_eq, decide_eq_true_eq, cmpQ_le]
def mnL (p : Rat) (l : List Rat) : Rat := l.foldl min p
def mxL (p : Rat) (l : List Rat) : Rat := l.foldl max p
theorem take_getD {l : List Rat} {i : Nat} (h : i < l.length) : l.take (i + 1) = l.take i ++ [l.getD i 0] := by
  rw [List.take_succ_eq_append_getElem h]; simp [List.getD, List.getElem?_eq_getElem h]
theorem mnL_step {p : Rat} {l : List Rat} {i : Nat} (h : i < l.length) : mnL p (l.take (i + 1)) = min (mnL p (l.take i)) (l.getD i 0) := by
  unfold mnL; rw [take_getD h, List.foldl_append]; rfl
theorem mxL_step {p : Rat} {l : List Rat} {i : Nat} (h : i < l.length) : mxL p (l.take (i + 1)) = max (mxL p (l.take i)) (l.getD i 0) := by
  unfold mxL; rw [take_getD h, List.foldl_append]; rfl
theorem mnL_lt {p : Rat} {l : List Rat} {i : Nat} {x : Rat} (h : i < l.length) (hx : x = mnL p (l.take i)) (hc : cmpQ (l.getD i 0) x < 0) : l.getD i 0 = mnL p (l.take (i + 1)) := by
  rw [mnL_step h, ← hx, Rat.min_def, if_neg (Rat.not_le.2 (cmpQ_lt.1 hc))]
theorem mnL_ge {p : Rat} {l : List Rat} {i : Nat} {x : Rat} (h : i < l.length) (hx : x = mnL p (l.take i)) (hc : ¬ cmpQ (l.getD i 0) x < 0) : x = mnL p (l.take (i + 1)) := by
  rw [mnL_step h, ← hx, Rat.min_def, if_pos (Rat.not_lt.1 (fun h2 => hc (cmpQ_lt.2 h2)))]
theorem mxL_gt {p : Rat} {l : List Rat} {i : Nat} {x : Rat} (h : i < l.length) (hx : x = mxL p (l.take i)) (hc : 0 < cmpQ (l.getD i 0) x) : l.getD i 0 = mxL p (l.take (i + 1)) := by
  rw [mxL_step h, ← hx, Rat.max_def, if_pos (Rat.le_of_lt (cmpQ_gt.1 hc))]
theorem mxL_le {p : Rat} {l : List Rat} {i : Nat} {x : Rat} (h : i < l.length) (hx : x = mxL p (l.take i)) (hc : ¬ 0 < cmpQ (l.getD i 0) x) : x = mxL p (l.take (i + 1)) := by
  rw [mxL_step h, ← hx, Rat.max_def]
  have h2 : l.getD i 0 ≤ x := Rat.not_lt.1 (fun h2 => hc (cmpQ_gt.2 h2))
  split
  · exact Rat.le_antisymm (by assumption) h2
  · rfl
theorem ql_getD {l : List Rat} {n : Nat} (h : ∀ q ∈ l, QL q n) (h1 : 1 ≤ n) (j : Nat) : QL (l.getD j 0) n := by
  rw [List.getD]
  cases hj : l[j]? with
  | none => exact ql_up ql_zero h1
  | some q => exact h q (List.mem_of_getElem? hj)
theorem ql_mnL {p : Rat} {l : List Rat} {n : Nat} (hp : QL p n) (h : ∀ q ∈ l, QL q n) : QL (mnL p l) n := by
  unfold mnL
  induction l generalizing p with
  | nil => exact hp
  | cons q l ih => exact ih (ql_min hp (h q (by simp))) (fun r hr => h r (by simp [hr]))
theorem ql_mxL {p : Rat} {l : List Rat} {n : Nat} (hp : QL p n) (h : ∀ q ∈ l, QL q n) : QL (mxL p l) n := by
  unfold mxL
  induction l generalizing p with
  | nil => exact hp
  | cons q l ih => exact ih (ql_max hp (h q (by simp))) (fun r hr => h r (by simp [hr]))
theorem ixmap {α γ : Type} (F : α → Dat) (G : γ → α) (L : List γ) (j : Nat) (d : γ) (h : j < L.length) : ((List.map F (List.map G L))[j]?).map Dat.cells = some ((F (G (L.getD j d))).cells) := by
  simp [List.getD, List.getElem?_eq_getElem h]
def digR (x : RRat) : Nat := x.num.gs.length + x.den.gs.length
def shortG (a : RRng) : Bool := decide (digR a.lo ≤ 16) && decide (digR a.hi ≤ 16)
theorem all_take {α : Type} {f : α → Bool} {l : List α} {i : Nat} {d : α} (h : i < l.length) (h1 : (l.take i).all f = true) (h2 : f (l.getD i d) = true) : (l.take (i + 1)).all f = true := by
  rw [List.take_succ_eq_append_getElem h, List.all_append, h1]
  simp [List.getD, List.getElem?_eq_getElem h] at h2
  simp [h2]
theorem all_not {α : Type} {f : α → Bool} {l : List α} {i : Nat} {d : α} (h : i < l.length) (h2 : f (l.getD i d) = false) : l.all f = false := by
  rw [List.all_eq_false]
  refine ⟨l[i], List.getElem_mem h, ?_⟩
  simp [List.getD, List.getElem?_eq_getElem h] at h2
  simp [h2]
theorem sameR_eq (x y : RRat) : ((validR x && validR y) && (cmpQ (toQ x) (toQ y) == 0)) = (validR x && (validR y && decide (toQ x = toQ y))) := by
  rw [Bool.and_assoc]
  congr 2
  rw [Bool.eq_iff_iff, beq_iff_eq, decide_eq_true_eq, cmpQ_eq]
def sameR (x y : RRat) : Bool := validR x && (validR y && decide (toQ x = toQ y))
theorem sameR_of (p q : Rat) : sameR (ofQ p) (ofQ q) = decide (p = q) := by
  unfold sameR; simp only [validR_ofQ, toQ_ofQ, Bool.true_and]
def zeroG (p q : Rat) : Bool := decide (p ≤ 0) && decide (0 ≤ q)
theorem zeroG_eq (p q : Rat) : (decide (signQ p ≤ 0) && decide (0 ≤ signQ q)) = zeroG p q := by
  unfold zeroG signQ
  have h1 : signI p.num ≤ 0 ↔ p ≤ 0 := by
    rw [signI_le]
    have h : 0 < p.num ↔ 0 < p := by
      have a1 := Rat.num_nonneg (q := p)
      have a2 := Rat.num_eq_zero (q := p)
      constructor
      · intro h
        rw [Rat.lt_iff_le_and_ne]
        exact ⟨a1.1 (by omega), fun e => by rw [← e] at h; simp at h⟩
      · intro h
        rw [Rat.lt_iff_le_and_ne] at h
        have := a1.2 h.1
        have h3 : p.num ≠ 0 := fun e => h.2 (a2.1 e).symm
        omega
    constructor
    · intro h2; exact Rat.not_lt.1 (fun h3 => by have := h.2 h3; omega)
    · intro h2; exact Int.not_lt.1 (fun h3 => absurd h2 (Rat.not_le.2 (h.1 h3)))
  have h2 : 0 ≤ signI q.num ↔ 0 ≤ q := by
    rw [← Rat.num_nonneg]
    rcases signI_range q.num with ⟨a, b⟩ | ⟨a, b⟩ | ⟨a, b⟩ <;> omega
  rw [Bool.eq_iff_iff]
  simp only [Bool.and_eq_true, decide_eq_true_eq]
  rw [h1, h2]
theorem gok_up {a : RRng} {m n : Nat} (h : GOk m a) (hm : m ≤ n) : GOk n a := ⟨qok_up h.1 hm, qok_up h.2 hm⟩
theorem gok_none : GOk 4294967296 ⟨⟨⟨false, []⟩, ⟨false, []⟩⟩, ⟨⟨false, []⟩, ⟨false, []⟩⟩⟩ := ⟨qok_raw (by decide) (Nat.zero_le _) (Nat.zero_le _), qok_raw (by decide) (Nat.zero_le _) (Nat.zero_le _)⟩
def sqL (p q : Rat) : Rat := if zeroG p q = true then ((0 : Int) : Rat) else mnL (p * p) [q * q]
def sqH (p q : Rat) : Rat := mxL (p * p) [q * q]
theorem ql_sqL {p q : Rat} {n : Nat} (h1 : QL (p * p) n) (h2 : QL (q * q) n) : QL (sqL p q) n := by
  unfold sqL
  exact ql_ite (ql_up ql_zero (ql_pos h1)) (ql_mnL h1 (fun x hx => by rw [List.mem_singleton] at hx; subst hx; exact h2))
theorem ql_sqH {p q : Rat} {n : Nat} (h1 : QL (p * p) n) (h2 : QL (q * q) n) : QL (sqH p q) n := ql_mxL h1 (fun x hx => by rw [List.mem_singleton] at hx; subst hx; exact h2)
def sameG (a b : RRng) : Bool := (validG a && validG b) && (sameR a.lo b.lo && sameR a.hi b.hi)
theorem sameG_of {p q r s : Rat} : sameG ⟨ofQ p, ofQ q⟩ ⟨ofQ r, ofQ s⟩ = ((decide (p ≤ q) && decide (r ≤ s)) && (decide (p = r) && decide (q = s))) := by
  unfold sameG validG
  simp only [sameR_of, validR_ofQ, toQ_ofQ, Bool.true_and]
theorem validG_no {p q : Rat} (h : ¬ p ≤ q) : validG ⟨ofQ p, ofQ q⟩ = false := by
  unfold validG
  simp only [validR_ofQ, toQ_ofQ, Bool.true_and]
  exact decide_eq_false h
theorem gok_short {a : RRng} (h : shortG a = true) : GOk 16 a := by
  unfold shortG digR at h
  rw [Bool.and_eq_true, decide_eq_true_eq, decide_eq_true_eq] at h
  exact ⟨qok_raw (by decide) (by omega) (by omega), qok_raw (by decide) (by omega) (by omega)⟩
end Go.Fid
