/- Part 13 of a proof: rules, plain facts, and functions walked. -/
import Derived.Test.YtihgdjljnaekmaaGreatM12
import Derived.Test.YtihgdjljnaekmaaGreatM8
import Derived.Test.YtihgdjljnaekmaaGreatChecked
import Derived.Test.YtihgdjljnaekmaaGreatM11
import Derived.LoopNIn
set_option linter.unusedVariables false
set_option linter.unusedSimpArgs false
namespace Go.Fid
structure REdge where
  fr : Int
  to_ : Int
  turn : RQuat
deriving DecidableEq
def e0 : REdge := ⟨0, 0, ⟨0, 0, 0, 0⟩⟩
def edgC (n : Int) (x : REdge) : Nat :=
  if 0 ≤ x.fr ∧ x.fr < n ∧ 0 ≤ x.to_ ∧ x.to_ < n then (if x.fr = x.to_ then 13 else rotC x.turn.a x.turn.b x.turn.c x.turn.d) else 2
def edsC (n : Int) : List REdge → Nat
  | [] => 0
  | x :: l => if edgC n x = 0 then edsC n l else edgC n x
def lopC (n : Int) (es : List REdge) : Nat := if n < 1 ∨ 64 < n ∨ 256 < es.length then 3 else edsC n es
structure EOkE (n : Nat) (x : REdge) : Prop where
  f0 : 0 ≤ x.fr
  f1 : x.fr < n
  t0 : 0 ≤ x.to_
  t1 : x.to_ < n
  ne : x.fr ≠ x.to_
  q : Qok x.turn
theorem edgC_ok {n : Nat} {x : REdge} : edgC n x = 0 ↔ EOkE n x := by
  unfold edgC
  constructor
  · intro h
    split at h
    · rename_i hr
      split at h
      · cases h
      · rename_i hn
        exact ⟨hr.1, hr.2.1, hr.2.2.1, hr.2.2.2, hn, qok_rot.2 h⟩
    · cases h
  · intro h
    rw [if_pos ⟨h.f0, h.f1, h.t0, h.t1⟩, if_neg h.ne]
    exact qok_rot.1 h.q
def EsOk (n : Nat) (es : List REdge) : Prop := ∀ x ∈ es, EOkE n x
theorem edsC_ok {n : Nat} : ∀ {es : List REdge}, edsC n es = 0 ↔ EsOk n es
  | [] => by simp [edsC, EsOk]
  | x :: l => by
    unfold edsC
    split
    · rename_i h
      rw [edsC_ok (es := l)]
      exact ⟨fun g => List.forall_mem_cons.2 ⟨edgC_ok.1 h, g⟩, fun g => (List.forall_mem_cons.1 g).2⟩
    · rename_i h
      exact ⟨fun g => absurd g h, fun g => absurd (edgC_ok.2 (List.forall_mem_cons.1 g).1) h⟩
theorem edsC_at {n : Int} : ∀ {es : List REdge} {k : Nat}, k < es.length → (∀ i, i < k → edgC n (es.getD i e0) = 0) → edgC n (es.getD k e0) ≠ 0 → edsC n es = edgC n (es.getD k e0)
  | [], k, h, _, _ => by simp at h
  | x :: l, 0, h, _, h2 => by simp only [edsC, List.getD_cons_zero] at h2 ⊢; rw [if_neg h2]
  | x :: l, k + 1, h, h1, h2 => by
    have hx := h1 0 (by omega)
    simp only [List.getD_cons_zero] at hx
    simp only [edsC, List.getD_cons_succ, hx, if_true] at h2 ⊢
    exact edsC_at (by simpa using h) (fun i hi => by have := h1 (i + 1) (by omega); simpa using this) h2
theorem edsC_end {n : Int} : ∀ {es : List REdge}, (∀ i, i < es.length → edgC n (es.getD i e0) = 0) → edsC n es = 0
  | [], _ => rfl
  | x :: l, h => by
    have hx := h 0 (by simp)
    simp only [List.getD_cons_zero] at hx
    simp only [edsC, hx, if_true]
    exact edsC_end fun i hi => by have := h (i + 1) (by simpa using hi); simpa using this
theorem lopC_lim {n : Int} {es : List REdge} (h : n < 1 ∨ 64 < n ∨ 256 < es.length) : lopC n es = 3 := if_pos h
theorem lopC_eds {n : Int} {es : List REdge} (h1 : ¬ n < 1) (h2 : ¬ 64 < n) (h3 : ¬ 256 < es.length) : lopC n es = edsC n es := if_neg (fun h => by rcases h with h | h | h <;> omega)
theorem lopC_0 {n : Int} {es : List REdge} (h : lopC n es = 0) : 1 ≤ n ∧ n ≤ 64 ∧ es.length ≤ 256 ∧ EsOk n.toNat es := by
  unfold lopC at h
  split at h
  · cases h
  · rename_i hn
    have h1 : 1 ≤ n := by omega
    refine ⟨h1, by omega, by omega, ?_⟩
    rw [show n = ((n.toNat : Nat) : Int) by omega] at h
    exact edsC_ok.1 h
theorem eget {n : Nat} {es : List REdge} (h : EsOk n es) {k : Nat} (hk : k < es.length) : EOkE n (es.getD k e0) := by
  rw [List.getD_eq_getElem?_getD, List.getElem?_eq_getElem hk]
  exact h _ (List.getElem_mem hk)
def pA (p : List Int) (x : REdge) : Int := p.getD x.fr.toNat 0
def pB (p : List Int) (x : REdge) : Int := p.getD x.to_.toNat 0
def kp (g : Bool) (a b : Int) : Int := if g = true then min a b else a
def dp (g : Bool) (a b : Int) : Int := if g = true then max a b else b
def rl (k d q : Int) : Int := if q = d then k else q
def mrg (g : Bool) (a b : Int) (p : List Int) : List Int := p.map (rl (kp g a b) (dp g a b))
def tPar (g : Bool) (n : Nat) (es : List REdge) : Nat → List Int
  | 0 => (List.range n).map fun k => ((k : Nat) : Int)
  | k + 1 => if pA (tPar g n es k) (es.getD k e0) = pB (tPar g n es k) (es.getD k e0) then tPar g n es k else mrg g (pA (tPar g n es k) (es.getD k e0)) (pB (tPar g n es k) (es.getD k e0)) (tPar g n es k)
def tTak (g : Bool) (n : Nat) (es : List REdge) : Nat → List Int
  | 0 => []
  | k + 1 => if pA (tPar g n es k) (es.getD k e0) = pB (tPar g n es k) (es.getD k e0) then tTak g n es k else tTak g n es k ++ [((k : Nat) : Int)]
theorem tPar_y {g : Bool} {n : Nat} {es : List REdge} {k : Nat} (h : pA (tPar g n es k) (es.getD k e0) = pB (tPar g n es k) (es.getD k e0)) : tPar g n es (k + 1) = tPar g n es k ∧ tTak g n es (k + 1) = tTak g n es k := ⟨if_pos h, if_pos h⟩
theorem tPar_n {g : Bool} {n : Nat} {es : List REdge} {k : Nat} (h : ¬ pA (tPar g n es k) (es.getD k e0) = pB (tPar g n es k) (es.getD k e0)) : tPar g n es (k + 1) = mrg g (pA (tPar g n es k) (es.getD k e0)) (pB (tPar g n es k) (es.getD k e0)) (tPar g n es k) ∧ tTak g n es (k + 1) = tTak g n es k ++ [((k : Nat) : Int)] := ⟨if_neg h, if_neg h⟩
theorem mrg_len (g : Bool) (a b : Int) (p : List Int) : (mrg g a b p).length = p.length := by simp [mrg]
theorem tPar_len (g : Bool) (n : Nat) (es : List REdge) : ∀ k, (tPar g n es k).length = n
  | 0 => by simp [tPar]
  | k + 1 => by
    unfold tPar
    split
    · exact tPar_len g n es k
    · rw [mrg_len]; exact tPar_len g n es k
theorem tTak_len (g : Bool) (n : Nat) (es : List REdge) : ∀ k, (tTak g n es k).length ≤ k
  | 0 => by simp [tTak]
  | k + 1 => by
    have := tTak_len g n es k
    unfold tTak
    split
    · omega
    · rw [List.length_append]; simp; omega
theorem tTak_mem {g : Bool} {n : Nat} {es : List REdge} : ∀ {k : Nat} {z : Int}, z ∈ tTak g n es k → ∃ i : Nat, i < k ∧ z = i
  | 0, z, h => by simp [tTak] at h
  | k + 1, z, h => by
    unfold tTak at h
    split at h
    · obtain ⟨i, h1, h2⟩ := tTak_mem h; exact ⟨i, by omega, h2⟩
    · rcases List.mem_append.1 h with h | h
      · obtain ⟨i, h1, h2⟩ := tTak_mem h; exact ⟨i, by omega, h2⟩
      · exact ⟨k, by omega, by simpa using h⟩
theorem mrg_get {g : Bool} {a b : Int} {p : List Int} {i : Nat} (h : i < p.length) : (mrg g a b p).getD i 0 = rl (kp g a b) (dp g a b) (p.getD i 0) := by
  simp [mrg, List.getD_eq_getElem?_getD, List.getElem?_eq_getElem h]
theorem rl_iff {g : Bool} {a b u v : Int} (h : a ≠ b) : rl (kp g a b) (dp g a b) u = rl (kp g a b) (dp g a b) v ↔ (u = v ∨ (u = a ∧ v = b) ∨ (u = b ∧ v = a)) := by
  unfold rl kp dp
  cases g <;> simp only [Bool.false_eq_true, if_false, if_true] <;> split <;> split <;> constructor <;> intro hh <;> omega
section
variable {n : Nat} {es : List REdge}
theorem same_cls (h : EsOk n es) : ∀ {k : Nat}, k ≤ es.length → ∀ {i j : Nat}, i < n → j < n → ((tPar true n es k).getD i 0 = (tPar true n es k).getD j 0 ↔ (tPar false n es k).getD i 0 = (tPar false n es k).getD j 0)
  | 0, _, i, j, hi, hj => by simp [tPar]
  | k + 1, hk, i, j, hi, hj => by
    have ih := fun {i j : Nat} (hi : i < n) (hj : j < n) => same_cls h (k := k) (by omega) hi hj
    have hx := eget h (k := k) (by omega)
    generalize he : es.getD k e0 = x at hx
    have hf : x.fr.toNat < n := by have := hx.f0; have := hx.f1; omega
    have ht : x.to_.toNat < n := by have := hx.t0; have := hx.t1; omega
    have e1 := ih hf ht
    by_cases hab : pA (tPar true n es k) (es.getD k e0) = pB (tPar true n es k) (es.getD k e0)
    · have hab2 : pA (tPar false n es k) (es.getD k e0) = pB (tPar false n es k) (es.getD k e0) := by
        rw [he] at hab ⊢; exact e1.1 hab
      rw [(tPar_y hab).1, (tPar_y hab2).1]; exact ih hi hj
    · have hab2 : ¬ pA (tPar false n es k) (es.getD k e0) = pB (tPar false n es k) (es.getD k e0) := by
        rw [he] at hab ⊢; exact fun e => hab (e1.2 e)
      rw [(tPar_n hab).1, (tPar_n hab2).1]
      rw [he] at hab hab2 ⊢
      have l1 := tPar_len true n es k
      have l2 := tPar_len false n es k
      rw [mrg_get (by omega), mrg_get (by omega), mrg_get (by omega), mrg_get (by omega), rl_iff hab, rl_iff hab2]
      unfold pA pB
      rw [ih hi hj, ih hi hf, ih hj ht, ih hi ht, ih hj hf]
theorem tTak_eq (h : EsOk n es) : ∀ {k : Nat}, k ≤ es.length → tTak true n es k = tTak false n es k
  | 0, _ => rfl
  | k + 1, hk => by
    have ih := tTak_eq h (k := k) (by omega)
    have hx := eget h (k := k) (by omega)
    have e1 := same_cls h (k := k) (by omega) (i := (es.getD k e0).fr.toNat) (j := (es.getD k e0).to_.toNat) (by have := hx.f0; have := hx.f1; omega) (by have := hx.t0; have := hx.t1; omega)
    by_cases hab : pA (tPar true n es k) (es.getD k e0) = pB (tPar true n es k) (es.getD k e0)
    · rw [(tPar_y hab).2, (tPar_y (e1.1 hab)).2, ih]
    · rw [(tPar_n hab).2, (tPar_n (fun e => hab (e1.2 e))).2, ih]
theorem tPar_rng (h : EsOk n es) : ∀ {k : Nat}, k ≤ es.length → ∀ {i : Nat}, i < n → 0 ≤ (tPar true n es k).getD i 0 ∧ (tPar true n es k).getD i 0 ≤ i
  | 0, _, i, hi => by simp [tPar, List.getD_eq_getElem?_getD, hi]
  | k + 1, hk, i, hi => by
    have ih := fun {i : Nat} (hi : i < n) => tPar_rng h (k := k) (by omega) hi
    have hx := eget h (k := k) (by omega)
    by_cases hab : pA (tPar true n es k) (es.getD k e0) = pB (tPar true n es k) (es.getD k e0)
    · rw [(tPar_y hab).1]; exact ih hi
    · rw [(tPar_n hab).1, mrg_get (by rw [tPar_len]; exact hi)]
      have hf := ih (i := (es.getD k e0).fr.toNat) (by have := hx.f0; have := hx.f1; omega)
      have ht := ih (i := (es.getD k e0).to_.toNat) (by have := hx.t0; have := hx.t1; omega)
      have hi2 := ih hi
      unfold rl kp dp pA pB
      simp only [if_true]
      split <;> omega
theorem tPar_root (h : EsOk n es) : ∀ {k : Nat}, k ≤ es.length → ∀ {i : Nat}, i < n → (tPar true n es k).getD ((tPar true n es k).getD i 0).toNat 0 = (tPar true n es k).getD i 0
  | 0, _, i, hi => by simp [tPar, List.getD_eq_getElem?_getD, hi]
  | k + 1, hk, i, hi => by
    have ih := fun {i : Nat} (hi : i < n) => tPar_root h (k := k) (by omega) hi
    have rg := fun {i : Nat} (hi : i < n) => tPar_rng h (k := k) (by omega) hi
    have hx := eget h (k := k) (by omega)
    by_cases hab : pA (tPar true n es k) (es.getD k e0) = pB (tPar true n es k) (es.getD k e0)
    · rw [(tPar_y hab).1]; exact ih hi
    · have l1 := tPar_len true n es k
      have hf : (es.getD k e0).fr.toNat < n := by have := hx.f0; have := hx.f1; omega
      have ht : (es.getD k e0).to_.toNat < n := by have := hx.t0; have := hx.t1; omega
      have rf := rg hf; have rt := rg ht; have ri := rg hi
      have f1 := ih hf; have t1 := ih ht; have i1 := ih hi
      rw [(tPar_n hab).1]
      rw [mrg_get (i := i) (by omega)]
      have e : ∃ q, q = rl (kp true (pA (tPar true n es k) (es.getD k e0)) (pB (tPar true n es k) (es.getD k e0))) (dp true (pA (tPar true n es k) (es.getD k e0)) (pB (tPar true n es k) (es.getD k e0))) ((tPar true n es k).getD i 0) := ⟨_, rfl⟩
      obtain ⟨q, hq⟩ := e
      rw [← hq]
      have hq0 : 0 ≤ q ∧ q < n ∧ (tPar true n es k).getD q.toNat 0 = q ∧ q ≠ max (pA (tPar true n es k) (es.getD k e0)) (pB (tPar true n es k) (es.getD k e0)) := by
        unfold rl kp dp at hq
        simp only [if_true] at hq
        unfold pA pB at *
        split at hq
        · rcases Int.le_total ((tPar true n es k).getD (es.getD k e0).fr.toNat 0) ((tPar true n es k).getD (es.getD k e0).to_.toNat 0) with hm | hm
          · rw [Int.min_eq_left hm] at hq; subst hq; exact ⟨by omega, by omega, f1, by omega⟩
          · rw [Int.min_eq_right hm] at hq; subst hq; exact ⟨by omega, by omega, t1, by omega⟩
        · subst hq; exact ⟨by omega, by omega, i1, by assumption⟩
      rw [mrg_get (by omega), hq0.2.2.1]
      unfold rl dp
      simp only [if_true]
      rw [if_neg hq0.2.2.2]
theorem tPar_closed (h : EsOk n es) (S : Nat → Prop) : ∀ {k : Nat}, k ≤ es.length → (∀ i : Nat, (i : Int) ∈ tTak true n es k → (S (es.getD i e0).fr.toNat ↔ S (es.getD i e0).to_.toNat)) → ∀ {i j : Nat}, i < n → j < n → (tPar true n es k).getD i 0 = (tPar true n es k).getD j 0 → (S i ↔ S j)
  | 0, _, _, i, j, hi, hj, e => by
    simp [tPar, List.getD_eq_getElem?_getD, hi, hj] at e
    rw [show i = j by omega]
  | k + 1, hk, hS, i, j, hi, hj, e => by
    by_cases hab : pA (tPar true n es k) (es.getD k e0) = pB (tPar true n es k) (es.getD k e0)
    · rw [(tPar_y hab).1] at e
      rw [(tPar_y hab).2] at hS
      exact tPar_closed h S (by omega) hS hi hj e
    · have hx := eget h (k := k) (by omega)
      have hf : (es.getD k e0).fr.toNat < n := by have := hx.f0; have := hx.f1; omega
      have ht : (es.getD k e0).to_.toNat < n := by have := hx.t0; have := hx.t1; omega
      rw [(tPar_n hab).2] at hS
      have ih := fun {i j : Nat} (hi : i < n) (hj : j < n) e => tPar_closed h S (k := k) (by omega) (fun i hi => hS i (List.mem_append_left _ hi)) (i := i) (j := j) hi hj e
      have hk1 := hS k (List.mem_append_right _ (by simp))
      have l1 := tPar_len true n es k
      rw [(tPar_n hab).1, mrg_get (by omega), mrg_get (by omega), rl_iff hab] at e
      rcases e with e | ⟨e1, e2⟩ | ⟨e1, e2⟩
      · exact ih hi hj e
      · exact (ih hi hf e1).trans (hk1.trans (ih ht hj e2.symm))
      · exact (ih hi ht e1).trans (hk1.symm.trans (ih hf hj e2.symm))
theorem tPar_ends (h : EsOk n es) : ∀ {k : Nat}, k ≤ es.length → ∀ {i : Nat}, i < k → (tPar true n es k).getD (es.getD i e0).fr.toNat 0 = (tPar true n es k).getD (es.getD i e0).to_.toNat 0
  | 0, _, i, hi => by omega
  | k + 1, hk, i, hi => by
    have hx := eget h (k := i) (by omega)
    have hf : (es.getD i e0).fr.toNat < n := by have := hx.f0; have := hx.f1; omega
    have ht : (es.getD i e0).to_.toNat < n := by have := hx.t0; have := hx.t1; omega
    have l1 := tPar_len true n es k
    by_cases hik : i = k
    · subst hik
      by_cases hab : pA (tPar true n es i) (es.getD i e0) = pB (tPar true n es i) (es.getD i e0)
      · rw [(tPar_y hab).1]; exact hab
      · rw [(tPar_n hab).1, mrg_get (by omega), mrg_get (by omega), rl_iff hab]
        exact .inr (.inl ⟨rfl, rfl⟩)
    · have ih := tPar_ends h (k := k) (by omega) (i := i) (by omega)
      by_cases hab : pA (tPar true n es k) (es.getD k e0) = pB (tPar true n es k) (es.getD k e0)
      · rw [(tPar_y hab).1]; exact ih
      · rw [(tPar_n hab).1, mrg_get (by omega), mrg_get (by omega), rl_iff hab]; exact .inl ih
def tV (n : Nat) (es : List REdge) : Nat → Nat → RQuat
  | 0, _ => q1
  | k + 1, j =>
    if pA (tPar true n es k) (es.getD k e0) = pB (tPar true n es k) (es.getD k e0) then tV n es k j
    else if pA (tPar true n es k) (es.getD k e0) < pB (tPar true n es k) (es.getD k e0) then
      (if (tPar true n es k).getD j 0 = pB (tPar true n es k) (es.getD k e0) then qmul (qmul (qmul (tV n es k (es.getD k e0).fr.toNat) (qcj (es.getD k e0).turn)) (qcj (tV n es k (es.getD k e0).to_.toNat))) (tV n es k j) else tV n es k j)
    else
      (if (tPar true n es k).getD j 0 = pA (tPar true n es k) (es.getD k e0) then qmul (qmul (qmul (tV n es k (es.getD k e0).to_.toNat) (es.getD k e0).turn) (qcj (tV n es k (es.getD k e0).fr.toNat))) (tV n es k j) else tV n es k j)
theorem tV_nz (h : EsOk n es) : ∀ {k : Nat}, k ≤ es.length → ∀ j, Qnz (tV n es k j)
  | 0, _, j => q1_ok.1
  | k + 1, hk, j => by
    have ih := tV_nz h (k := k) (by omega)
    have hx := eget h (k := k) (by omega)
    unfold tV
    split
    · exact ih j
    · split
      · split
        · exact qmul_nz (qmul_nz (qmul_nz (ih _) (qcj_nz hx.q.1)) (qcj_nz (ih _))) (ih _)
        · exact ih j
      · split
        · exact qmul_nz (qmul_nz (qmul_nz (ih _) hx.q.1) (qcj_nz (ih _))) (ih _)
        · exact ih j
theorem tV_root (h : EsOk n es) : ∀ {k : Nat}, k ≤ es.length → ∀ {j : Nat}, j < n → (tPar true n es k).getD j 0 = j → tV n es k j = q1
  | 0, _, j, _, _ => rfl
  | k + 1, hk, j, hj, e => by
    have hx := eget h (k := k) (by omega)
    have hf : (es.getD k e0).fr.toNat < n := by have := hx.f0; have := hx.f1; omega
    have ht : (es.getD k e0).to_.toNat < n := by have := hx.t0; have := hx.t1; omega
    have ih := tV_root h (k := k) (by omega) hj
    have l1 := tPar_len true n es k
    have rj := tPar_rng h (k := k) (by omega) hj
    have rf := tPar_rng h (k := k) (by omega) hf
    have rt := tPar_rng h (k := k) (by omega) ht
    by_cases hab : pA (tPar true n es k) (es.getD k e0) = pB (tPar true n es k) (es.getD k e0)
    · rw [(tPar_y hab).1] at e
      unfold tV; rw [if_pos hab]; exact ih e
    · rw [(tPar_n hab).1, mrg_get (by omega)] at e
      unfold tV; rw [if_neg hab]
      have hne : (tPar true n es k).getD j 0 ≠ max (pA (tPar true n es k) (es.getD k e0)) (pB (tPar true n es k) (es.getD k e0)) := fun e2 => by
        unfold rl kp dp at e
        simp only [if_true] at e
        rw [if_pos e2] at e
        unfold pA pB at *
        omega
      have e3 : (tPar true n es k).getD j 0 = j := by
        unfold rl dp at e
        simp only [if_true] at e
        rwa [if_neg hne] at e
      split
      · rw [if_neg (fun e2 => hne (by omega))]; exact ih e3
      · rw [if_neg (fun e2 => hne (by omega))]; exact ih e3
theorem tV_sat (h : EsOk n es) : ∀ {k : Nat}, k ≤ es.length → ∀ {i : Nat}, (i : Int) ∈ tTak true n es k → Qeq (tV n es k (es.getD i e0).fr.toNat) (qmul (tV n es k (es.getD i e0).to_.toNat) (es.getD i e0).turn)
  | 0, _, i, hi => by simp [tTak] at hi
  | k + 1, hk, i, hi => by
    have nz := tV_nz h (k := k) (by omega)
    have hx := eget h (k := k) (by omega)
    by_cases hab : pA (tPar true n es k) (es.getD k e0) = pB (tPar true n es k) (es.getD k e0)
    · rw [(tPar_y hab).2] at hi
      unfold tV; simp only [if_pos hab]
      exact tV_sat h (by omega) hi
    · rw [(tPar_n hab).2] at hi
      unfold tV; simp only [if_neg hab]
      rcases List.mem_append.1 hi with hi | hi
      · have ih := tV_sat h (k := k) (by omega) hi
        obtain ⟨i', hi', e'⟩ := tTak_mem hi
        have hends := tPar_ends h (k := k) (by omega) (i := i) (by omega)
        have hm : ∀ m : RQuat, Qeq (qmul m (tV n es k (es.getD i e0).fr.toNat)) (qmul (qmul m (tV n es k (es.getD i e0).to_.toNat)) (es.getD i e0).turn) := fun m => by
          rw [qmul_assoc]; exact (Qeq.refl m).mul ih
        rw [hends]
        split
        · split
          · exact hm _
          · exact ih
        · split
          · exact hm _
          · exact ih
      · obtain rfl : i = k := by simp at hi; omega
        have hA : (tPar true n es i).getD (es.getD i e0).fr.toNat 0 = pA (tPar true n es i) (es.getD i e0) := rfl
        have hB : (tPar true n es i).getD (es.getD i e0).to_.toNat 0 = pB (tPar true n es i) (es.getD i e0) := rfl
        rw [hA, hB]
        simp only [if_true, if_neg hab, if_neg (fun e => hab (Eq.symm e))]
        split
        · refine Qeq.symm ?_
          rw [qmul_assoc _ (qcj (tV n es i (es.getD i e0).to_.toNat)) _, qcj_mul, qsc_mul_r, qmul_1, qsc_mul_l, qmul_assoc, qcj_mul, qsc_mul_r, qmul_1, qsc_sc]
          exact Qeq.sc (Int.mul_ne_zero (qnz_n.1 (nz _)) (qnz_n.1 hx.q.1)) _
        · rw [qmul_assoc (qmul _ _), qcj_mul, qsc_mul_r, qmul_1]
          exact Qeq.sc (qnz_n.1 (nz _)) _
theorem tV_uniq (h : EsOk n es) (W : Nat → RQuat) (hW : ∀ j, j < n → Qnz (W j)) {k : Nat} (hk : k ≤ es.length) (hs : ∀ i : Nat, (i : Int) ∈ tTak true n es k → Qeq (W (es.getD i e0).fr.toNat) (qmul (W (es.getD i e0).to_.toNat) (es.getD i e0).turn))
    {j : Nat} (hj : j < n) : Qeq (tV n es k j) (qmul (qcj (W ((tPar true n es k).getD j 0).toNat)) (W j)) := by
  have rj := tPar_rng h hk hj
  generalize hr : ((tPar true n es k).getD j 0).toNat = r
  have hrn : r < n := by omega
  have hroot := tPar_root h hk hj
  rw [hr] at hroot
  have hc := tPar_closed h (fun i => Qeq (tV n es k i) (qmul (qcj (W r)) (W i))) hk (fun i hi => by
    obtain ⟨i', hi', e'⟩ := tTak_mem hi
    have hx := eget h (k := i) (by omega)
    have s1 := tV_sat h hk hi
    have s2 := hs i hi
    have hn := qnz_n.1 hx.q.1
    constructor
    · intro g
      have e1 : Qeq (qmul (tV n es k (es.getD i e0).to_.toNat) (es.getD i e0).turn) (qmul (qmul (qcj (W r)) (W (es.getD i e0).to_.toNat)) (es.getD i e0).turn) :=
        s1.symm.trans (g.trans (by rw [qmul_assoc]; exact (Qeq.refl _).mul s2))
      have e2 := e1.mul (Qeq.refl (qcj (es.getD i e0).turn))
      rw [qmul_assoc, qmul_cj, qsc_mul_r, qmul_1, qmul_assoc (qmul _ _), qmul_cj, qsc_mul_r, qmul_1] at e2
      exact (Qeq.sc hn _).symm.trans (e2.trans (Qeq.sc hn _))
    · intro g
      refine s1.trans ((g.mul (Qeq.refl _)).trans ?_)
      rw [qmul_assoc]; exact (Qeq.refl _).mul s2.symm) hrn hj (by rw [hroot])
  refine hc.1 ?_
  rw [tV_root h hk hrn (by omega), qcj_mul]
  exact (Qeq.sc (qnz_n.1 (hW r hrn)) _).symm
end
def aV (n : Nat) (es : List REdge) (j : Nat) : RQuat := tV n es es.length j
def aFit (n : Nat) (es : List REdge) : Prop := ∀ j, j < n → Qfit (qcan (aV n es j))
instance {n : Nat} {es : List REdge} : Decidable (aFit n es) := by unfold aFit; infer_instance
def absL (n : Nat) (es : List REdge) : List RQuat := if aFit n es then (List.range n).map fun j => qcan (aV n es j) else []
def absC (n : Nat) (es : List REdge) : Nat := if aFit n es then 0 else 3
def treL (n : Nat) (es : List REdge) : List Int := tTak true n es es.length
end Go.Fid
namespace Go.Proofs.YtihgdjljnaekmaaGreat
open Go.Fid
def encI (x : RInt) : Dat := .agg [.val (.bool x.neg), .sl 135 1 (x.gs.map enc_u32)]
def encR (x : RRat) : Dat := .agg [.val (.bool x.num.neg), .sl 135 1 (x.num.gs.map enc_u32), .val (.bool x.den.neg), .sl 135 1 (x.den.gs.map enc_u32)]
structure RPix where
  x : Int
  y : Int
structure RSpot where
  x : Int
  y : Int
  z : Int
def encQuat (x : RQuat) : Dat := .agg [.val (.int .i64 x.a), .val (.int .i64 x.b), .val (.int .i64 x.c), .val (.int .i64 x.d)]
def encEdge (x : REdge) : Dat := .agg [.val (.int .i64 x.fr), .val (.int .i64 x.to_), .val (.int .i64 x.turn.a), .val (.int .i64 x.turn.b), .val (.int .i64 x.turn.c), .val (.int .i64 x.turn.d)]
structure RStn where
  at_ : RSpot
  turn : RQuat
  focal : Int
  centre : RPix
structure A2 (α : Type) where
  a0 : α
  a1 : α
structure A3 (α : Type) where
  a0 : α
  a1 : α
  a2 : α
structure A4 (α : Type) where
  a0 : α
  a1 : α
  a2 : α
  a3 : α
def encA70 (x : A3 (Int)) : Dat := .agg [.val (.int .i64 x.a0), .val (.int .i64 x.a1), .val (.int .i64 x.a2)]
def encA87 (x : A2 (Nat)) : Dat := .agg [.val (.int .u8 ((x.a0 : Nat) : Int)), .val (.int .u8 ((x.a1 : Nat) : Int))]
def encA146 (x : A4 (Int)) : Dat := .agg [.val (.int .i64 x.a0), .val (.int .i64 x.a1), .val (.int .i64 x.a2), .val (.int .i64 x.a3)]
def encA179 (x : A4 (RInt)) : Dat := .agg [.val (.bool x.a0.neg), .sl 135 1 (x.a0.gs.map enc_u32), .val (.bool x.a1.neg), .sl 135 1 (x.a1.gs.map enc_u32), .val (.bool x.a2.neg), .sl 135 1 (x.a2.gs.map enc_u32), .val (.bool x.a3.neg), .sl 135 1 (x.a3.gs.map enc_u32)]
end Go.Proofs.YtihgdjljnaekmaaGreat
namespace Go.Proofs.YtihgdjljnaekmaaGreat
open Go.Fid
theorem mo : Tryz.prog.follows .mixedOrders = true := by kernel_rfl
end Go.Proofs.YtihgdjljnaekmaaGreat
set_option linter.unusedVariables false
namespace Go.Fid
abbrev vi (z : Int) : SV := .d (.val (.int .i64 z))
abbrev vin (n : Nat) : SV := .d (.val (.int .i64 (n : Int)))
abbrev vqn (n : Nat) : SV := .d (.val (.int .u64 (n : Int)))
abbrev vwn (n : Nat) : SV := .d (.val (.int .u32 (n : Int)))
abbrev vb (b : Bool) : SV := .d (.val (.bool b))
abbrev vl {α : Type} (E z : Nat) (F : α → Dat) (L : List α) : SV := .d (.sl E z (L.map F))
abbrev bm {α : Type} (F : α → Dat) (L : List α) : List SV := L.map (fun g => SV.d (F g))
section
variable {P : Program} {n : Fr} {ops : Array Oper} {S S' : SL} {B B' : BS} {l : List Oper} {o : Oper} {news : List Nat} {acc0 : List (List Nat × List Nat)}
end
theorem fillL_all {s : Nat} : ∀ (ds : List Dat) (k : Nat) (a z : List Dat), a.length = k * s → z.length = ds.length * s → (∀ d ∈ ds, d.cells.length = s) →
    fillL (fun i => some (i * s, s)) (a ++ z) ((ds.zipIdx k).map fun p => (p.2, p.1.cells)) = some (a ++ flat ds)
  | [], k, a, z, ha, hz, _ => by
    have : z = [] := List.eq_nil_of_length_eq_zero (by simpa using hz)
    subst this; simp [fillL, flat]
  | d :: ds, k, a, z, ha, hz, hs => by
    have hd := hs d (by simp)
    have hz' : z.length = s + ds.length * s := by rw [hz, List.length_cons, Nat.add_mul]; omega
    rw [List.zipIdx_cons, List.map_cons]
    simp only [fillL]
    have h1 : (Nat.beq d.cells.length s && Nat.ble (k * s + d.cells.length) (a ++ z).length) = true := by
      rw [Bool.and_eq_true]
      refine ⟨by rw [hd]; exact Nat.beq_refl s, Nat.ble_eq_true_of_le ?_⟩
      rw [List.length_append, ha, hd]; omega
    rw [h1, cond_true]
    have h2 : patch (a ++ z) (k * s) d.cells = (a ++ d.cells) ++ z.drop s := by
      unfold patch
      rw [← ha, List.take_left, hd]
      congr 1
      rw [List.drop_append, List.drop_of_length_le (by omega), List.nil_append]
      congr 1; omega
    rw [h2, fillL_all ds (k + 1) (a ++ d.cells) (z.drop s) (by rw [List.length_append, ha, hd, Nat.add_mul]; omega) (by rw [List.length_drop]; omega) (fun x hx => hs x (by simp [hx])), flat_cons, List.append_assoc]
theorem e_bldF {P : Program} {o : Oper} {S : Nat → SV} {T E : TypeId} {n s : Nat} {ps : List (Nat × Operand)} {ds : List Dat} {zv : List Value} {zd : List Dat} {y : Dat} (ho : o.op = .build T ps.toArray) (hT : arrB P T = some (n, E, s)) (hz : zeroB P T = some zv) (hzd : ZOk zv zd)
    (hps : ps.map (fun p => (p.1, ev S p.2)) = ds.zipIdx.map (fun p => (p.2, .d p.1))) (hok : ds.all (fun d => d.ok1) = true) (hs : ds.all (fun d => Nat.beq d.cells.length s) = true) (hl : Nat.beq zd.length (ds.length * s) = true) (hy : Dat.agg (flat ds) = y) : EOk P o S [] (.d y) := by
  subst hy
  refine e_build_arr (pd := ds.zipIdx.map fun p => (p.2, p.1)) ho hT hz hzd (by rw [hps, List.map_map]; rfl) ?_ ?_
  · rw [List.all_eq_true] at hok ⊢
    intro p hp
    obtain ⟨q, hq, rfl⟩ := List.mem_map.1 hp
    exact hok _ (List.fst_mem_of_mem_zipIdx hq)
  · have := fillL_all ds 0 [] zd (by simp) (Nat.eq_of_beq_eq_true hl) (fun d hd => Nat.eq_of_beq_eq_true (List.all_eq_true.1 hs d hd))
    rw [List.map_map]
    rw [List.nil_append, List.nil_append] at this
    exact this
theorem pubs_cells {α : Type} {s : Nat} (F : α → Dat) (L : List α) (hF : ∀ g, (F g).cells.length = s) : ∀ e ∈ L.map F, e.cells.length = s := by
  intro e he
  obtain ⟨g, _, rfl⟩ := List.mem_map.1 he
  exact hF g
theorem pubs_take {α : Type} {s : Nat} (F : α → Dat) (L : List α) (hF : ∀ g, (F g).cells.length = s) {m : Nat} (h : L.length = m) : (bxs F L).take (m * s) = (flat (L.map F)).map .d := by
  refine List.take_of_length_le ?_
  rw [List.length_map, flat_maplen F hF, h]
  exact Nat.le_refl _
end Go.Fid
set_option linter.unusedVariables false
set_option linter.unusedSimpArgs false
namespace Go.Fid
open Go.RowKit (Below)
def PRounds (P : Program) (n : Fr) (c : Code) (Q : Exit → PS → Prop) : Nat → PS → Prop
  | 0, _ => False
  | m + 1, st => PWp P n c (PThen (PRounds P n c Q m) Q) st
theorem pwp_rounds {P : Program} {n : Fr} {c : Code} {Q : Exit → PS → Prop} {st : PS} (m : Nat) (h : PRounds P n c Q m st) : PWp P n (.loop c) Q st := fun C a w N hn hs => by
  refine wpIn_loop_rounds m ?_
  have key : ∀ m st a w, Sim C a w st → PRounds P n c Q m st → Code.roundsIn (fen n) N P c (fun e a' w' => ∃ st', Sim C a' w' st' ∧ Q e st') m a w := by
    intro m
    induction m with
    | zero => intro st a w _ h; exact h.elim
    | succ m ih =>
      intro st a w hs h
      refine wpIn_mono (h C a w N hn hs) fun e a' w' ⟨s, h1, h2⟩ => ?_
      cases e with
      | normal => exact ih s a' w' h1 h2
      | _ => exact ⟨s, h1, h2⟩
  exact key m st a w hs h
theorem pwp_round {P : Program} {n : Fr} {c : Code} {Q : Exit → PS → Prop} {st : PS} {m : Nat} (h : PWp P n c (PThen (PRounds P n c Q m) Q) st) : PRounds P n c Q (m + 1) st := h
theorem pwp_again {P : Program} {n : Fr} {c : Code} {Q : Exit → PS → Prop} {s st : PS} {m : Nat} (hw : SimImp s st) (h : PWp P n c (PThen (PRounds P n c Q m) Q) st) : PThen (PRounds P n c Q (m + 1)) Q .normal s :=
  show PWp P n c (PThen (PRounds P n c Q m) Q) s from fun C a w N hn hs => h C a w N hn (hw C a w hs)
section
variable {P : Program} {o : Oper} {S : Nat → SV}
theorem run_sliceArr {T E : TypeId} {n s : Nat} (hT : arrB P T = some (n, E, s)) (hn : 0 < n) (w : World) (b q : Nat) : (Instr.sliceAt T (.pointer (some ⟨b, q, none⟩)) none none none).run P w = .ok (.slice (some ⟨b, q, none⟩) n n) w := by
  obtain ⟨j, e1, e2, e3⟩ := arr_of hT
  have hne : ¬ n = 0 := by omega
  simp [Instr.sliceAt, run_underlying e1, Instr.sliceBounds, run_sizeOf e2, Instr.sureAddr, Addr.add_lit, hne]
theorem e_slv {T E : TypeId} {x : Operand} {k q n s : Nat} (ho : o.op = .slice T x none none none) (hT : arrB P T = some (n, E, s)) (hx : ev S x = .ref k q) (hn : Nat.blt 0 n = true) (hm : Nat.ble n maxLen = true) : EOk P o S [] (.view k q n) :=
  EOk.same fun a w D β hop _ => by
    have hp := hop x (by simp [ho, Op.operands])
    rw [hx] at hp
    obtain ⟨b, h1, h2⟩ := hp
    have hn' : 0 < n := Nat.le_of_ble_eq_true hn
    refine ⟨.slice (some ⟨b, q, none⟩) n n, ?_, b, n, h1, rfl, Nat.le_refl _, Nat.le_of_ble_eq_true hm⟩
    simp [execOp, ho, h2, run_sliceArr hT hn']
theorem e_ixa {T E : TypeId} {x ix : Operand} {n s sz : Nat} {agg : Bool} {k : IntKind} {i : Int} {j : Nat} {cs : List Dat} {y : SV} (ho : o.op = .index T x ix) (hx : ev S x = .d (.agg cs)) (hT : arrB P T = some (n, E, s)) (hs : shapeB P E = some (agg, sz)) (h1 : agg = false → sz = 1)
    (hi : ev S ix = .d (.val (.int k i))) (hj : i = (j : Int)) (hn : Nat.blt j n = true) (hle : Nat.ble (j * s + sz) cs.length = true) (hy : gather agg (((cs.drop (j * s)).take sz).map .d) = y) : EOk P o S [] y := by
  subst hj
  have hn' : j < n := Nat.le_of_ble_eq_true hn
  have h := e_index_arr (P := P) (i := (j : Int)) (k := k) ho hx hT hs h1 hi (by omega) (by omega) (by simpa using Nat.le_of_ble_eq_true hle)
  rw [show ((j : Int)).toNat = j from rfl] at h
  exact hy ▸ h
inductive Avoids (E : TypeId) : Dat → Prop
  | val (v : Value) : Avoids E (.val v)
  | sl {t : TypeId} {s : Nat} {es : List Dat} (h : t ≠ E) (hs : ∀ (i : Nat) d, (flat es)[i]? = some d → Avoids E d) : Avoids E (.sl t s es)
  | agg {cs : List Dat} (hs : ∀ (i : Nat) d, cs[i]? = some d → Avoids E d) : Avoids E (.agg cs)
  | tup {cs : List Dat} (hs : ∀ (i : Nat) d, cs[i]? = some d → Avoids E d) : Avoids E (.tup cs)
  | cptr {t : TypeId} {cs : List Dat} {off : Nat} (h : t ≠ E) (hs : ∀ (i : Nat) d, cs[i]? = some d → Avoids E d) : Avoids E (.cptr t cs off)
  | clo {f : FuncId} {caps : List Dat} (hs : ∀ (i : Nat) d, caps[i]? = some d → Avoids E d) : Avoids E (.clo f caps)
theorem avo_nil {E : TypeId} : ∀ (i : Nat) d, ([] : List Dat)[i]? = some d → Avoids E d := fun i d h => by simp at h
theorem avo_cons {E : TypeId} {x : Dat} {l : List Dat} (h : Avoids E x) (hl : ∀ (i : Nat) d, l[i]? = some d → Avoids E d) : ∀ (i : Nat) d, (x :: l)[i]? = some d → Avoids E d := fun i d hd => by
  rcases i with _ | i
  · simp at hd; subst hd; exact h
  · exact hl i d (by simpa using hd)
theorem avo_slF {α : Type} {E t : TypeId} {s : Nat} {F : α → Dat} (h : t ≠ E) (hF : ∀ x, Avoids E (F x)) (l : List α) : Avoids E (.sl t s (l.map F)) :=
  .sl h (fun i d hd => by
    have hm : d ∈ flat (l.map F) := List.mem_of_getElem? hd
    simp only [flat, List.mem_flatMap, List.mem_map] at hm
    obtain ⟨x, ⟨y, _, rfl⟩, hx⟩ := hm
    have hy := hF y
    generalize F y = z at hy hx
    cases hy with
    | agg hs =>
      obtain ⟨j, hj⟩ := List.getElem?_of_mem hx
      exact hs j d hj
    | val v => simp only [Dat.cells, List.mem_singleton] at hx; subst hx; exact .val v
    | sl h hs => simp only [Dat.cells, List.mem_singleton] at hx; subst hx; exact .sl h hs
    | tup hs => simp only [Dat.cells, List.mem_singleton] at hx; subst hx; exact .tup hs
    | cptr h hs => simp only [Dat.cells, List.mem_singleton] at hx; subst hx; exact .cptr h hs
    | clo hs => simp only [Dat.cells, List.mem_singleton] at hx; subst hx; exact .clo hs)
theorem Avoids.rep {E : TypeId} {w : World} {D D' : DSet} (hk : ∀ t g o, t ≠ E → D t g o → D' t g o) {v : Value} {r : Dat} (ha : Avoids E r) (h : Rep w D v r) : Rep w D' v r := by
  induction h with
  | val v => exact .val v
  | sl g off u hn hc hm hs hao hD hu h1 hr ih =>
    cases ha with
    | sl hne has => exact .sl g off u hn hc hm hs hao (fun i hi => hk _ _ _ hne (hD i hi)) hu h1 (fun i d hd => ih i d hd (has i d hd))
  | agg vs hl h1 hr ih =>
    cases ha with
    | agg has => exact .agg vs hl h1 (fun i v d hv hd => ih i v d hv hd (has i d hd))
  | tup vs hl hr ih =>
    cases ha with
    | tup has => exact .tup vs hl (fun i v d hv hd => ih i v d hv hd (has i d hd))
  | cptr g o u hD hu h1 hr ih =>
    cases ha with
    | cptr hne has => exact .cptr g o u (fun i hi => hk _ _ _ hne (hD i hi)) hu h1 (fun i d hd => ih i d hd (has i d hd))
  | clo vs hl hr ih =>
    cases ha with
    | clo has => exact .clo vs hl (fun i v d hv hd => ih i v d hv hd (has i d hd))
inductive ViewArgs (k : Nat) (E : TypeId) (s q m : Nat) (es : List Dat) : List SV → List Dat → Prop
  | nil : ViewArgs k E s q m es [] []
  | d {x : Dat} {zs : List SV} {ds : List Dat} (h : ViewArgs k E s q m es zs ds) : ViewArgs k E s q m es (.d x :: zs) (x :: ds)
  | v {zs : List SV} {ds : List Dat} (h : ViewArgs k E s q m es zs ds) : ViewArgs k E s q m es (.view k q m :: zs) (.sl E s es :: ds)
theorem ViewArgs.len {k E s q m : Nat} {es : List Dat} {zs : List SV} {ds : List Dat} (h : ViewArgs k E s q m es zs ds) : zs.length = ds.length := by
  induction h with
  | nil => rfl
  | d h ih => simp [ih]
  | v h ih => simp [ih]
theorem ViewArgs.rep {k E s q m : Nat} {es : List Dat} {w : World} {D D' : DSet} {β : BMap} (h1 : ∀ v x, Rep w D v x → Rep w D' v x) (h2 : ∀ v, RepS w D β v (.view k q m) → Rep w D' v (.sl E s es)) {zs : List SV} {ds : List Dat} (h : ViewArgs k E s q m es zs ds) :
    ∀ {vs : List Value}, vs.length = zs.length → (∀ (i : Nat) v x, vs[i]? = some v → zs[i]? = some x → RepS w D β v x) → ∀ (i : Nat) v d, vs[i]? = some v → ds[i]? = some d → Rep w D' v d := by
  induction h with
  | nil => intro vs _ _ i v d _ hd; simp at hd
  | d h ih =>
    intro vs hl hr i v d' hv hd
    rcases vs with _ | ⟨v0, vs⟩
    · simp at hl
    · rcases i with _ | i
      · simp at hv hd; subst hv; subst hd; exact h1 _ _ (hr 0 _ _ rfl rfl)
      · exact ih (by simpa using hl) (fun i v x h3 h4 => hr (i + 1) v x (by simpa using h3) (by simpa using h4)) i v d' (by simpa using hv) (by simpa using hd)
  | v h ih =>
    intro vs hl hr i v d' hv hd
    rcases vs with _ | ⟨v0, vs⟩
    · simp at hl
    · rcases i with _ | i
      · simp at hv hd; subst hv; subst hd; exact h2 _ (hr 0 _ _ rfl rfl)
      · exact ih (by simpa using hl) (fun i v x h3 h4 => hr (i + 1) v x (by simpa using h3) (by simpa using h4)) i v d' (by simpa using hv) (by simpa using hd)
theorem e_clv {y : Operand} {xs : List Operand} {ats : Array TypeId} {f : FuncId} {ds es : List Dat} {r : Dat} {zs : List SV} {cs : List SV} {k E s q m : Nat} (hf : Takes P f ds r) (ho : o.op = .call { callee := .value y, args := xs.toArray, argTypes := ats }) (hy : ev S y = .d (.val (.func (.func f) #[] #[])))
    (hx : xs.map (ev S) = zs) (hz : ViewArgs k E s q m es zs ds) (hes : ∀ e ∈ es, e.cells.length = s) (hl : es.length = m) (hc : (cs.drop q).take (m * s) = (flat es).map .d) (ha : Avoids E r) : EOk P o S [(k, cs)] (.d r) :=
  fun a w D β Q hop hrd hD => by
    have hyv := hop y (by simp [ho, Op.operands, Call.operands])
    rw [hy] at hyv
    have hyv' := rep_val hyv
    have hrep : ∀ (i : Nat) v x, (xs.map a.eval)[i]? = some v → zs[i]? = some x → RepS w D β v x := fun i v x hv hz' => by
      rw [List.getElem?_map, Option.map_eq_some_iff] at hv
      obtain ⟨p, hqi, rfl⟩ := hv
      have hm := hop p (by simp [ho, Op.operands, Call.operands, List.mem_of_getElem? hqi])
      have hi := congrArg (fun l : List SV => l[i]?) hx
      simp only [List.getElem?_map, hqi, hz', Option.map_some, Option.some.injEq] at hi
      rw [hi] at hm
      exact hm
    have hlen : (xs.map a.eval).length = zs.length := by rw [← hx]; simp
    have hrun : (execOp a.eval o).run P w = .ok (.enter f (xs.map a.eval).toArray) w := by
      simp only [execOp, ho, resolve, Deferred.ofValue, hyv', Sem.run_bind, Sem.run_pure, Result.andThen_ok, invoke, Array.empty_append, Array.append_empty]
      rw [run_callFunc hf.may]
      simp
    have hfl := flat_length hes
    have hblk := hrd (k, cs) (by simp)
    have key : ∃ (D' : DSet) (X : TypeId → Nat → Nat → Prop), DOk D' w ∧ (∀ t g i, D' t g i ↔ D t g i ∨ X t g i) ∧ (∀ t g i, X t g i → t = E ∧ ∀ t' i', ¬ D t' g i') ∧ (∀ v x, Rep w D v x → Rep w D' v x) ∧ (∀ v, RepS w D β v (.view k q m) → Rep w D' v (.sl E s es)) := by
      rcases hblk with ⟨g1, hcs⟩ | ⟨b, vs, T', g1, g2, g3, g4, g5⟩
      · refine ⟨D, fun _ _ _ => False, hD, fun t g i => by simp, fun _ _ _ h => h.elim, fun _ _ h => h, fun v hv => ?_⟩
        obtain ⟨b, cap, h1, _⟩ := hv
        rw [h1] at g1; cases g1
      · have hmono : ∀ t' g i, D t' g i → (D t' g i ∨ (t' = E ∧ g = b)) ∧ w.cell? ⟨g, i, none⟩ = w.cell? ⟨g, i, none⟩ := fun t' g i hd => ⟨.inl hd, rfl⟩
        refine ⟨fun t' g i => D t' g i ∨ (t' = E ∧ g = b), fun t' g i => t' = E ∧ g = b, fun t' g i hd => ?_, fun _ _ _ => Iff.rfl, fun t g i h => ⟨h.1, fun t' i' hd => g5 t' i' (h.2 ▸ hd)⟩, fun v x hr => Rep.mono hmono hr, fun v hv => ?_⟩
        · rcases hd with hd | ⟨_, e⟩
          · exact hD _ _ _ hd
          · subst e; exact heap_lt g2
        · obtain ⟨b2, cap, h1, h2, h5, h6⟩ := hv
          obtain rfl : b = b2 := by rw [h1] at g1; injection g1 with g1; exact g1.symm
          rw [h2]
          have key : ∀ (i : Nat) d, (flat es)[i]? = some d → ∃ u, vs[q + i]? = some u ∧ u.oneCell' = true ∧ Rep w D u d := fun i d hd => by
            have hi : i < m * s := by
              have := (List.getElem?_eq_some_iff.1 hd).1
              rw [hfl, hl] at this; exact this
            have e1 : cs[q + i]? = some (.d d) := by
              have : ((cs.drop q).take (m * s))[i]? = some (.d d) := by rw [hc]; simp [hd]
              rw [List.getElem?_take_of_lt hi, List.getElem?_drop] at this
              exact this
            exact g4 _ _ e1
          have hcell : ∀ i, w.cell? ⟨b, i, none⟩ = vs[i]? := fun i => cell_of_row w b i vs T' (0, 0) g2
          refine Rep.sl b q (fun i => vs.getD (q + i) undef) hl.symm h5 h6 hes (fun _ => rfl) (fun i hi => .inr ⟨rfl, rfl⟩) (fun i hi => ?_) (fun i hi => ?_) (fun i d hd => ?_)
          · obtain ⟨x, q1, q2, q3⟩ := key i _ (List.getElem?_eq_getElem hi)
            rw [hcell, Array.getD_eq_getD_getElem?, q1]; rfl
          · obtain ⟨x, q1, q2, q3⟩ := key i _ (List.getElem?_eq_getElem hi)
            rw [Array.getD_eq_getD_getElem?, q1]; exact q2
          · obtain ⟨x, q1, q2, q3⟩ := key i d hd
            rw [Array.getD_eq_getD_getElem?, q1]
            exact Rep.mono hmono q3
    obtain ⟨D', X, hD', hX, hXp, hm1, hm2⟩ := key
    have hargs : Args w D' (xs.map a.eval) ds := ⟨hlen.trans hz.len, hz.rep hm1 hm2 hlen hrep⟩
    refine wp_enter hrun ((hf.run w D' _ hD' hargs).mono fun e w' h => ?_)
    obtain ⟨v, D2, he, h1, h2, h3⟩ := h
    refine ⟨v, he, v, fun t g i => D2 t g i ∧ ¬ X t g i, rfl, h1, ⟨fun t g i hd => ⟨h2.up _ _ _ ((hX t g i).2 (.inl hd)), fun hx' => (hXp t g i hx').2 t i hd⟩, fun t g i hd => ?_⟩, ?_⟩
    · rcases h2.new t g i hd.1 with h | h
      · rcases (hX t g i).1 h with h | h
        · exact .inl h
        · exact absurd h hd.2
      · exact .inr h
    · exact ha.rep (fun t g i hne hd => ⟨hd, fun hx' => hne (hXp t g i hx').1⟩) h3
end
end Go.Fid
