/- Part 31 of a proof: rules, plain facts, and functions walked. -/
import Derived.Test.YtihgdjljnaekmaaGreatM30
set_option linter.unusedVariables false
set_option linter.unusedSimpArgs false
namespace Go.Fid
def wt (es : List REdge) (t : T3) : List Int := [((t.1 : Nat) : Int), (wkP es t.1 t.2.1 t.2.2).1, (wkP es t.1 t.2.1 t.2.2).2]
abbrev z3 : T3 := (0, 0, 0)
def triIn (es : List REdge) (t : T3) : Prop := t.1 < t.2.1 ∧ t.2.1 < t.2.2 ∧ t.2.2 < es.length ∧ trB es t.1 t.2.1 t.2.2 = true
theorem tris_mem {es : List REdge} {t : T3} : t ∈ tris es ↔ triIn es t := by
  obtain ⟨i, j, k⟩ := t
  unfold tris tAll tMid tIn triIn
  simp only [List.mem_flatMap, List.mem_range]
  constructor
  · rintro ⟨a, ha, b, hb, h⟩
    split at h
    · rename_i hab
      obtain ⟨c, hc, e⟩ := List.mem_map.1 h
      rw [List.mem_filter, Bool.and_eq_true, decide_eq_true_eq, List.mem_range] at hc
      injection e with e1 e; injection e with e2 e3
      subst e1; subst e2; subst e3
      exact ⟨hab, hc.2.1, hc.1, hc.2.2⟩
    · cases h
  · rintro ⟨h1, h2, h3, h4⟩
    have h1 : i < j := h1
    have h2 : j < k := h2
    have h3 : k < es.length := h3
    have h4 : trB es i j k = true := h4
    refine ⟨i, by omega, j, by omega, ?_⟩
    rw [if_pos h1]
    exact List.mem_map.2 ⟨k, by rw [List.mem_filter, Bool.and_eq_true, decide_eq_true_eq, List.mem_range]; exact ⟨h3, h2, h4⟩, rfl⟩
theorem tris_at {es : List REdge} {m : Nat} (h : m < (tris es).length) : triIn es ((tris es).getD m z3) := by
  rw [List.getD_eq_getElem?_getD, List.getElem?_eq_getElem h]; exact tris_mem.1 (List.getElem_mem _)
theorem tris_len {es : List REdge} (h : es.length ≤ 256) : (tris es).length ≤ 16777216 := by
  refine Nat.le_trans (tAll_len es es.length) ?_
  exact Nat.mul_le_mul h (Nat.mul_le_mul h h)
theorem stF_n (es : List REdge) (k : Nat) : stF es ((k : Nat) : Int) = (es.getD k e0).fr ∧ stT es ((k : Nat) : Int) = (es.getD k e0).to_ := by
  have h := st_p (es := es) (k := ((k : Nat) : Int)) (by omega)
  exact ⟨h.1, h.2.1⟩
theorem stF_m (es : List REdge) (k : Nat) : stF es (-1 - ((k : Nat) : Int)) = (es.getD k e0).to_ ∧ stT es (-1 - ((k : Nat) : Int)) = (es.getD k e0).fr := by
  have h := st_n (es := es) (k := (-1 - ((k : Nat) : Int))) (by omega)
  rw [show (-1 - (-1 - ((k : Nat) : Int))).toNat = k by omega] at h
  exact ⟨h.1, h.2.1⟩
theorem alI_or (p a k : Int) : alI p a k = k ∨ alI p a k = -1 - k := by
  unfold alI; split
  · exact .inl rfl
  · exact .inr rfl
theorem wk_cases {es : List REdge} {t : T3} : ∃ j k : Nat, (j = t.2.1 ∧ k = t.2.2 ∨ j = t.2.2 ∧ k = t.2.1) ∧ ((wkP es t.1 t.2.1 t.2.2).1 = ((j : Nat) : Int) ∨ (wkP es t.1 t.2.1 t.2.2).1 = -1 - ((j : Nat) : Int)) ∧ ((wkP es t.1 t.2.1 t.2.2).2 = ((k : Nat) : Int) ∨ (wkP es t.1 t.2.1 t.2.2).2 = -1 - ((k : Nat) : Int)) := by
  unfold wkP pWk
  split
  · exact ⟨t.2.1, t.2.2, .inl ⟨rfl, rfl⟩, alI_or _ _ _, alI_or _ _ _⟩
  · exact ⟨t.2.2, t.2.1, .inr ⟨rfl, rfl⟩, alI_or _ _ _, alI_or _ _ _⟩
theorem wt_in {es : List REdge} {t : T3} (h : triIn es t) : wIn es (wt es t) := by
  obtain ⟨h1, h2, h3, _⟩ := h
  obtain ⟨j, k, hjk, e1, e2⟩ := wk_cases (es := es) (t := t)
  intro x hx
  unfold wt at hx
  unfold inE
  simp only [List.mem_cons, List.not_mem_nil, or_false] at hx
  rcases hx with rfl | rfl | rfl
  · omega
  · rcases e1 with e | e <;> rw [e] <;> omega
  · rcases e2 with e | e <;> rw [e] <;> omega
theorem tr_cl {a b p q r s : Int} (hab : a ≠ b) (hpq : p ≠ q) (hrs : r ≠ s) (h : pTr a b p q r s = true) :
    (hsB p q b = true → (if p = b then True else q = b) ∧ (if r = p + q - b then True else s = p + q - b) ∧ (if r = p + q - b then s else r) = a) ∧
    (hsB p q b = false → (if r = b then True else s = b) ∧ (if r = b then s else r) = p + q - a ∧ (if p = p + q - a then True else q = p + q - a) ∧ (if p = p + q - a then q else p) = a) := by
  unfold pTr jnB hsB at *
  simp only [Bool.or_eq_true, Bool.and_eq_true, beq_iff_eq, Bool.or_eq_false_iff, beq_eq_false_iff_ne] at h ⊢
  refine ⟨fun hb => ⟨?_, ?_, ?_⟩, fun hb => ⟨?_, ?_, ?_, ?_⟩⟩ <;> grind (splits := 20)
theorem stF_al (es : List REdge) (a : Int) (k : Nat) : stF es (alI (es.getD k e0).fr a ((k : Nat) : Int)) = (if (es.getD k e0).fr = a then (es.getD k e0).fr else (es.getD k e0).to_) ∧ stT es (alI (es.getD k e0).fr a ((k : Nat) : Int)) = (if (es.getD k e0).fr = a then (es.getD k e0).to_ else (es.getD k e0).fr) := by
  unfold alI
  split
  · exact stF_n es k
  · exact stF_m es k
theorem gt3 (a b c : Int) : [a, b, c].getD ((2 + 1) % [a, b, c].length) 0 = a := by
  simp only [List.length_cons, List.length_nil]; rfl
theorem wt_cl {n : Nat} {es : List REdge} {t : T3} (he : EsOk n es) (h : triIn es t) : clP es (wt es t) := by
  obtain ⟨h1, h2, h3, h4⟩ := h
  have n1 := (eget he (k := t.1) (by omega)).ne
  have n2 := (eget he (k := t.2.1) (by omega)).ne
  have n3 := (eget he (k := t.2.2) h3).ne
  have hc := tr_cl n1 n2 n3 h4
  have f1 := stF_n es t.1
  intro i hi
  have hi : i < 3 := hi
  have hwk : wkP es t.1 t.2.1 t.2.2 = pWk (es.getD t.1 e0).fr (es.getD t.1 e0).to_ (es.getD t.2.1 e0).fr (es.getD t.2.1 e0).to_ (es.getD t.2.2 e0).fr (es.getD t.2.2 e0).to_ ((t.2.1 : Nat) : Int) ((t.2.2 : Nat) : Int) := rfl
  unfold pWk at hwk
  cases hb : hsB (es.getD t.2.1 e0).fr (es.getD t.2.1 e0).to_ (es.getD t.1 e0).to_ with
  | true =>
    rw [if_pos hb] at hwk
    obtain ⟨c1, c2, c3⟩ := hc.1 hb
    have g1 := stF_al es (es.getD t.1 e0).to_ t.2.1
    have g2 := stF_al es ((es.getD t.2.1 e0).fr + (es.getD t.2.1 e0).to_ - (es.getD t.1 e0).to_) t.2.2
    have w1 : wt es t = [((t.1 : Nat) : Int), alI (es.getD t.2.1 e0).fr (es.getD t.1 e0).to_ ((t.2.1 : Nat) : Int), alI (es.getD t.2.2 e0).fr ((es.getD t.2.1 e0).fr + (es.getD t.2.1 e0).to_ - (es.getD t.1 e0).to_) ((t.2.2 : Nat) : Int)] := by unfold wt; rw [hwk]
    rw [w1]
    rcases show i = 0 ∨ i = 1 ∨ i = 2 by omega with rfl | rfl | rfl
    · exact g1.1.trans ((show _ = (es.getD t.1 e0).to_ by grind).trans f1.2.symm)
    · exact g2.1.trans (Eq.trans (by grind) g1.2.symm)
    · exact (congrArg (stF es) (gt3 _ _ _)).trans (f1.1.trans (Eq.trans (by grind) g2.2.symm))
  | false =>
    rw [if_neg (by rw [hb]; decide)] at hwk
    obtain ⟨c1, c2, c3, c4⟩ := hc.2 hb
    have g1 := stF_al es (es.getD t.1 e0).to_ t.2.2
    have g2 := stF_al es ((es.getD t.2.1 e0).fr + (es.getD t.2.1 e0).to_ - (es.getD t.1 e0).fr) t.2.1
    have w1 : wt es t = [((t.1 : Nat) : Int), alI (es.getD t.2.2 e0).fr (es.getD t.1 e0).to_ ((t.2.2 : Nat) : Int), alI (es.getD t.2.1 e0).fr ((es.getD t.2.1 e0).fr + (es.getD t.2.1 e0).to_ - (es.getD t.1 e0).fr) ((t.2.1 : Nat) : Int)] := by unfold wt; rw [hwk]
    rw [w1]
    rcases show i = 0 ∨ i = 1 ∨ i = 2 by omega with rfl | rfl | rfl
    · exact g1.1.trans ((show _ = (es.getD t.1 e0).to_ by grind).trans f1.2.symm)
    · exact g2.1.trans (Eq.trans (by grind) g1.2.symm)
    · exact (congrArg (stF es) (gt3 _ _ _)).trans (f1.1.trans (Eq.trans (by grind) g2.2.symm))
theorem wkL_wt {es : List REdge} {t : T3} (h : triIn es t) : wkL es t.1 t.2.1 t.2.2 = wt es t := if_pos h.2.2.2
theorem wt_ard {n : Nat} {es : List REdge} {t : T3} (he : EsOk n es) (h : triIn es t) : ardC es (wt es t) = aroC es (wt es t) ∧ ardV es (wt es t) = aroV es (wt es t) := ard_y (show ¬ 256 < 3 by decide) (wt_in h) (wt_cl he h)
theorem aro_ok {es : List REdge} {ws : List Int} (ht : Tok es) (hw : wIn es ws) (h : aroC es ws = 0) : Qok (aroV es ws) := by
  have hok : arOk es ws := by
    unfold aroC at h
    split at h
    · assumption
    · cases h
  unfold aroV
  rw [if_pos hok]
  exact arV_ok ht hw (Nat.le_refl _) hok
def gnS (p q : Rat) : Int := if 0 < cmpQ q p then -1 else 1
def gnT (p : Rat) (es : List REdge) (t : T3) : Int := gnS p (chQ q1 (aroV es (wt es t)))
def vA (v : List Int) (k : Nat) (g : Int) : List Int := v.set k (v.getD k 0 + g)
def vT (v : List Int) (t : T3) (g : Int) : List Int := vA (vA (vA v t.1 g) t.2.1 g) t.2.2 g
def vts (p : Rat) (es : List REdge) (l : List T3) : List Int := l.foldl (fun v t => vT v t (gnT p es t)) (List.replicate es.length 0)
def seOk (es : List REdge) : Prop := ∀ t ∈ tris es, aroC es (wt es t) = 0
instance (es : List REdge) : Decidable (seOk es) := List.decidableBAll _ _
def seC (es : List REdge) : Nat := if seOk es then 0 else 3
def VB (b : Int) (v : List Int) : Prop := ∀ j, -b ≤ v.getD j 0 ∧ v.getD j 0 ≤ b
theorem VB_0 (n : Nat) : VB 0 (List.replicate n 0) := fun j => by
  rw [List.getD_eq_getElem?_getD, List.getElem?_replicate]; split <;> simp
theorem gnS_01 (p q : Rat) : gnS p q = 1 ∨ gnS p q = -1 := by unfold gnS; split <;> simp
theorem VB_s {b : Int} {v : List Int} {g : Int} (h : VB b v) (hg : g = 1 ∨ g = -1) (k : Nat) : VB (b + 1) (v.set k (v.getD k 0 + g)) := fun j => by
  have h1 := h j; have h2 := h k
  by_cases e : k = j
  · subst e
    by_cases hk : k < v.length
    · rw [List.getD_eq_getElem?_getD, List.getElem?_set_self hk, Option.getD_some]; omega
    · rw [List.set_eq_of_length_le (by omega)]; omega
  · rw [List.getD_eq_getElem?_getD, List.getElem?_set_ne e, ← List.getD_eq_getElem?_getD]; omega
theorem VB_w {b : Int} {v : List Int} {g : Int} (h : VB b v) (hg : g = 1 ∨ g = -1) (hb : b ≤ 100000000) (k : Nat) : -9223372036854775808 ≤ v.getD k 0 + g ∧ v.getD k 0 + g ≤ 9223372036854775807 := by
  have := h k; omega
theorem vts_s {p : Rat} {es : List REdge} {m : Nat} (h : m < (tris es).length) : vts p es ((tris es).take (m + 1)) = vT (vts p es ((tris es).take m)) ((tris es).getD m z3) (gnT p es ((tris es).getD m z3)) := by
  unfold vts
  rw [List.take_succ_eq_append_getElem h, List.foldl_append, List.getD_eq_getElem?_getD, List.getElem?_eq_getElem h]; rfl
theorem vA_len (v : List Int) (k : Nat) (g : Int) : (vA v k g).length = v.length := by simp [vA]
theorem vts_len (p : Rat) (es : List REdge) (l : List T3) : (vts p es l).length = es.length := by
  unfold vts
  have : ∀ (l : List T3) (v : List Int), v.length = es.length → (l.foldl (fun v t => vT v t (gnT p es t)) v).length = es.length := by
    intro l
    induction l with
    | nil => intro v h; exact h
    | cons t l ih => intro v h; exact ih _ (by unfold vT; simp only [vA_len]; exact h)
  exact this l _ (by simp)
def seUp (es : List REdge) (m : Nat) : Prop := ∀ i, i < m → aroC es (wt es ((tris es).getD i z3)) = 0
theorem seUp_0 (es : List REdge) : seUp es 0 := fun i hi => by omega
theorem seUp_s {es : List REdge} {m : Nat} (h : seUp es m) (h1 : aroC es (wt es ((tris es).getD m z3)) = 0) : seUp es (m + 1) := fun i hi => by
  by_cases e : i = m
  · subst e; exact h1
  · exact h i (by omega)
theorem se_no {es : List REdge} {m : Nat} (hm : m < (tris es).length) (h : aroC es (wt es ((tris es).getD m z3)) ≠ 0) : seC es = 3 ∧ aroC es (wt es ((tris es).getD m z3)) = 3 := by
  have hn : ¬ seOk es := fun e => h (e _ (by rw [List.getD_eq_getElem?_getD, List.getElem?_eq_getElem hm]; exact List.getElem_mem _))
  refine ⟨if_neg hn, ?_⟩
  unfold aroC at h ⊢
  split
  · rename_i e; rw [if_pos e] at h; exact absurd rfl h
  · rfl
theorem se_yes {es : List REdge} {m : Nat} (hm : m = (tris es).length) (h : seUp es m) : seC es = 0 := by
  refine if_pos fun t ht => ?_
  obtain ⟨i, hi, rfl⟩ := List.getElem_of_mem ht
  have := h i (by omega)
  rwa [List.getD_eq_getElem?_getD, List.getElem?_eq_getElem hi, Option.getD_some] at this
def selU (v : List Int) (k : Nat) : List Int := ((List.range k).filter fun i => decide (0 ≤ v.getD i 0)).map fun i => ((i : Nat) : Int)
def selL (v : List Int) : List Int := selU v v.length
theorem selU_y {v : List Int} {k : Nat} (h : 0 ≤ v.getD k 0) : selU v (k + 1) = selU v k ++ [((k : Nat) : Int)] := by
  unfold selU; rw [List.range_succ, List.filter_append, List.map_append]; simp only [List.filter_cons, List.filter_nil, decide_eq_true h, if_true]; rfl
theorem selU_n {v : List Int} {k : Nat} (h : ¬ 0 ≤ v.getD k 0) : selU v (k + 1) = selU v k := by
  unfold selU; rw [List.range_succ, List.filter_append, List.map_append]; simp only [List.filter_cons, List.filter_nil, decide_eq_false h, Bool.false_eq_true, if_false, List.map_nil, List.append_nil]
theorem selU_len (v : List Int) (k : Nat) : (selU v k).length ≤ k := by
  unfold selU; rw [List.length_map]; exact Nat.le_trans (List.length_filter_le _ _) (by simp)
def slB (p : Rat) : Bool := decide (signQ p < 0) || decide (0 < cmpQ p ((1 : Int) : Rat))
def sldC (es : List REdge) (x : RRat) (p : Rat) : Nat := if validR x = true then (if slB p = true then 2 else seC es) else 1
def sldV (es : List REdge) (x : RRat) (p : Rat) : List Int := okL (sldC es x p) (selL (vts p es (tris es)))
def slC (z : Int) (es : List REdge) (x : RRat) (p : Rat) : Nat := okC (lopC z es) (sldC es x p)
def slV (z : Int) (es : List REdge) (x : RRat) (p : Rat) : List Int := okL (lopC z es) (sldV es x p)
theorem sld_1 {es : List REdge} {x : RRat} {p : Rat} (h : validR x = false) : sldC es x p = 1 ∧ sldV es x p = [] := by
  have e : sldC es x p = 1 := if_neg (by rw [h]; decide)
  exact ⟨e, okL_n (by rw [e]; decide)⟩
theorem sld_2 {es : List REdge} {x : RRat} {p : Rat} (h : validR x = true) (h2 : slB p = true) : sldC es x p = 2 ∧ sldV es x p = [] := by
  have e : sldC es x p = 2 := (if_pos h).trans (if_pos h2)
  exact ⟨e, okL_n (by rw [e]; decide)⟩
theorem sld_3 {es : List REdge} {x : RRat} {p : Rat} (h : validR x = true) (h2 : slB p = false) (h3 : seC es = 3) : sldC es x p = 3 ∧ sldV es x p = [] := by
  have e : sldC es x p = 3 := (if_pos h).trans ((if_neg (by rw [h2]; decide)).trans h3)
  exact ⟨e, okL_n (by rw [e]; decide)⟩
theorem sld_0 {es : List REdge} {x : RRat} {p : Rat} (h : validR x = true) (h2 : slB p = false) (h3 : seC es = 0) : sldC es x p = 0 ∧ sldV es x p = selL (vts p es (tris es)) := by
  have e : sldC es x p = 0 := (if_pos h).trans ((if_neg (by rw [h2]; decide)).trans h3)
  exact ⟨e, okL_0 e⟩
end Go.Fid
