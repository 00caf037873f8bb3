/- Part 28 of a proof: rules, plain facts, and functions walked. -/
import Derived.Test.YtihgdjljnaekmaaGreatM27
set_option linter.unusedVariables false
set_option linter.unusedSimpArgs false
namespace Go.Fid
def okL {α : Type} (c : Nat) (l : List α) : List α := if c = 0 then l else []
def okC (c d : Nat) : Nat := if c = 0 then d else c
theorem okL_0 {α : Type} {c : Nat} {l : List α} (h : c = 0) : okL c l = l := if_pos h
theorem okL_n {α : Type} {c : Nat} {l : List α} (h : c ≠ 0) : okL c l = [] := if_neg h
theorem fM {c d : Nat} (h : c = 0) : okC c d = d := if_pos h
theorem okC_n {c d : Nat} (h : c ≠ 0) : okC c d = c := if_neg h
def ebt (ts : List jB) (x : jC) : jB := kB (qV (uD (qZ ts x.to_.toNat))) (qZ ts x.fr.toNat)
def erX (ts : List jB) (x : jC) : Rat := chQ x.turn (qV (ebt ts x))
def erOk (es : List jC) (ts : List jB) : Prop := ∀ x ∈ es, qC (ebt ts x) = 0
instance (es : List jC) (ts : List jB) : Decidable (erOk es ts) := List.decidableBAll _ _
def erL (es : List jC) (ts : List jB) : List Rat := if erOk es ts then es.map (erX ts) else []
def erC (es : List jC) (ts : List jB) : Nat := if erOk es ts then 0 else 3
def erUp (es : List jC) (ts : List jB) (k : Nat) : Prop := ∀ i, i < k → qC (ebt ts (es.getD i e0)) = 0
def TsOk (n : Nat) (ts : List jB) : Prop := ts.length = n ∧ ∀ q ∈ ts, cQ q
section
variable {n : Nat} {es : List jC} {ts : List jB}
theorem TsOk.at (h : TsOk n ts) {j : Nat} (hj : j < n) : cQ (qZ ts j) := by
  unfold qZ
  rw [List.getD_eq_getElem?_getD, List.getElem?_eq_getElem (by rw [h.1]; exact hj)]
  exact h.2 _ (List.getElem_mem _)
theorem ebt_nz (ht : TsOk n ts) (he : vS n es) {k : Nat} (hk : k < es.length) : eO (ebt ts (es.getD k e0)) := by
  have hx := mY he hk
  have x0 := hx.f0; have x1 := hx.f1; have x2 := hx.t0; have x3 := hx.t1
  have h1 := ht.at (j := (es.getD k e0).to_.toNat) (by omega)
  have h2 := ht.at (j := (es.getD k e0).fr.toNat) (by omega)
  exact xB (gU (xK h1.1) (gL h1)).1 h2.1
theorem erUp_0 (es : List jC) (ts : List jB) : erUp es ts 0 := fun i hi => by omega
theorem erUp_s {k : Nat} (h : erUp es ts k) (h1 : qC (ebt ts (es.getD k e0)) = 0) : erUp es ts (k + 1) := fun i hi => by
  by_cases e : i = k
  · subst e; exact h1
  · exact h i (by omega)
theorem mem_getD {k : Nat} (hk : k < es.length) : es.getD k e0 ∈ es := by
  rw [List.getD_eq_getElem?_getD, List.getElem?_eq_getElem hk]; exact List.getElem_mem _
theorem er_no {k : Nat} (hk : k < es.length) (h : qC (ebt ts (es.getD k e0)) ≠ 0) : erL es ts = [] ∧ erC es ts = 3 ∧ qC (ebt ts (es.getD k e0)) = 3 := by
  have hn : ¬ erOk es ts := fun e => h (e _ (mem_getD hk))
  exact ⟨if_neg hn, if_neg hn, (qC_01 _).resolve_left h⟩
theorem er_yes {k : Nat} (hk : k = es.length) (h : erUp es ts k) : erL es ts = (es.take k).map (erX ts) ∧ erC es ts = 0 ∧ erOk es ts := by
  have hn : erOk es ts := fun x hx => by
    obtain ⟨i, hi, rfl⟩ := List.getElem_of_mem hx
    have := h i (by omega)
    rwa [List.getD_eq_getElem?_getD, List.getElem?_eq_getElem hi] at this
  subst hk
  exact ⟨by rw [List.take_length]; exact if_pos hn, if_pos hn, hn⟩
end
def rqC (q : jB) : Nat := yT q.a q.b q.c q.d
def alS (es : List jC) (ts : List jB) : Bool := es.all fun x => eY (qV (ebt ts x)) x.turn
def cnC (n : Nat) (es : List jC) : Nat := okC (yH n es) (erC es (uL n es))
def cnV (n : Nat) (es : List jC) : Bool := if cnC n es = 0 then alS es (uL n es) else false
def eT (z : Int) (es : List jC) : Nat := okC (qO z es) (cnC z.toNat es)
def conV (z : Int) (es : List jC) : Bool := if qO z es = 0 then cnV z.toNat es else false
theorem cn_1 {n : Nat} {es : List jC} (h : yH n es ≠ 0) : cnC n es = yH n es ∧ cnV n es = false := by
  have e : cnC n es = yH n es := okC_n h
  exact ⟨e, if_neg (by rw [e]; exact h)⟩
theorem cn_2 {n : Nat} {es : List jC} (h : yH n es = 0) (h2 : erC es (uL n es) ≠ 0) : cnC n es = erC es (uL n es) ∧ cnV n es = false := by
  have e : cnC n es = erC es (uL n es) := fM h
  exact ⟨e, if_neg (by rw [e]; exact h2)⟩
theorem cn_3 {n : Nat} {es : List jC} (h : yH n es = 0) (h2 : erC es (uL n es) = 0) : cnC n es = 0 ∧ cnV n es = alS es (uL n es) := by
  have e : cnC n es = 0 := (fM h).trans h2
  exact ⟨e, if_pos e⟩
theorem con_n {z : Int} {es : List jC} (h : qO z es ≠ 0) : eT z es = qO z es ∧ conV z es = false := ⟨okC_n h, if_neg h⟩
theorem con_0 {z : Int} {es : List jC} (h : qO z es = 0) : eT z es = cnC z.toNat es ∧ conV z es = cnV z.toNat es := ⟨fM h, if_pos h⟩
theorem abs_ok {n : Nat} {es : List jC} (h : vS n es) (hc : yH n es = 0) : TsOk n (uL n es) := by
  have hf : aFit n es := by
    unfold yH at hc
    split at hc
    · assumption
    · cases hc
  have he : uL n es = (List.range n).map fun j => zV (aV n es j) := if_pos hf
  rw [he]
  refine ⟨by simp, fun q hq => ?_⟩
  obtain ⟨j, hj, rfl⟩ := List.mem_map.1 hq
  exact ⟨qcan_nz (fJ h j), hf j (List.mem_range.1 hj)⟩
theorem abs_n {n : Nat} {es : List jC} (hc : yH n es ≠ 0) : uL n es = [] ∧ yH n es = 3 := by
  have hf : ¬ aFit n es := fun hf => hc (if_pos hf)
  exact ⟨if_neg hf, if_neg hf⟩
theorem alS_take {es : List jC} {ts : List jB} {k : Nat} (hk : k < es.length) : alS (es.take (k + 1)) ts = (alS (es.take k) ts && eY (qV (ebt ts (es.getD k e0))) (es.getD k e0).turn) := by
  unfold alS
  rw [List.take_add_one, List.getElem?_eq_getElem hk, List.getD_eq_getElem?_getD, List.getElem?_eq_getElem hk, List.all_append]; simp
end Go.Fid
set_option linter.unusedVariables false
set_option linter.unusedSimpArgs false
namespace Go.Fid
def wt (es : List jC) (t : T3) : List Int := [((t.1 : Nat) : Int), (dV es t.1 t.2.1 t.2.2).1, (dV es t.1 t.2.1 t.2.2).2]
abbrev z3 : T3 := (0, 0, 0)
def triIn (es : List jC) (t : T3) : Prop := t.1 < t.2.1 ∧ t.2.1 < t.2.2 ∧ t.2.2 < es.length ∧ trB es t.1 t.2.1 t.2.2 = true
theorem tris_mem {es : List jC} {t : T3} : t ∈ jU es ↔ triIn es t := by
  obtain ⟨i, j, k⟩ := t
  unfold jU tAll tMid tIn triIn
  simp only [List.mem_flatMap, List.mem_range]
  constructor
  · rintro ⟨a, ha, b, hb, h⟩
    split at h
    · rename_i hab
      obtain ⟨c, hc, e⟩ := List.mem_map.1 h
      rw [List.mem_filter, Bool.and_eq_true, decide_eq_true_eq, List.mem_range] at hc
      injection e with e1 e; injection e with e2 e3
      subst e1; subst e2; subst e3
      exact ⟨hab, hc.2.1, hc.1, hc.2.2⟩
    · cases h
  · rintro ⟨h1, h2, h3, h4⟩
    have h1 : i < j := h1
    have h2 : j < k := h2
    have h3 : k < es.length := h3
    have h4 : trB es i j k = true := h4
    refine ⟨i, by omega, j, by omega, ?_⟩
    rw [if_pos h1]
    exact List.mem_map.2 ⟨k, by rw [List.mem_filter, Bool.and_eq_true, decide_eq_true_eq, List.mem_range]; exact ⟨h3, h2, h4⟩, rfl⟩
theorem tris_at {es : List jC} {m : Nat} (h : m < (jU es).length) : triIn es ((jU es).getD m z3) := by
  rw [List.getD_eq_getElem?_getD, List.getElem?_eq_getElem h]; exact tris_mem.1 (List.getElem_mem _)
theorem tris_len {es : List jC} (h : es.length ≤ 256) : (jU es).length ≤ 16777216 := by
  refine Nat.le_trans (tAll_len es es.length) ?_
  exact Nat.mul_le_mul h (Nat.mul_le_mul h h)
theorem alI_or (p a k : Int) : alI p a k = k ∨ alI p a k = -1 - k := by
  unfold alI; split
  · exact .inl rfl
  · exact .inr rfl
theorem wk_cases {es : List jC} {t : T3} : ∃ j k : Nat, (j = t.2.1 ∧ k = t.2.2 ∨ j = t.2.2 ∧ k = t.2.1) ∧ ((dV es t.1 t.2.1 t.2.2).1 = ((j : Nat) : Int) ∨ (dV es t.1 t.2.1 t.2.2).1 = -1 - ((j : Nat) : Int)) ∧ ((dV es t.1 t.2.1 t.2.2).2 = ((k : Nat) : Int) ∨ (dV es t.1 t.2.1 t.2.2).2 = -1 - ((k : Nat) : Int)) := by
  unfold dV pWk
  split
  · exact ⟨t.2.1, t.2.2, .inl ⟨rfl, rfl⟩, alI_or _ _ _, alI_or _ _ _⟩
  · exact ⟨t.2.2, t.2.1, .inr ⟨rfl, rfl⟩, alI_or _ _ _, alI_or _ _ _⟩
theorem wt_in {es : List jC} {t : T3} (h : triIn es t) : wIn es (wt es t) := by
  obtain ⟨h1, h2, h3, _⟩ := h
  obtain ⟨j, k, hjk, e1, e2⟩ := wk_cases (es := es) (t := t)
  intro x hx
  unfold wt at hx
  unfold inE
  simp only [List.mem_cons, List.not_mem_nil, or_false] at hx
  rcases hx with rfl | rfl | rfl
  · omega
  · rcases e1 with e | e <;> rw [e] <;> omega
  · rcases e2 with e | e <;> rw [e] <;> omega
theorem aro_ok {es : List jC} {ws : List Int} (ht : Tok es) (hw : wIn es ws) (h : cY es ws = 0) : cQ (aroV es ws) := by
  have hok : arOk es ws := by
    unfold cY at h
    split at h
    · assumption
    · cases h
  unfold aroV
  rw [if_pos hok]
  exact arV_ok ht hw (Nat.le_refl _) hok
def gnS (p q : Rat) : Int := if 0 < cmpQ q p then -1 else 1
def gnT (p : Rat) (es : List jC) (t : T3) : Int := gnS p (chQ q1 (aroV es (wt es t)))
def vA (v : List Int) (k : Nat) (g : Int) : List Int := v.set k (v.getD k 0 + g)
def vT (v : List Int) (t : T3) (g : Int) : List Int := vA (vA (vA v t.1 g) t.2.1 g) t.2.2 g
def vts (p : Rat) (es : List jC) (l : List T3) : List Int := l.foldl (fun v t => vT v t (gnT p es t)) (List.replicate es.length 0)
def seOk (es : List jC) : Prop := ∀ t ∈ jU es, cY es (wt es t) = 0
instance (es : List jC) : Decidable (seOk es) := List.decidableBAll _ _
def seC (es : List jC) : Nat := if seOk es then 0 else 3
def VB (b : Int) (v : List Int) : Prop := ∀ j, -b ≤ v.getD j 0 ∧ v.getD j 0 ≤ b
theorem VB_0 (n : Nat) : VB 0 (List.replicate n 0) := fun j => by
  rw [List.getD_eq_getElem?_getD, List.getElem?_replicate]; split <;> simp
theorem gnS_01 (p q : Rat) : gnS p q = 1 ∨ gnS p q = -1 := by unfold gnS; split <;> simp
theorem VB_s {b : Int} {v : List Int} {g : Int} (h : VB b v) (hg : g = 1 ∨ g = -1) (k : Nat) : VB (b + 1) (v.set k (v.getD k 0 + g)) := fun j => by
  have h1 := h j; have h2 := h k
  by_cases e : k = j
  · subst e
    by_cases hk : k < v.length
    · rw [List.getD_eq_getElem?_getD, List.getElem?_set_self hk, Option.getD_some]; omega
    · rw [List.set_eq_of_length_le (by omega)]; omega
  · rw [List.getD_eq_getElem?_getD, List.getElem?_set_ne e, ← List.getD_eq_getElem?_getD]; omega
theorem VB_w {b : Int} {v : List Int} {g : Int} (h : VB b v) (hg : g = 1 ∨ g = -1) (hb : b ≤ 100000000) (k : Nat) : -9223372036854775808 ≤ v.getD k 0 + g ∧ v.getD k 0 + g ≤ 9223372036854775807 := by
  have := h k; omega
theorem vts_s {p : Rat} {es : List jC} {m : Nat} (h : m < (jU es).length) : vts p es ((jU es).take (m + 1)) = vT (vts p es ((jU es).take m)) ((jU es).getD m z3) (gnT p es ((jU es).getD m z3)) := by
  unfold vts
  rw [List.take_succ_eq_append_getElem h, List.foldl_append, List.getD_eq_getElem?_getD, List.getElem?_eq_getElem h]; rfl
theorem vA_len (v : List Int) (k : Nat) (g : Int) : (vA v k g).length = v.length := by simp [vA]
theorem vts_len (p : Rat) (es : List jC) (l : List T3) : (vts p es l).length = es.length := by
  unfold vts
  have : ∀ (l : List T3) (v : List Int), v.length = es.length → (l.foldl (fun v t => vT v t (gnT p es t)) v).length = es.length := by
    intro l
    induction l with
    | nil => intro v h; exact h
    | cons t l ih => intro v h; exact ih _ (by unfold vT; simp only [vA_len]; exact h)
  exact this l _ (by simp)
def seUp (es : List jC) (m : Nat) : Prop := ∀ i, i < m → cY es (wt es ((jU es).getD i z3)) = 0
theorem seUp_0 (es : List jC) : seUp es 0 := fun i hi => by omega
theorem seUp_s {es : List jC} {m : Nat} (h : seUp es m) (h1 : cY es (wt es ((jU es).getD m z3)) = 0) : seUp es (m + 1) := fun i hi => by
  by_cases e : i = m
  · subst e; exact h1
  · exact h i (by omega)
theorem se_no {es : List jC} {m : Nat} (hm : m < (jU es).length) (h : cY es (wt es ((jU es).getD m z3)) ≠ 0) : seC es = 3 ∧ cY es (wt es ((jU es).getD m z3)) = 3 := by
  have hn : ¬ seOk es := fun e => h (e _ (by rw [List.getD_eq_getElem?_getD, List.getElem?_eq_getElem hm]; exact List.getElem_mem _))
  refine ⟨if_neg hn, ?_⟩
  unfold cY at h ⊢
  split
  · rename_i e; rw [if_pos e] at h; exact absurd rfl h
  · rfl
theorem se_yes {es : List jC} {m : Nat} (hm : m = (jU es).length) (h : seUp es m) : seC es = 0 := by
  refine if_pos fun t ht => ?_
  obtain ⟨i, hi, rfl⟩ := List.getElem_of_mem ht
  have := h i (by omega)
  rwa [List.getD_eq_getElem?_getD, List.getElem?_eq_getElem hi, Option.getD_some] at this
def selU (v : List Int) (k : Nat) : List Int := ((List.range k).filter fun i => decide (0 ≤ v.getD i 0)).map fun i => ((i : Nat) : Int)
def selL (v : List Int) : List Int := selU v v.length
theorem selU_y {v : List Int} {k : Nat} (h : 0 ≤ v.getD k 0) : selU v (k + 1) = selU v k ++ [((k : Nat) : Int)] := by
  unfold selU; rw [List.range_succ, List.filter_append, List.map_append]; simp only [List.filter_cons, List.filter_nil, decide_eq_true h, if_true]; rfl
theorem selU_n {v : List Int} {k : Nat} (h : ¬ 0 ≤ v.getD k 0) : selU v (k + 1) = selU v k := by
  unfold selU; rw [List.range_succ, List.filter_append, List.map_append]; simp only [List.filter_cons, List.filter_nil, decide_eq_false h, Bool.false_eq_true, if_false, List.map_nil, List.append_nil]
theorem selU_len (v : List Int) (k : Nat) : (selU v k).length ≤ k := by
  unfold selU; rw [List.length_map]; exact Nat.le_trans (List.length_filter_le _ _) (by simp)
def slB (p : Rat) : Bool := decide (signQ p < 0) || decide (0 < cmpQ p ((1 : Int) : Rat))
def sldC (es : List jC) (x : uG) (p : Rat) : Nat := if xS x = true then (if slB p = true then 2 else seC es) else 1
def sldV (es : List jC) (x : uG) (p : Rat) : List Int := okL (sldC es x p) (selL (vts p es (jU es)))
def slC (z : Int) (es : List jC) (x : uG) (p : Rat) : Nat := okC (qO z es) (sldC es x p)
def slV (z : Int) (es : List jC) (x : uG) (p : Rat) : List Int := okL (qO z es) (sldV es x p)
theorem sld_1 {es : List jC} {x : uG} {p : Rat} (h : xS x = false) : sldC es x p = 1 ∧ sldV es x p = [] := by
  have e : sldC es x p = 1 := if_neg (by rw [h]; decide)
  exact ⟨e, okL_n (by rw [e]; decide)⟩
theorem sld_2 {es : List jC} {x : uG} {p : Rat} (h : xS x = true) (h2 : slB p = true) : sldC es x p = 2 ∧ sldV es x p = [] := by
  have e : sldC es x p = 2 := (if_pos h).trans (if_pos h2)
  exact ⟨e, okL_n (by rw [e]; decide)⟩
theorem sld_3 {es : List jC} {x : uG} {p : Rat} (h : xS x = true) (h2 : slB p = false) (h3 : seC es = 3) : sldC es x p = 3 ∧ sldV es x p = [] := by
  have e : sldC es x p = 3 := (if_pos h).trans ((if_neg (by rw [h2]; decide)).trans h3)
  exact ⟨e, okL_n (by rw [e]; decide)⟩
theorem sld_0 {es : List jC} {x : uG} {p : Rat} (h : xS x = true) (h2 : slB p = false) (h3 : seC es = 0) : sldC es x p = 0 ∧ sldV es x p = selL (vts p es (jU es)) := by
  have e : sldC es x p = 0 := (if_pos h).trans ((if_neg (by rw [h2]; decide)).trans h3)
  exact ⟨e, okL_0 e⟩
end Go.Fid
namespace Go.Proofs.YtihgdjljnaekmaaGreat
open Go.Fid
set_option maxRecDepth 4000
set_option linter.unusedVariables false
set_option linter.unusedSimpArgs false
theorem ar70 : arrB Tryz.prog 70 = some (3, 3, 1) := by kernel_rfl
theorem cb124 : callB Tryz.prog 124 = true := by kernel_rfl
theorem cb125 : callB Tryz.prog 125 = true := by kernel_rfl
theorem cb126 : callB Tryz.prog 126 = true := by kernel_rfl
theorem cb127 : callB Tryz.prog 127 = true := by kernel_rfl
def t3 (t : T3) : A3 (Int) := A3.mk ((t.1 : Nat) : Int) ((t.2.1 : Nat) : Int) ((t.2.2 : Nat) : Int)
def w3 (es : List jC) (t : T3) : A3 (Int) := A3.mk ((t.1 : Nat) : Int) (dV es t.1 t.2.1 t.2.2).1 (dV es t.1 t.2.1 t.2.2).2
theorem l_joins (x : jC) (a : Int) (b : Int) : jZ Tryz.prog 124 [(jK x), (.val (.int .i64 (a))), (.val (.int .i64 (b)))] (.val (.bool ((jnB x.fr x.to_ a b)))) := by
 refine jL Tryz.func124 rfl cb124 rfl ?_
 show qS _ _ _ _ ⟨[(0, (.d (jK x))), (1, (vi a)), (2, (vi b))], []⟩
 refine jA <| kx [(3, (.ref 0 0))] [(0, some (bx (jK x)))] (zN (zL 0) <| zM <| zZ) ?_
 refine jA <| kx [(6, (vb (((x.fr == a) && (x.to_ == b)) || ((x.fr == b) && (x.to_ == a)))))] [] ?_ ?_
 ·refine zE (kQ vY) <| zR (kM qA) <| zM <| zE gF <| zE (oV (vb (x.fr == a)) (kP (by kernel_rfl))) <| ?_
  rcases hb1 : (x.fr == a) with _ | _
  ·replace hb1 := ne_of_beq_false hb1
   refine zK <| zK <| zK <| zK <| zE oPf <| zM <| zE (kQ vY) <| zR (kM qA) <| zM <| zE gF <| zE (oV (vb (x.fr == b)) (kP (by kernel_rfl))) <| ?_
   rcases hb2 : (x.fr == b) with _ | _
   ·replace hb2 := ne_of_beq_false hb2
    exact zK <| zK <| zK <| zK <| zE oPf <| zE oPf <| zM <| zZ
   ·replace hb2 := eq_of_beq hb2
    exact zE (kQ xD) <| zR (kM qA) <| zM <| zE gF <| zE oPa <| zE nI <| zM <| zZ
  ·replace hb1 := eq_of_beq hb1
   refine zE (kQ xD) <| zR (kM qA) <| zM <| zE gF <| zE oPa <| zE (oV (vb (true && (x.to_ == b))) (kP (by kernel_rfl))) <| ?_
   rcases hb3 : (true && (x.to_ == b)) with _ | _
   ·refine zE (kQ vY) <| zR (kM qA) <| zM <| zE gF <| zE (oV (vb (x.fr == b)) (kP (by kernel_rfl))) <| ?_
    rcases hb4 : (x.fr == b) with _ | _
    ·replace hb4 := ne_of_beq_false hb4
     exact zK <| zK <| zK <| zK <| zE oPf <| zE oPf <| zM <| zZ
    ·replace hb4 := eq_of_beq hb4
     exact zE (kQ xD) <| zR (kM qA) <| zM <| zE gF <| zE oPa <| zE nI <| zM <| zZ
   ·exact zK <| zK <| zK <| zK <| zK <| zK <| zK <| zK <| zK <| zK <| zE vR <| zM <| zZ
 refine jI ⟨_, (.tmp (d := (.val (.bool ((((x.fr == a) && (x.to_ == b)) || ((x.fr == b) && (x.to_ == a))))))) rfl .nil), ?_⟩
 rfl
theorem l_has (x : jC) (a : Int) : jZ Tryz.prog 125 [(jK x), (.val (.int .i64 (a)))] (.val (.bool ((hsB x.fr x.to_ a)))) := by
 refine jL Tryz.func125 rfl cb125 rfl ?_
 show qS _ _ _ _ ⟨[(0, (.d (jK x))), (1, (vi a))], []⟩
 refine jA <| kx [(2, (.ref 0 0))] [(0, some (bx (jK x)))] (zN (zL 0) <| zM <| zZ) ?_
 refine jA <| kx [(4, (vb ((x.fr == a) || (x.to_ == a))))] [] ?_ ?_
 ·refine zE (kQ vY) <| zR (kM qA) <| zM <| zE gF <| zE (oV (vb (x.fr == a)) (kP (by kernel_rfl))) <| ?_
  rcases hb1 : (x.fr == a) with _ | _
  ·replace hb1 := ne_of_beq_false hb1
   exact zE (kQ xD) <| zR (kM qA) <| zM <| zE gF <| zE nI <| zM <| zZ
  ·replace hb1 := eq_of_beq hb1
   exact zK <| zK <| zK <| zK <| zE vR <| zM <| zZ
 refine jI ⟨_, (.tmp (d := (.val (.bool (((x.fr == a) || (x.to_ == a)))))) rfl .nil), ?_⟩
 rfl
theorem l_other (x : jC) (a : Int) (h1 : -1000 ≤ x.fr ∧ x.fr ≤ 1000) (h2 : -1000 ≤ x.to_ ∧ x.to_ ≤ 1000) (h3 : -1000 ≤ a ∧ a ≤ 1000) : jZ Tryz.prog 126 [(jK x), (.val (.int .i64 (a)))] (.val (.int .i64 ((x.fr + x.to_ - a)))) := by
 refine jL Tryz.func126 rfl cb126 rfl ?_
 show qS _ _ _ _ ⟨[(0, (.d (jK x))), (1, (vi a))], []⟩
 refine jA <| kx [(2, (.ref 0 0))] [(0, some (bx (jK x)))] (zN (zL 0) <| zM <| zZ) ?_
 refine jA <| kx [(4, (vi ((x.fr + x.to_) - a)))] [] (zE (kQ vY) <| zR (kM qA) <| zE (kQ xD) <| zR (kM qA) <| zE (zAd (x.fr + x.to_) (hr := by exact (qK rfl (by simp only [xN]; omega) (by simp only [xO]; omega)))) <| zM <| zE (zSb ((x.fr + x.to_) - a) (hr := by exact (qK rfl (by simp only [xN]; omega) (by simp only [xO]; omega)))) <| zM <| zZ) ?_
 refine jI ⟨_, (.tmp (d := (.val (.int .i64 (((x.fr + x.to_) - a))))) rfl .nil), ?_⟩
 rfl
theorem l_along (es : List jC) (k : Nat) (a : Int) (hk : k < es.length) (hb : es.length ≤ 1000000) : jZ Tryz.prog 127 [(.sl 56 6 (List.map jK es)), (.val (.int .i64 (((k : Nat) : Int)))), (.val (.int .i64 (a)))] (.val (.int .i64 ((alI (es.getD k (jC.mk 0 0 (jB.mk 0 0 0 0))).fr a ((k : Nat) : Int))))) := by
 refine jL Tryz.func127 rfl cb127 rfl ?_
 show qS _ _ _ _ ⟨[(0, (vl 56 6 jK es)), (1, (jQ k)), (2, (vi a))], []⟩
 refine jA <| kx [] [] (zM <| zZ) ?_
 refine jA <| jA <| kx [(13, (vb ((es.getD k (jC.mk 0 0 (jB.mk 0 0 0 0))).fr == a)))] [] (zM <| zM <| zE (yO gQ k (jC.mk 0 0 (jB.mk 0 0 0 0))) <| zE (oFc vY) <| zE (nB qA) <| zM <| zE gF <| zZ) ?_
 refine jG rfl (fun h1 => ?_) (fun h1 => ?_)
 ·replace h1 := eq_of_beq h1
  refine jA <| kx [(6, (jQ k))] [] (zM <| zM <| zZ) ?_
  refine jI ⟨_, (.tmp (d := (.val (.int .i64 (((k : Nat) : Int))))) rfl .nil), ?_⟩
  unfold alI; rw [if_pos h1]; rfl
 ·replace h1 := ne_of_beq_false h1
  refine jF <| jA <| kx [(6, (vi (-1 - ((k : Nat) : Int))))] [] (zM <| zE (zSb (-1 - ((k : Nat) : Int)) (hr := by exact (qK (by first | omega | rfl | (dsimp only; omega)) (by simp only [xN]; omega) (by simp only [xO]; omega)))) <| zM <| zZ) ?_
  refine jI ⟨_, (.tmp (d := (.val (.int .i64 ((-1 - ((k : Nat) : Int)))))) rfl .nil), ?_⟩
  unfold alI; rw [if_neg h1]; rfl
end Go.Proofs.YtihgdjljnaekmaaGreat
namespace Go.Proofs.YtihgdjljnaekmaaGreat
open Go.Fid
set_option maxRecDepth 4000
set_option linter.unusedVariables false
set_option linter.unusedSimpArgs false
theorem by70 : yD Tryz.prog 70 = some 24 := by kernel_rfl
theorem cb72 : callB Tryz.prog 72 = true := by kernel_rfl
theorem el63 : uR Tryz.prog 63 = some (70, 3) := by kernel_rfl
theorem ze70 : vF Tryz.prog 70 = some [.int .i64 0, .int .i64 0, .int .i64 0] := by kernel_rfl
theorem zo70 : mV [.int .i64 0, .int .i64 0, .int .i64 0] [.val (.int .i64 0), .val (.int .i64 0), .val (.int .i64 0)] := by simp [mV, Value.oneCell']
theorem l_tris (es : List jC) (n : Nat) (heo : vS n es) (hn : n ≤ 64) (hl2 : es.length ≤ 256) : jZ Tryz.prog 72 [(.sl 56 6 (List.map jK es))] (.tup [(.sl 70 3 (List.map kU (List.map t3 (jU es)))), (.sl 70 3 (List.map kU (List.map (w3 es) (jU es))))]) := by
 refine jL Tryz.func72 rfl cb72 rfl ?_
 show qS _ _ _ _ ⟨[(0, (vl 56 6 jK es))], []⟩
 refine jA <| kx [(2, (.own 0 70 3 0)), (3, (.own 1 70 3 0))] [(0, some (xY kU [])), (1, some (xY kU []))] (zO 0 70 3 <| zO 1 70 3 <| zZ) ?_
 refine jA <| jA <| kx [(13, (vl 56 6 jK es)), (14, (jQ es.length)), (15, (jQ 0))] [] (zM <| zE (xA gQ) <| zM <| zZ) ?_
 refine jH <| kH (α := Nat × List (A3 (Int)) × List (A3 (Int))) (fun (i, out, wks) => ⟨[(0, (vl 56 6 jK es)), (2, (.own 0 70 3 out.length)), (3, (.own 1 70 3 wks.length)), (13, (vl 56 6 jK es)), (14, (jQ es.length)), (15, (jQ i))], [(0, some (xY kU out)), (1, some (xY kU wks))]⟩) (fun (i, out, wks) => i ≤ es.length ∧ out = List.map t3 (tAll es i) ∧ wks = List.map (w3 es) (tAll es i)) (fun (i, out, wks) => es.length - i) (0, [], []) wk ⟨Nat.zero_le _, rfl, rfl⟩ ?_
 rintro ⟨i, out, wks⟩ ⟨hi, ho, hwk⟩
 refine jA <| kx [(16, (vb (decide (((i : Nat) : Int) < ((es.length : Nat) : Int)))))] [] (zE uP <| zZ) ?_
 refine jA <| jG rfl (fun h1 => ?_) (fun h1 => ?_)
 ·replace h1 := of_decide_eq_true h1
  have hei : EOkE n (es.getD i (jC.mk 0 0 (jB.mk 0 0 0 0))) := mY heo (k := i) (by omega)
  obtain ⟨hei1, hei2, hei3, hei4, hei5, _⟩ := id hei
  refine jF <| jA <| jH <| jA <| kx [(4, (jQ i)), (5, (.ref 2 0))] [(2, some (bx (jK (es.getD i (jC.mk 0 0 (jB.mk 0 0 0 0))))))] (zM <| zE (yO gQ i (jC.mk 0 0 (jB.mk 0 0 0 0))) <| zE (eN hP) <| zH (uQ 2 fK zo56) <| zM <| zT (kZ hP) <| zZ) ?_
  refine pwp_scope ?_
  refine jA <| pwp_label ?_
  refine jA <| kx [(6, (jQ (i + 1)))] [] (zM <| zE (qQ (i + 1)) <| zM <| zZ) ?_
  refine jH <| kH (α := Nat × List (A3 (Int)) × List (A3 (Int))) (fun (j, out, wks) => ⟨[(0, (vl 56 6 jK es)), (2, (.own 0 70 3 out.length)), (3, (.own 1 70 3 wks.length)), (4, (jQ i)), (5, (.ref 2 0)), (6, (jQ j)), (13, (vl 56 6 jK es)), (14, (jQ es.length)), (15, (jQ i))], [(0, some (xY kU out)), (1, some (xY kU wks)), (2, some (bx (jK (es.getD i (jC.mk 0 0 (jB.mk 0 0 0 0))))))]⟩) (fun (j, out, wks) => i < j ∧ j ≤ es.length ∧ out = List.map t3 (tAll es i ++ tMid es i j) ∧ wks = List.map (w3 es) (tAll es i ++ tMid es i j)) (fun (j, out, wks) => es.length - j) (i + 1, out, wks) wk ⟨by omega, by omega, by rw [tMid_0, List.append_nil]; exact ho, by rw [tMid_0, List.append_nil]; exact hwk⟩ ?_
  rintro ⟨j, out, wks⟩ ⟨hij, hj, ho, hwk⟩
  refine jA <| jA <| kx [(25, (vb (decide (((j : Nat) : Int) < ((es.length : Nat) : Int)))))] [] (zM <| zM <| zE (xA gQ) <| zE uP <| zZ) ?_
  refine jG rfl (fun h2 => ?_) (fun h2 => ?_)
  ·replace h2 := of_decide_eq_true h2
   have hej : EOkE n (es.getD j (jC.mk 0 0 (jB.mk 0 0 0 0))) := mY heo (k := j) (by omega)
   obtain ⟨hej1, hej2, hej3, hej4, hej5, _⟩ := id hej
   refine jF <| jA <| jH <| jA <| kx [(7, (.ref 3 0))] [(3, some (bx (jK (es.getD j (jC.mk 0 0 (jB.mk 0 0 0 0))))))] (zM <| zM <| zE (yO gQ j (jC.mk 0 0 (jB.mk 0 0 0 0))) <| zE (eN hP) <| zH (uQ 3 fK zo56) <| zT (kZ hP) <| zZ) ?_
   refine jA <| kx [(8, (vi ((es.getD i (jC.mk 0 0 (jB.mk 0 0 0 0))).fr)))] [] (zE (kQ vY) <| zR (kM qA) <| zM <| zZ) ?_
   refine jA <| jH <| jA <| kx [(34, (vb (jnB (es.getD j (jC.mk 0 0 (jB.mk 0 0 0 0))).fr (es.getD j (jC.mk 0 0 (jB.mk 0 0 0 0))).to_ ((es.getD i (jC.mk 0 0 (jB.mk 0 0 0 0))).fr) ((es.getD i (jC.mk 0 0 (jB.mk 0 0 0 0))).to_))))] [] (zR (kT hP) <| zE (kQ vY) <| zR (kM qA) <| zE (kQ xD) <| zR (kM qA) <| zE (kD (l_joins (es.getD j (jC.mk 0 0 (jB.mk 0 0 0 0))) ((es.getD i (jC.mk 0 0 (jB.mk 0 0 0 0))).fr) ((es.getD i (jC.mk 0 0 (jB.mk 0 0 0 0))).to_))) <| zM <| zZ) ?_
   refine jG rfl (fun h3 => ?_) (fun h3 => ?_)
   ·refine jW <| kx [(6, (jQ (j + 1)))] [] (zM <| zE (qQ (j + 1)) <| zM <| zZ) ?_
    exact ⟨(j + 1, out, wks), wk, ⟨by omega, by omega, by rw [tMid_s (by omega), tIn_nil (fun m => trN1 h3), List.append_nil]; exact ho, by rw [tMid_s (by omega), tIn_nil (fun m => trN1 h3), List.append_nil]; exact hwk⟩, (by first | omega | (dsimp only; omega))⟩
   ·refine jA <| kx [(41, (vb (hsB (es.getD j (jC.mk 0 0 (jB.mk 0 0 0 0))).fr (es.getD j (jC.mk 0 0 (jB.mk 0 0 0 0))).to_ ((es.getD i (jC.mk 0 0 (jB.mk 0 0 0 0))).to_))))] [] (zR (kT hP) <| zE (kQ xD) <| zR (kM qA) <| zE (kD (l_has (es.getD j (jC.mk 0 0 (jB.mk 0 0 0 0))) ((es.getD i (jC.mk 0 0 (jB.mk 0 0 0 0))).to_))) <| zM <| zZ) ?_
    refine jG rfl (fun h4 => ?_) (fun h4 => ?_)
    ·refine kx [(8, (vi ((es.getD i (jC.mk 0 0 (jB.mk 0 0 0 0))).to_)))] [] (zE (kQ xD) <| zR (kM qA) <| zM <| zZ) ?_
     refine jA <| kx [(9, (vi ((es.getD j (jC.mk 0 0 (jB.mk 0 0 0 0))).fr + (es.getD j (jC.mk 0 0 (jB.mk 0 0 0 0))).to_ - ((es.getD i (jC.mk 0 0 (jB.mk 0 0 0 0))).to_))))] [] (zR (kT hP) <| zM <| zE (kD (l_other (es.getD j (jC.mk 0 0 (jB.mk 0 0 0 0))) ((es.getD i (jC.mk 0 0 (jB.mk 0 0 0 0))).to_) (by omega) (by omega) (by omega))) <| zM <| zZ) ?_
     refine jA <| kx [(10, (jQ (j + 1)))] [] (zM <| zE (qQ (j + 1)) <| zM <| zZ) ?_
     refine jH <| kH (α := Nat × List (A3 (Int)) × List (A3 (Int))) (fun (k, out, wks) => ⟨[(0, (vl 56 6 jK es)), (2, (.own 0 70 3 out.length)), (3, (.own 1 70 3 wks.length)), (4, (jQ i)), (5, (.ref 2 0)), (6, (jQ j)), (8, (vi ((es.getD i (jC.mk 0 0 (jB.mk 0 0 0 0))).to_))), (9, (vi ((es.getD j (jC.mk 0 0 (jB.mk 0 0 0 0))).fr + (es.getD j (jC.mk 0 0 (jB.mk 0 0 0 0))).to_ - ((es.getD i (jC.mk 0 0 (jB.mk 0 0 0 0))).to_)))), (10, (jQ k)), (13, (vl 56 6 jK es)), (14, (jQ es.length)), (15, (jQ i))], [(0, some (xY kU out)), (1, some (xY kU wks)), (2, some (bx (jK (es.getD i (jC.mk 0 0 (jB.mk 0 0 0 0))))))]⟩) (fun (k, out, wks) => j < k ∧ k ≤ es.length ∧ out = List.map t3 (tAll es i ++ tMid es i j ++ tIn es i j k) ∧ wks = List.map (w3 es) (tAll es i ++ tMid es i j ++ tIn es i j k)) (fun (k, out, wks) => es.length - k) (j + 1, out, wks) wk ⟨by omega, by omega, by rw [tIn_0, List.append_nil]; exact ho, by rw [tIn_0, List.append_nil]; exact hwk⟩ ?_
     rintro ⟨k, out, wks⟩ ⟨hjk, hk, ho, hwk⟩
     have hrm := t_room (es := es) (i := i) (j := j) (k := k) hl2 (by omega) (by omega) (by omega)
     have hlo : out.length ≤ 20000000 := by rw [ho, List.length_map]; simp only [List.length_append] at hrm ⊢; omega
     have hlw : wks.length ≤ 20000000 := by rw [hwk, List.length_map]; simp only [List.length_append] at hrm ⊢; omega
     refine jA <| jA <| kx [(62, (vb (decide (((k : Nat) : Int) < ((es.length : Nat) : Int)))))] [] (zM <| zM <| zE (xA gQ) <| zE uP <| zZ) ?_
     refine jG rfl (fun h5 => ?_) (fun h5 => ?_)
     ·replace h5 := of_decide_eq_true h5
      have hek : EOkE n (es.getD k (jC.mk 0 0 (jB.mk 0 0 0 0))) := mY heo (k := k) (by omega)
      obtain ⟨hek1, hek2, hek3, hek4, hek5, _⟩ := id hek
      refine jF <| jA <| jH <| jA <| jA <| kd [(74, (vb (!(jnB (es.getD k (jC.mk 0 0 (jB.mk 0 0 0 0))).fr (es.getD k (jC.mk 0 0 (jB.mk 0 0 0 0))).to_ ((es.getD i (jC.mk 0 0 (jB.mk 0 0 0 0))).fr + (es.getD i (jC.mk 0 0 (jB.mk 0 0 0 0))).to_ - ((es.getD i (jC.mk 0 0 (jB.mk 0 0 0 0))).to_)) ((es.getD j (jC.mk 0 0 (jB.mk 0 0 0 0))).fr + (es.getD j (jC.mk 0 0 (jB.mk 0 0 0 0))).to_ - ((es.getD i (jC.mk 0 0 (jB.mk 0 0 0 0))).to_))))))] [] mo (wM <| wM <| wE (yO gQ k (jC.mk 0 0 (jB.mk 0 0 0 0))) <| wE (eN hP) <| wR (kT hP) <| wM <| wE (kD (l_other (es.getD i (jC.mk 0 0 (jB.mk 0 0 0 0))) ((es.getD i (jC.mk 0 0 (jB.mk 0 0 0 0))).to_) (by omega) (by omega) (by omega))) <| wM <| wE (kD (l_joins (es.getD k (jC.mk 0 0 (jB.mk 0 0 0 0))) ((es.getD i (jC.mk 0 0 (jB.mk 0 0 0 0))).fr + (es.getD i (jC.mk 0 0 (jB.mk 0 0 0 0))).to_ - ((es.getD i (jC.mk 0 0 (jB.mk 0 0 0 0))).to_)) ((es.getD j (jC.mk 0 0 (jB.mk 0 0 0 0))).fr + (es.getD j (jC.mk 0 0 (jB.mk 0 0 0 0))).to_ - ((es.getD i (jC.mk 0 0 (jB.mk 0 0 0 0))).to_)))) <| wE oNt <| wZ) ?_
      refine jG rfl (fun h6 => ?_) (fun h6 => ?_)
      ·refine jW <| kx [(10, (jQ (k + 1)))] [] (zM <| zE (qQ (k + 1)) <| zM <| zZ) ?_
       exact ⟨(k + 1, out, wks), wk, ⟨by omega, by omega, by rw [tIn_n ((trA (k := k) h3 h4).1.trans (bn_t h6))]; exact ho, by rw [tIn_n ((trA (k := k) h3 h4).1.trans (bn_t h6))]; exact hwk⟩, (by first | omega | (dsimp only; omega))⟩
      ·refine jF <| jA <| kf [(2, (.own 0 70 3 ((out ++ [(A3.mk ((i : Nat) : Int) ((j : Nat) : Int) ((k : Nat) : Int))]).length)))] [(0, some (xY kU (out ++ [(A3.mk ((i : Nat) : Int) ((j : Nat) : Int) ((k : Nat) : Int))])))] (zM <| zM <| zM <| zM <| zE (oBf ar70 ze70 zo70) <| zE (aA el63 ze70 zo70) <| zAS kU out [(A3.mk ((i : Nat) : Int) ((j : Nat) : Int) ((k : Nat) : Int))] rfl el63 ze70 by70 <| zM <| zF) ?_
       refine jA <| kx [(11, (jQ j)), (12, (jQ k))] [] (zM <| zM <| zM <| zM <| zZ) ?_
       refine jA <| jA <| kx [(87, (vb false))] [] (zM <| zE (kQ vY) <| zR (kM qA) <| zE (xH false gF (by exact beq_eq_false_iff_ne.2 (fun e => hei5 e.symm))) <| zZ) ?_
       refine qN ?_
       refine jF <| kf [(3, (.own 1 70 3 ((wks ++ [(A3.mk ((i : Nat) : Int) (alI (es.getD j (jC.mk 0 0 (jB.mk 0 0 0 0))).fr ((es.getD i (jC.mk 0 0 (jB.mk 0 0 0 0))).to_) ((j : Nat) : Int)) (alI (es.getD k (jC.mk 0 0 (jB.mk 0 0 0 0))).fr ((es.getD j (jC.mk 0 0 (jB.mk 0 0 0 0))).fr + (es.getD j (jC.mk 0 0 (jB.mk 0 0 0 0))).to_ - ((es.getD i (jC.mk 0 0 (jB.mk 0 0 0 0))).to_)) ((k : Nat) : Int)))]).length)))] [(1, some (xY kU (wks ++ [(A3.mk ((i : Nat) : Int) (alI (es.getD j (jC.mk 0 0 (jB.mk 0 0 0 0))).fr ((es.getD i (jC.mk 0 0 (jB.mk 0 0 0 0))).to_) ((j : Nat) : Int)) (alI (es.getD k (jC.mk 0 0 (jB.mk 0 0 0 0))).fr ((es.getD j (jC.mk 0 0 (jB.mk 0 0 0 0))).fr + (es.getD j (jC.mk 0 0 (jB.mk 0 0 0 0))).to_ - ((es.getD i (jC.mk 0 0 (jB.mk 0 0 0 0))).to_)) ((k : Nat) : Int)))])))] (zM <| zM <| zM <| zM <| zE (kQ xD) <| zR (kM qA) <| zE (kD (l_along es j ((es.getD i (jC.mk 0 0 (jB.mk 0 0 0 0))).to_) (by omega) (by omega))) <| zM <| zM <| zM <| zE (kD (l_along es k ((es.getD j (jC.mk 0 0 (jB.mk 0 0 0 0))).fr + (es.getD j (jC.mk 0 0 (jB.mk 0 0 0 0))).to_ - ((es.getD i (jC.mk 0 0 (jB.mk 0 0 0 0))).to_)) (by omega) (by omega))) <| zE (oBf ar70 ze70 zo70) <| zE (aA el63 ze70 zo70) <| zAS kU wks [(A3.mk ((i : Nat) : Int) (alI (es.getD j (jC.mk 0 0 (jB.mk 0 0 0 0))).fr ((es.getD i (jC.mk 0 0 (jB.mk 0 0 0 0))).to_) ((j : Nat) : Int)) (alI (es.getD k (jC.mk 0 0 (jB.mk 0 0 0 0))).fr ((es.getD j (jC.mk 0 0 (jB.mk 0 0 0 0))).fr + (es.getD j (jC.mk 0 0 (jB.mk 0 0 0 0))).to_ - ((es.getD i (jC.mk 0 0 (jB.mk 0 0 0 0))).to_)) ((k : Nat) : Int)))] rfl el63 ze70 by70 <| zM <| zF) ?_
       refine kx [(10, (jQ (k + 1)))] [] (zM <| zE (qQ (k + 1)) <| zM <| zZ) ?_
       exact ⟨(k + 1, out ++ [A3.mk ((i : Nat) : Int) ((j : Nat) : Int) ((k : Nat) : Int)], wks ++ [A3.mk ((i : Nat) : Int) (alI (es.getD j (jC.mk 0 0 (jB.mk 0 0 0 0))).fr (es.getD i (jC.mk 0 0 (jB.mk 0 0 0 0))).to_ ((j : Nat) : Int)) (alI (es.getD k (jC.mk 0 0 (jB.mk 0 0 0 0))).fr ((es.getD j (jC.mk 0 0 (jB.mk 0 0 0 0))).fr + (es.getD j (jC.mk 0 0 (jB.mk 0 0 0 0))).to_ - (es.getD i (jC.mk 0 0 (jB.mk 0 0 0 0))).to_) ((k : Nat) : Int))]), wk, ⟨by omega, by omega, by rw [tIn_y (by omega) ((trA (k := k) h3 h4).1.trans (bn_f h6)), ← List.append_assoc]; exact t_push ho rfl, by rw [tIn_y (by omega) ((trA (k := k) h3 h4).1.trans (bn_f h6)), ← List.append_assoc]; refine t_push hwk ?_; unfold w3; rw [(trA (k := k) h3 h4).2]; rfl⟩, (by first | omega | (dsimp only; omega))⟩
     ·replace h5 := of_decide_eq_false h5
      refine jW <| kx [(6, (jQ (j + 1)))] [] (zM <| zE (qQ (j + 1)) <| zM <| zZ) ?_
      exact ⟨(j + 1, out, wks), wk, ⟨by omega, by omega, by rw [tMid_s (by omega), ← List.append_assoc, ← show k = es.length by omega]; exact ho, by rw [tMid_s (by omega), ← List.append_assoc, ← show k = es.length by omega]; exact hwk⟩, (by first | omega | (dsimp only; omega))⟩
    ·refine jA <| kx [(48, (vb (!(hsB (es.getD j (jC.mk 0 0 (jB.mk 0 0 0 0))).fr (es.getD j (jC.mk 0 0 (jB.mk 0 0 0 0))).to_ ((es.getD i (jC.mk 0 0 (jB.mk 0 0 0 0))).fr)))))] [] (zR (kT hP) <| zE (kQ vY) <| zR (kM qA) <| zE (kD (l_has (es.getD j (jC.mk 0 0 (jB.mk 0 0 0 0))) ((es.getD i (jC.mk 0 0 (jB.mk 0 0 0 0))).fr))) <| zE oNt <| zM <| zZ) ?_
     refine jG rfl (fun h7 => ?_) (fun h7 => ?_)
     ·refine jW <| kx [(6, (jQ (j + 1)))] [] (zM <| zE (qQ (j + 1)) <| zM <| zZ) ?_
      exact ⟨(j + 1, out, wks), wk, ⟨by omega, by omega, by rw [tMid_s (by omega), tIn_nil (fun m => trN2 h4 (bn_t h7)), List.append_nil]; exact ho, by rw [tMid_s (by omega), tIn_nil (fun m => trN2 h4 (bn_t h7)), List.append_nil]; exact hwk⟩, (by first | omega | (dsimp only; omega))⟩
     ·refine jF <| jA <| kx [(9, (vi ((es.getD j (jC.mk 0 0 (jB.mk 0 0 0 0))).fr + (es.getD j (jC.mk 0 0 (jB.mk 0 0 0 0))).to_ - ((es.getD i (jC.mk 0 0 (jB.mk 0 0 0 0))).fr))))] [] (zR (kT hP) <| zM <| zE (kD (l_other (es.getD j (jC.mk 0 0 (jB.mk 0 0 0 0))) ((es.getD i (jC.mk 0 0 (jB.mk 0 0 0 0))).fr) (by omega) (by omega) (by omega))) <| zM <| zZ) ?_
      refine jA <| kx [(10, (jQ (j + 1)))] [] (zM <| zE (qQ (j + 1)) <| zM <| zZ) ?_
      refine jH <| kH (α := Nat × List (A3 (Int)) × List (A3 (Int))) (fun (k, out, wks) => ⟨[(0, (vl 56 6 jK es)), (2, (.own 0 70 3 out.length)), (3, (.own 1 70 3 wks.length)), (4, (jQ i)), (5, (.ref 2 0)), (6, (jQ j)), (8, (vi ((es.getD i (jC.mk 0 0 (jB.mk 0 0 0 0))).fr))), (9, (vi ((es.getD j (jC.mk 0 0 (jB.mk 0 0 0 0))).fr + (es.getD j (jC.mk 0 0 (jB.mk 0 0 0 0))).to_ - ((es.getD i (jC.mk 0 0 (jB.mk 0 0 0 0))).fr)))), (10, (jQ k)), (13, (vl 56 6 jK es)), (14, (jQ es.length)), (15, (jQ i))], [(0, some (xY kU out)), (1, some (xY kU wks)), (2, some (bx (jK (es.getD i (jC.mk 0 0 (jB.mk 0 0 0 0))))))]⟩) (fun (k, out, wks) => j < k ∧ k ≤ es.length ∧ out = List.map t3 (tAll es i ++ tMid es i j ++ tIn es i j k) ∧ wks = List.map (w3 es) (tAll es i ++ tMid es i j ++ tIn es i j k)) (fun (k, out, wks) => es.length - k) (j + 1, out, wks) wk ⟨by omega, by omega, by rw [tIn_0, List.append_nil]; exact ho, by rw [tIn_0, List.append_nil]; exact hwk⟩ ?_
      rintro ⟨k, out, wks⟩ ⟨hjk, hk, ho, hwk⟩
      have hrm := t_room (es := es) (i := i) (j := j) (k := k) hl2 (by omega) (by omega) (by omega)
      have hlo : out.length ≤ 20000000 := by rw [ho, List.length_map]; simp only [List.length_append] at hrm ⊢; omega
      have hlw : wks.length ≤ 20000000 := by rw [hwk, List.length_map]; simp only [List.length_append] at hrm ⊢; omega
      refine jA <| jA <| kx [(62, (vb (decide (((k : Nat) : Int) < ((es.length : Nat) : Int)))))] [] (zM <| zM <| zE (xA gQ) <| zE uP <| zZ) ?_
      refine jG rfl (fun h8 => ?_) (fun h8 => ?_)
      ·replace h8 := of_decide_eq_true h8
       have hek : EOkE n (es.getD k (jC.mk 0 0 (jB.mk 0 0 0 0))) := mY heo (k := k) (by omega)
       obtain ⟨hek1, hek2, hek3, hek4, hek5, _⟩ := id hek
       refine jF <| jA <| jH <| jA <| jA <| kd [(74, (vb (!(jnB (es.getD k (jC.mk 0 0 (jB.mk 0 0 0 0))).fr (es.getD k (jC.mk 0 0 (jB.mk 0 0 0 0))).to_ ((es.getD i (jC.mk 0 0 (jB.mk 0 0 0 0))).fr + (es.getD i (jC.mk 0 0 (jB.mk 0 0 0 0))).to_ - ((es.getD i (jC.mk 0 0 (jB.mk 0 0 0 0))).fr)) ((es.getD j (jC.mk 0 0 (jB.mk 0 0 0 0))).fr + (es.getD j (jC.mk 0 0 (jB.mk 0 0 0 0))).to_ - ((es.getD i (jC.mk 0 0 (jB.mk 0 0 0 0))).fr))))))] [] mo (wM <| wM <| wE (yO gQ k (jC.mk 0 0 (jB.mk 0 0 0 0))) <| wE (eN hP) <| wR (kT hP) <| wM <| wE (kD (l_other (es.getD i (jC.mk 0 0 (jB.mk 0 0 0 0))) ((es.getD i (jC.mk 0 0 (jB.mk 0 0 0 0))).fr) (by omega) (by omega) (by omega))) <| wM <| wE (kD (l_joins (es.getD k (jC.mk 0 0 (jB.mk 0 0 0 0))) ((es.getD i (jC.mk 0 0 (jB.mk 0 0 0 0))).fr + (es.getD i (jC.mk 0 0 (jB.mk 0 0 0 0))).to_ - ((es.getD i (jC.mk 0 0 (jB.mk 0 0 0 0))).fr)) ((es.getD j (jC.mk 0 0 (jB.mk 0 0 0 0))).fr + (es.getD j (jC.mk 0 0 (jB.mk 0 0 0 0))).to_ - ((es.getD i (jC.mk 0 0 (jB.mk 0 0 0 0))).fr)))) <| wE oNt <| wZ) ?_
       refine jG rfl (fun h9 => ?_) (fun h9 => ?_)
       ·refine jW <| kx [(10, (jQ (k + 1)))] [] (zM <| zE (qQ (k + 1)) <| zM <| zZ) ?_
        exact ⟨(k + 1, out, wks), wk, ⟨by omega, by omega, by rw [tIn_n ((trC (k := k) h3 h4 (bn_f h7)).1.trans (bn_t h9))]; exact ho, by rw [tIn_n ((trC (k := k) h3 h4 (bn_f h7)).1.trans (bn_t h9))]; exact hwk⟩, (by first | omega | (dsimp only; omega))⟩
       ·refine jF <| jA <| kf [(2, (.own 0 70 3 ((out ++ [(A3.mk ((i : Nat) : Int) ((j : Nat) : Int) ((k : Nat) : Int))]).length)))] [(0, some (xY kU (out ++ [(A3.mk ((i : Nat) : Int) ((j : Nat) : Int) ((k : Nat) : Int))])))] (zM <| zM <| zM <| zM <| zE (oBf ar70 ze70 zo70) <| zE (aA el63 ze70 zo70) <| zAS kU out [(A3.mk ((i : Nat) : Int) ((j : Nat) : Int) ((k : Nat) : Int))] rfl el63 ze70 by70 <| zM <| zF) ?_
        refine jA <| kx [(11, (jQ j)), (12, (jQ k))] [] (zM <| zM <| zM <| zM <| zZ) ?_
        refine jA <| jA <| kx [(87, (vb true))] [] (zM <| zE (kQ vY) <| zR (kM qA) <| zE (xH true gF (by exact beq_self_eq_true _)) <| zZ) ?_
        refine qM ?_
        refine kx [(11, (jQ k)), (12, (jQ j))] [] (zM <| zM <| zM <| zM <| zZ) ?_
        refine kf [(3, (.own 1 70 3 ((wks ++ [(A3.mk ((i : Nat) : Int) (alI (es.getD k (jC.mk 0 0 (jB.mk 0 0 0 0))).fr ((es.getD i (jC.mk 0 0 (jB.mk 0 0 0 0))).to_) ((k : Nat) : Int)) (alI (es.getD j (jC.mk 0 0 (jB.mk 0 0 0 0))).fr ((es.getD j (jC.mk 0 0 (jB.mk 0 0 0 0))).fr + (es.getD j (jC.mk 0 0 (jB.mk 0 0 0 0))).to_ - ((es.getD i (jC.mk 0 0 (jB.mk 0 0 0 0))).fr)) ((j : Nat) : Int)))]).length)))] [(1, some (xY kU (wks ++ [(A3.mk ((i : Nat) : Int) (alI (es.getD k (jC.mk 0 0 (jB.mk 0 0 0 0))).fr ((es.getD i (jC.mk 0 0 (jB.mk 0 0 0 0))).to_) ((k : Nat) : Int)) (alI (es.getD j (jC.mk 0 0 (jB.mk 0 0 0 0))).fr ((es.getD j (jC.mk 0 0 (jB.mk 0 0 0 0))).fr + (es.getD j (jC.mk 0 0 (jB.mk 0 0 0 0))).to_ - ((es.getD i (jC.mk 0 0 (jB.mk 0 0 0 0))).fr)) ((j : Nat) : Int)))])))] (zM <| zM <| zM <| zM <| zE (kQ xD) <| zR (kM qA) <| zE (kD (l_along es k ((es.getD i (jC.mk 0 0 (jB.mk 0 0 0 0))).to_) (by omega) (by omega))) <| zM <| zM <| zM <| zE (kD (l_along es j ((es.getD j (jC.mk 0 0 (jB.mk 0 0 0 0))).fr + (es.getD j (jC.mk 0 0 (jB.mk 0 0 0 0))).to_ - ((es.getD i (jC.mk 0 0 (jB.mk 0 0 0 0))).fr)) (by omega) (by omega))) <| zE (oBf ar70 ze70 zo70) <| zE (aA el63 ze70 zo70) <| zAS kU wks [(A3.mk ((i : Nat) : Int) (alI (es.getD k (jC.mk 0 0 (jB.mk 0 0 0 0))).fr ((es.getD i (jC.mk 0 0 (jB.mk 0 0 0 0))).to_) ((k : Nat) : Int)) (alI (es.getD j (jC.mk 0 0 (jB.mk 0 0 0 0))).fr ((es.getD j (jC.mk 0 0 (jB.mk 0 0 0 0))).fr + (es.getD j (jC.mk 0 0 (jB.mk 0 0 0 0))).to_ - ((es.getD i (jC.mk 0 0 (jB.mk 0 0 0 0))).fr)) ((j : Nat) : Int)))] rfl el63 ze70 by70 <| zM <| zF) ?_
        refine kx [(10, (jQ (k + 1)))] [] (zM <| zE (qQ (k + 1)) <| zM <| zZ) ?_
        exact ⟨(k + 1, out ++ [A3.mk ((i : Nat) : Int) ((j : Nat) : Int) ((k : Nat) : Int)], wks ++ [A3.mk ((i : Nat) : Int) (alI (es.getD k (jC.mk 0 0 (jB.mk 0 0 0 0))).fr (es.getD i (jC.mk 0 0 (jB.mk 0 0 0 0))).to_ ((k : Nat) : Int)) (alI (es.getD j (jC.mk 0 0 (jB.mk 0 0 0 0))).fr ((es.getD j (jC.mk 0 0 (jB.mk 0 0 0 0))).fr + (es.getD j (jC.mk 0 0 (jB.mk 0 0 0 0))).to_ - (es.getD i (jC.mk 0 0 (jB.mk 0 0 0 0))).fr) ((j : Nat) : Int))]), wk, ⟨by omega, by omega, by rw [tIn_y (by omega) ((trC (k := k) h3 h4 (bn_f h7)).1.trans (bn_f h9)), ← List.append_assoc]; exact t_push ho rfl, by rw [tIn_y (by omega) ((trC (k := k) h3 h4 (bn_f h7)).1.trans (bn_f h9)), ← List.append_assoc]; refine t_push hwk ?_; unfold w3; rw [(trC (k := k) h3 h4 (bn_f h7)).2]; rfl⟩, (by first | omega | (dsimp only; omega))⟩
      ·replace h8 := of_decide_eq_false h8
       refine jW <| kx [(6, (jQ (j + 1)))] [] (zM <| zE (qQ (j + 1)) <| zM <| zZ) ?_
       exact ⟨(j + 1, out, wks), wk, ⟨by omega, by omega, by rw [tMid_s (by omega), ← List.append_assoc, ← show k = es.length by omega]; exact ho, by rw [tMid_s (by omega), ← List.append_assoc, ← show k = es.length by omega]; exact hwk⟩, (by first | omega | (dsimp only; omega))⟩
  ·replace h2 := of_decide_eq_false h2
   refine jW <| kx [(15, (jQ (i + 1)))] [] (zE (qQ (i + 1)) <| zM <| zZ) ?_
   exact ⟨(i + 1, out, wks), wk, ⟨by omega, by rw [tAll_s, ← show j = es.length by omega]; exact ho, by rw [tAll_s, ← show j = es.length by omega]; exact hwk⟩, (by first | omega | (dsimp only; omega))⟩
 ·replace h1 := of_decide_eq_false h1
  refine jW <| jA <| kY (vV (t := 2) (k := 0) (es := List.map kU out) rfl rfl (yX _ _ (fun _ => rfl)) (uS _ _ rfl) (mH kU out (fun _ => rfl) rfl)) ?_
  refine kY (vV (t := 3) (k := 1) (es := List.map kU wks) rfl rfl (yX _ _ (fun _ => rfl)) (uS _ _ rfl) (mH kU wks (fun _ => rfl) rfl)) ?_
  refine kx [(2, (vl 70 3 kU out)), (3, (vl 70 3 kU wks))] [] (zM <| zM <| zM <| zM <| zZ) ?_
  refine jI ⟨_, (.tmp (d := (.sl 70 3 (List.map kU out))) rfl (.tmp (d := (.sl 70 3 (List.map kU wks))) rfl .nil)), ?_⟩
  rw [ho, hwk, show i = es.length by omega]; rfl
end Go.Proofs.YtihgdjljnaekmaaGreat
