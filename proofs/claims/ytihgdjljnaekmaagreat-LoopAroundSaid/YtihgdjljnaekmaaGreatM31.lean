/- Part 31 of a proof: rules, plain facts, and functions walked. -/
import Derived.Test.YtihgdjljnaekmaaGreatM30
set_option linter.unusedVariables false
set_option linter.unusedSimpArgs false
namespace Go.Fid
def wt (es : List REdge) (t : T3) : List Int := [((t.1 : Nat) : Int), (wkP es t.1 t.2.1 t.2.2).1, (wkP es t.1 t.2.1 t.2.2).2]
abbrev z3 : T3 := (0, 0, 0)
def triIn (es : List REdge) (t : T3) : Prop := t.1 < t.2.1 ∧ t.2.1 < t.2.2 ∧ t.2.2 < es.length ∧ trB es t.1 t.2.1 t.2.2 = true
theorem tris_mem {es : List REdge} {t : T3} : t ∈ tris es ↔ triIn es t := by
  obtain ⟨i, j, k⟩ := t
  unfold tris tAll tMid tIn triIn
  simp only [List.mem_flatMap, List.mem_range]
  constructor
  · rintro ⟨a, ha, b, hb, h⟩
    split at h
    · rename_i hab
      obtain ⟨c, hc, e⟩ := List.mem_map.1 h
      rw [List.mem_filter, Bool.and_eq_true, decide_eq_true_eq, List.mem_range] at hc
      injection e with e1 e; injection e with e2 e3
      subst e1; subst e2; subst e3
      exact ⟨hab, hc.2.1, hc.1, hc.2.2⟩
    · cases h
  · rintro ⟨h1, h2, h3, h4⟩
    have h1 : i < j := h1
    have h2 : j < k := h2
    have h3 : k < es.length := h3
    have h4 : trB es i j k = true := h4
    refine ⟨i, by omega, j, by omega, ?_⟩
    rw [if_pos h1]
    exact List.mem_map.2 ⟨k, by rw [List.mem_filter, Bool.and_eq_true, decide_eq_true_eq, List.mem_range]; exact ⟨h3, h2, h4⟩, rfl⟩
theorem tris_at {es : List REdge} {m : Nat} (h : m < (tris es).length) : triIn es ((tris es).getD m z3) := by
  rw [List.getD_eq_getElem?_getD, List.getElem?_eq_getElem h]; exact tris_mem.1 (List.getElem_mem _)
theorem tris_len {es : List REdge} (h : es.length ≤ 256) : (tris es).length ≤ 16777216 := by
  refine Nat.le_trans (tAll_len es es.length) ?_
  exact Nat.mul_le_mul h (Nat.mul_le_mul h h)
theorem alI_or (p a k : Int) : alI p a k = k ∨ alI p a k = -1 - k := by
  unfold alI; split
  · exact .inl rfl
  · exact .inr rfl
theorem wk_cases {es : List REdge} {t : T3} : ∃ j k : Nat, (j = t.2.1 ∧ k = t.2.2 ∨ j = t.2.2 ∧ k = t.2.1) ∧ ((wkP es t.1 t.2.1 t.2.2).1 = ((j : Nat) : Int) ∨ (wkP es t.1 t.2.1 t.2.2).1 = -1 - ((j : Nat) : Int)) ∧ ((wkP es t.1 t.2.1 t.2.2).2 = ((k : Nat) : Int) ∨ (wkP es t.1 t.2.1 t.2.2).2 = -1 - ((k : Nat) : Int)) := by
  unfold wkP pWk
  split
  · exact ⟨t.2.1, t.2.2, .inl ⟨rfl, rfl⟩, alI_or _ _ _, alI_or _ _ _⟩
  · exact ⟨t.2.2, t.2.1, .inr ⟨rfl, rfl⟩, alI_or _ _ _, alI_or _ _ _⟩
theorem wt_in {es : List REdge} {t : T3} (h : triIn es t) : wIn es (wt es t) := by
  obtain ⟨h1, h2, h3, _⟩ := h
  obtain ⟨j, k, hjk, e1, e2⟩ := wk_cases (es := es) (t := t)
  intro x hx
  unfold wt at hx
  unfold inE
  simp only [List.mem_cons, List.not_mem_nil, or_false] at hx
  rcases hx with rfl | rfl | rfl
  · omega
  · rcases e1 with e | e <;> rw [e] <;> omega
  · rcases e2 with e | e <;> rw [e] <;> omega
theorem aro_ok {es : List REdge} {ws : List Int} (ht : Tok es) (hw : wIn es ws) (h : aroC es ws = 0) : Qok (aroV es ws) := by
  have hok : arOk es ws := by
    unfold aroC at h
    split at h
    · assumption
    · cases h
  unfold aroV
  rw [if_pos hok]
  exact arV_ok ht hw (Nat.le_refl _) hok
def gnS (p q : Rat) : Int := if 0 < cmpQ q p then -1 else 1
def gnT (p : Rat) (es : List REdge) (t : T3) : Int := gnS p (chQ q1 (aroV es (wt es t)))
def vA (v : List Int) (k : Nat) (g : Int) : List Int := v.set k (v.getD k 0 + g)
def vT (v : List Int) (t : T3) (g : Int) : List Int := vA (vA (vA v t.1 g) t.2.1 g) t.2.2 g
def vts (p : Rat) (es : List REdge) (l : List T3) : List Int := l.foldl (fun v t => vT v t (gnT p es t)) (List.replicate es.length 0)
def seOk (es : List REdge) : Prop := ∀ t ∈ tris es, aroC es (wt es t) = 0
instance (es : List REdge) : Decidable (seOk es) := List.decidableBAll _ _
def seC (es : List REdge) : Nat := if seOk es then 0 else 3
def VB (b : Int) (v : List Int) : Prop := ∀ j, -b ≤ v.getD j 0 ∧ v.getD j 0 ≤ b
theorem VB_0 (n : Nat) : VB 0 (List.replicate n 0) := fun j => by
  rw [List.getD_eq_getElem?_getD, List.getElem?_replicate]; split <;> simp
theorem gnS_01 (p q : Rat) : gnS p q = 1 ∨ gnS p q = -1 := by unfold gnS; split <;> simp
theorem VB_s {b : Int} {v : List Int} {g : Int} (h : VB b v) (hg : g = 1 ∨ g = -1) (k : Nat) : VB (b + 1) (v.set k (v.getD k 0 + g)) := fun j => by
  have h1 := h j; have h2 := h k
  by_cases e : k = j
  · subst e
    by_cases hk : k < v.length
    · rw [List.getD_eq_getElem?_getD, List.getElem?_set_self hk, Option.getD_some]; omega
    · rw [List.set_eq_of_length_le (by omega)]; omega
  · rw [List.getD_eq_getElem?_getD, List.getElem?_set_ne e, ← List.getD_eq_getElem?_getD]; omega
theorem VB_w {b : Int} {v : List Int} {g : Int} (h : VB b v) (hg : g = 1 ∨ g = -1) (hb : b ≤ 100000000) (k : Nat) : -9223372036854775808 ≤ v.getD k 0 + g ∧ v.getD k 0 + g ≤ 9223372036854775807 := by
  have := h k; omega
theorem vts_s {p : Rat} {es : List REdge} {m : Nat} (h : m < (tris es).length) : vts p es ((tris es).take (m + 1)) = vT (vts p es ((tris es).take m)) ((tris es).getD m z3) (gnT p es ((tris es).getD m z3)) := by
  unfold vts
  rw [List.take_succ_eq_append_getElem h, List.foldl_append, List.getD_eq_getElem?_getD, List.getElem?_eq_getElem h]; rfl
theorem vA_len (v : List Int) (k : Nat) (g : Int) : (vA v k g).length = v.length := by simp [vA]
theorem vts_len (p : Rat) (es : List REdge) (l : List T3) : (vts p es l).length = es.length := by
  unfold vts
  have : ∀ (l : List T3) (v : List Int), v.length = es.length → (l.foldl (fun v t => vT v t (gnT p es t)) v).length = es.length := by
    intro l
    induction l with
    | nil => intro v h; exact h
    | cons t l ih => intro v h; exact ih _ (by unfold vT; simp only [vA_len]; exact h)
  exact this l _ (by simp)
def seUp (es : List REdge) (m : Nat) : Prop := ∀ i, i < m → aroC es (wt es ((tris es).getD i z3)) = 0
theorem seUp_0 (es : List REdge) : seUp es 0 := fun i hi => by omega
theorem seUp_s {es : List REdge} {m : Nat} (h : seUp es m) (h1 : aroC es (wt es ((tris es).getD m z3)) = 0) : seUp es (m + 1) := fun i hi => by
  by_cases e : i = m
  · subst e; exact h1
  · exact h i (by omega)
theorem se_no {es : List REdge} {m : Nat} (hm : m < (tris es).length) (h : aroC es (wt es ((tris es).getD m z3)) ≠ 0) : seC es = 3 ∧ aroC es (wt es ((tris es).getD m z3)) = 3 := by
  have hn : ¬ seOk es := fun e => h (e _ (by rw [List.getD_eq_getElem?_getD, List.getElem?_eq_getElem hm]; exact List.getElem_mem _))
  refine ⟨if_neg hn, ?_⟩
  unfold aroC at h ⊢
  split
  · rename_i e; rw [if_pos e] at h; exact absurd rfl h
  · rfl
theorem se_yes {es : List REdge} {m : Nat} (hm : m = (tris es).length) (h : seUp es m) : seC es = 0 := by
  refine if_pos fun t ht => ?_
  obtain ⟨i, hi, rfl⟩ := List.getElem_of_mem ht
  have := h i (by omega)
  rwa [List.getD_eq_getElem?_getD, List.getElem?_eq_getElem hi, Option.getD_some] at this
def selU (v : List Int) (k : Nat) : List Int := ((List.range k).filter fun i => decide (0 ≤ v.getD i 0)).map fun i => ((i : Nat) : Int)
def selL (v : List Int) : List Int := selU v v.length
theorem selU_y {v : List Int} {k : Nat} (h : 0 ≤ v.getD k 0) : selU v (k + 1) = selU v k ++ [((k : Nat) : Int)] := by
  unfold selU; rw [List.range_succ, List.filter_append, List.map_append]; simp only [List.filter_cons, List.filter_nil, decide_eq_true h, if_true]; rfl
theorem selU_n {v : List Int} {k : Nat} (h : ¬ 0 ≤ v.getD k 0) : selU v (k + 1) = selU v k := by
  unfold selU; rw [List.range_succ, List.filter_append, List.map_append]; simp only [List.filter_cons, List.filter_nil, decide_eq_false h, Bool.false_eq_true, if_false, List.map_nil, List.append_nil]
theorem selU_len (v : List Int) (k : Nat) : (selU v k).length ≤ k := by
  unfold selU; rw [List.length_map]; exact Nat.le_trans (List.length_filter_le _ _) (by simp)
def slB (p : Rat) : Bool := decide (signQ p < 0) || decide (0 < cmpQ p ((1 : Int) : Rat))
def sldC (es : List REdge) (x : RRat) (p : Rat) : Nat := if validR x = true then (if slB p = true then 2 else seC es) else 1
def sldV (es : List REdge) (x : RRat) (p : Rat) : List Int := okL (sldC es x p) (selL (vts p es (tris es)))
def slC (z : Int) (es : List REdge) (x : RRat) (p : Rat) : Nat := okC (lopC z es) (sldC es x p)
def slV (z : Int) (es : List REdge) (x : RRat) (p : Rat) : List Int := okL (lopC z es) (sldV es x p)
theorem sld_1 {es : List REdge} {x : RRat} {p : Rat} (h : validR x = false) : sldC es x p = 1 ∧ sldV es x p = [] := by
  have e : sldC es x p = 1 := if_neg (by rw [h]; decide)
  exact ⟨e, okL_n (by rw [e]; decide)⟩
theorem sld_2 {es : List REdge} {x : RRat} {p : Rat} (h : validR x = true) (h2 : slB p = true) : sldC es x p = 2 ∧ sldV es x p = [] := by
  have e : sldC es x p = 2 := (if_pos h).trans (if_pos h2)
  exact ⟨e, okL_n (by rw [e]; decide)⟩
theorem sld_3 {es : List REdge} {x : RRat} {p : Rat} (h : validR x = true) (h2 : slB p = false) (h3 : seC es = 3) : sldC es x p = 3 ∧ sldV es x p = [] := by
  have e : sldC es x p = 3 := (if_pos h).trans ((if_neg (by rw [h2]; decide)).trans h3)
  exact ⟨e, okL_n (by rw [e]; decide)⟩
theorem sld_0 {es : List REdge} {x : RRat} {p : Rat} (h : validR x = true) (h2 : slB p = false) (h3 : seC es = 0) : sldC es x p = 0 ∧ sldV es x p = selL (vts p es (tris es)) := by
  have e : sldC es x p = 0 := (if_pos h).trans ((if_neg (by rw [h2]; decide)).trans h3)
  exact ⟨e, okL_0 e⟩
end Go.Fid
namespace Go.Proofs.YtihgdjljnaekmaaGreat
open Go.Fid
set_option maxRecDepth 4000
set_option linter.unusedVariables false
set_option linter.unusedSimpArgs false
theorem ar70 : arrB Tryz.prog 70 = some (3, 3, 1) := by kernel_rfl
theorem cb124 : callB Tryz.prog 124 = true := by kernel_rfl
theorem cb125 : callB Tryz.prog 125 = true := by kernel_rfl
theorem cb126 : callB Tryz.prog 126 = true := by kernel_rfl
theorem cb127 : callB Tryz.prog 127 = true := by kernel_rfl
def t3 (t : T3) : A3 (Int) := A3.mk ((t.1 : Nat) : Int) ((t.2.1 : Nat) : Int) ((t.2.2 : Nat) : Int)
def w3 (es : List REdge) (t : T3) : A3 (Int) := A3.mk ((t.1 : Nat) : Int) (wkP es t.1 t.2.1 t.2.2).1 (wkP es t.1 t.2.1 t.2.2).2
theorem l_joins (x : REdge) (a : Int) (b : Int) : Takes Tryz.prog 124 [(encEdge x), (.val (.int .i64 (a))), (.val (.int .i64 (b)))] (.val (.bool ((jnB x.fr x.to_ a b)))) := by
  refine fn_intro Tryz.func124 rfl cb124 rfl ?_
  show PWp _ _ _ _ ⟨[(0, (.d (encEdge x))), (1, (vi a)), (2, (vi b))], []⟩
  refine pwp_seq <| kx [(3, (.ref 0 0))] [(0, some (bx (encEdge x)))] (zN (oBx 0) <| zM <| zZ) ?_
  refine pwp_seq <| kx [(6, (vb (((x.fr == a) && (x.to_ == b)) || ((x.fr == b) && (x.to_ == a)))))] [] ?_ ?_
  · refine zE (oFr fo56_0) <| zR (oL1 sh3) <| zM <| zE oEq <| zE (oV (vb (x.fr == a)) (mv_ok (by kernel_rfl))) <| ?_
    rcases hb1 : (x.fr == a) with _ | _
    · replace hb1 := ne_of_beq_false hb1
      refine zK <| zK <| zK <| zK <| zE oPf <| zM <| zE (oFr fo56_0) <| zR (oL1 sh3) <| zM <| zE oEq <| zE (oV (vb (x.fr == b)) (mv_ok (by kernel_rfl))) <| ?_
      rcases hb2 : (x.fr == b) with _ | _
      · replace hb2 := ne_of_beq_false hb2
        exact zK <| zK <| zK <| zK <| zE oPf <| zE oPf <| zM <| zZ
      · replace hb2 := eq_of_beq hb2
        exact zE (oFr fo56_1) <| zR (oL1 sh3) <| zM <| zE oEq <| zE oPa <| zE oPo <| zM <| zZ
    · replace hb1 := eq_of_beq hb1
      refine zE (oFr fo56_1) <| zR (oL1 sh3) <| zM <| zE oEq <| zE oPa <| zE (oV (vb (true && (x.to_ == b))) (mv_ok (by kernel_rfl))) <| ?_
      rcases hb3 : (true && (x.to_ == b)) with _ | _
      · refine zE (oFr fo56_0) <| zR (oL1 sh3) <| zM <| zE oEq <| zE (oV (vb (x.fr == b)) (mv_ok (by kernel_rfl))) <| ?_
        rcases hb4 : (x.fr == b) with _ | _
        · replace hb4 := ne_of_beq_false hb4
          exact zK <| zK <| zK <| zK <| zE oPf <| zE oPf <| zM <| zZ
        · replace hb4 := eq_of_beq hb4
          exact zE (oFr fo56_1) <| zR (oL1 sh3) <| zM <| zE oEq <| zE oPa <| zE oPo <| zM <| zZ
      · exact zK <| zK <| zK <| zK <| zK <| zK <| zK <| zK <| zK <| zK <| zE oPt <| zM <| zZ
  refine pwp_ret ⟨_, (.tmp (d := (.val (.bool ((((x.fr == a) && (x.to_ == b)) || ((x.fr == b) && (x.to_ == a))))))) rfl .nil), ?_⟩
  rfl
theorem l_has (x : REdge) (a : Int) : Takes Tryz.prog 125 [(encEdge x), (.val (.int .i64 (a)))] (.val (.bool ((hsB x.fr x.to_ a)))) := by
  refine fn_intro Tryz.func125 rfl cb125 rfl ?_
  show PWp _ _ _ _ ⟨[(0, (.d (encEdge x))), (1, (vi a))], []⟩
  refine pwp_seq <| kx [(2, (.ref 0 0))] [(0, some (bx (encEdge x)))] (zN (oBx 0) <| zM <| zZ) ?_
  refine pwp_seq <| kx [(4, (vb ((x.fr == a) || (x.to_ == a))))] [] ?_ ?_
  · refine zE (oFr fo56_0) <| zR (oL1 sh3) <| zM <| zE oEq <| zE (oV (vb (x.fr == a)) (mv_ok (by kernel_rfl))) <| ?_
    rcases hb1 : (x.fr == a) with _ | _
    · replace hb1 := ne_of_beq_false hb1
      exact zE (oFr fo56_1) <| zR (oL1 sh3) <| zM <| zE oEq <| zE oPo <| zM <| zZ
    · replace hb1 := eq_of_beq hb1
      exact zK <| zK <| zK <| zK <| zE oPt <| zM <| zZ
  refine pwp_ret ⟨_, (.tmp (d := (.val (.bool (((x.fr == a) || (x.to_ == a)))))) rfl .nil), ?_⟩
  rfl
theorem l_other (x : REdge) (a : Int) (h1 : -1000 ≤ x.fr ∧ x.fr ≤ 1000) (h2 : -1000 ≤ x.to_ ∧ x.to_ ≤ 1000) (h3 : -1000 ≤ a ∧ a ≤ 1000) : Takes Tryz.prog 126 [(encEdge x), (.val (.int .i64 (a)))] (.val (.int .i64 ((x.fr + x.to_ - a)))) := by
  refine fn_intro Tryz.func126 rfl cb126 rfl ?_
  show PWp _ _ _ _ ⟨[(0, (.d (encEdge x))), (1, (vi a))], []⟩
  refine pwp_seq <| kx [(2, (.ref 0 0))] [(0, some (bx (encEdge x)))] (zN (oBx 0) <| zM <| zZ) ?_
  refine pwp_seq <| kx [(4, (vi ((x.fr + x.to_) - a)))] [] (zE (oFr fo56_0) <| zR (oL1 sh3) <| zE (oFr fo56_1) <| zR (oL1 sh3) <| zE (zAd (x.fr + x.to_) (hr := by exact (wAny rfl (by simp only [kLo]; omega) (by simp only [kHi]; omega)))) <| zM <| zE (zSb ((x.fr + x.to_) - a) (hr := by exact (wAny rfl (by simp only [kLo]; omega) (by simp only [kHi]; omega)))) <| zM <| zZ) ?_
  refine pwp_ret ⟨_, (.tmp (d := (.val (.int .i64 (((x.fr + x.to_) - a))))) rfl .nil), ?_⟩
  rfl
theorem l_along (es : List REdge) (k : Nat) (a : Int) (hk : k < es.length) (hb : es.length ≤ 1000000) : Takes Tryz.prog 127 [(.sl 56 6 (List.map encEdge es)), (.val (.int .i64 (((k : Nat) : Int)))), (.val (.int .i64 (a)))] (.val (.int .i64 ((alI (es.getD k (REdge.mk 0 0 (RQuat.mk 0 0 0 0))).fr a ((k : Nat) : Int))))) := by
  refine fn_intro Tryz.func127 rfl cb127 rfl ?_
  show PWp _ _ _ _ ⟨[(0, (vl 56 6 encEdge es)), (1, (vin k)), (2, (vi a))], []⟩
  refine pwp_seq <| kx [] [] (zM <| zZ) ?_
  refine pwp_seq <| pwp_seq <| kx [(13, (vb ((es.getD k (REdge.mk 0 0 (RQuat.mk 0 0 0 0))).fr == a)))] [] (zM <| zM <| zE (oXl el39 k (REdge.mk 0 0 (RQuat.mk 0 0 0 0))) <| zE (oFc fo56_0) <| zE (oC1 sh3) <| zM <| zE oEq <| zZ) ?_
  refine pwp_cond rfl (fun h1 => ?_) (fun h1 => ?_)
  · replace h1 := eq_of_beq h1
    refine pwp_seq <| kx [(6, (vin k))] [] (zM <| zM <| zZ) ?_
    refine pwp_ret ⟨_, (.tmp (d := (.val (.int .i64 (((k : Nat) : Int))))) rfl .nil), ?_⟩
    unfold alI; rw [if_pos h1]; rfl
  · replace h1 := ne_of_beq_false h1
    refine pwp_skip <| pwp_seq <| kx [(6, (vi (-1 - ((k : Nat) : Int))))] [] (zM <| zE (zSb (-1 - ((k : Nat) : Int)) (hr := by exact (wAny (by first | omega | rfl | (dsimp only; omega)) (by simp only [kLo]; omega) (by simp only [kHi]; omega)))) <| zM <| zZ) ?_
    refine pwp_ret ⟨_, (.tmp (d := (.val (.int .i64 ((-1 - ((k : Nat) : Int)))))) rfl .nil), ?_⟩
    unfold alI; rw [if_neg h1]; rfl
end Go.Proofs.YtihgdjljnaekmaaGreat
namespace Go.Proofs.YtihgdjljnaekmaaGreat
open Go.Fid
set_option maxRecDepth 4000
set_option linter.unusedVariables false
set_option linter.unusedSimpArgs false
theorem by70 : bytesB Tryz.prog 70 = some 24 := by kernel_rfl
theorem cb72 : callB Tryz.prog 72 = true := by kernel_rfl
theorem el63 : elemB Tryz.prog 63 = some (70, 3) := by kernel_rfl
theorem ze70 : zeroB Tryz.prog 70 = some [.int .i64 0, .int .i64 0, .int .i64 0] := by kernel_rfl
theorem zo70 : ZOk [.int .i64 0, .int .i64 0, .int .i64 0] [.val (.int .i64 0), .val (.int .i64 0), .val (.int .i64 0)] := by simp [ZOk, Value.oneCell']
theorem l_tris (es : List REdge) (n : Nat) (heo : EsOk n es) (hn : n ≤ 64) (hl2 : es.length ≤ 256) : Takes Tryz.prog 72 [(.sl 56 6 (List.map encEdge es))] (.tup [(.sl 70 3 (List.map encA70 (List.map t3 (tris es)))), (.sl 70 3 (List.map encA70 (List.map (w3 es) (tris es))))]) := by
  refine fn_intro Tryz.func72 rfl cb72 rfl ?_
  show PWp _ _ _ _ ⟨[(0, (vl 56 6 encEdge es))], []⟩
  refine pwp_seq <| kx [(2, (.own 0 70 3 0)), (3, (.own 1 70 3 0))] [(0, some (bxs encA70 [])), (1, some (bxs encA70 []))] (zO 0 70 3 <| zO 1 70 3 <| zZ) ?_
  refine pwp_seq <| pwp_seq <| kx [(13, (vl 56 6 encEdge es)), (14, (vin es.length)), (15, (vin 0))] [] (zM <| zE (oLm el39) <| zM <| zZ) ?_
  refine pwp_block <| pwp_loop (α := Nat × List (A3 (Int)) × List (A3 (Int))) (fun (i, out, wks) => ⟨[(0, (vl 56 6 encEdge es)), (2, (.own 0 70 3 out.length)), (3, (.own 1 70 3 wks.length)), (13, (vl 56 6 encEdge es)), (14, (vin es.length)), (15, (vin i))], [(0, some (bxs encA70 out)), (1, some (bxs encA70 wks))]⟩) (fun (i, out, wks) => i ≤ es.length ∧ out = List.map t3 (tAll es i) ∧ wks = List.map (w3 es) (tAll es i)) (fun (i, out, wks) => es.length - i) (0, [], []) wk ⟨Nat.zero_le _, rfl, rfl⟩ ?_
  rintro ⟨i, out, wks⟩ ⟨hi, ho, hwk⟩
  refine pwp_seq <| kx [(16, (vb (decide (((i : Nat) : Int) < ((es.length : Nat) : Int)))))] [] (zE oLt <| zZ) ?_
  refine pwp_seq <| pwp_cond rfl (fun h1 => ?_) (fun h1 => ?_)
  · replace h1 := of_decide_eq_true h1
    have hei : EOkE n (es.getD i (REdge.mk 0 0 (RQuat.mk 0 0 0 0))) := eget heo (k := i) (by omega)
    obtain ⟨hei1, hei2, hei3, hei4, hei5, _⟩ := id hei
    refine pwp_skip <| pwp_seq <| pwp_block <| pwp_seq <| kx [(4, (vin i)), (5, (.ref 2 0))] [(2, some (bx (encEdge (es.getD i (REdge.mk 0 0 (RQuat.mk 0 0 0 0))))))] (zM <| zE (oXl el39 i (REdge.mk 0 0 (RQuat.mk 0 0 0 0))) <| zE (oCa sh56) <| zH (oAl 2 ze56 zo56) <| zM <| zT (oSt sh56) <| zZ) ?_
    refine pwp_scope ?_
    refine pwp_seq <| pwp_label ?_
    refine pwp_seq <| kx [(6, (vin (i + 1)))] [] (zM <| zE (oAd (i + 1)) <| zM <| zZ) ?_
    refine pwp_block <| pwp_loop (α := Nat × List (A3 (Int)) × List (A3 (Int))) (fun (j, out, wks) => ⟨[(0, (vl 56 6 encEdge es)), (2, (.own 0 70 3 out.length)), (3, (.own 1 70 3 wks.length)), (4, (vin i)), (5, (.ref 2 0)), (6, (vin j)), (13, (vl 56 6 encEdge es)), (14, (vin es.length)), (15, (vin i))], [(0, some (bxs encA70 out)), (1, some (bxs encA70 wks)), (2, some (bx (encEdge (es.getD i (REdge.mk 0 0 (RQuat.mk 0 0 0 0))))))]⟩) (fun (j, out, wks) => i < j ∧ j ≤ es.length ∧ out = List.map t3 (tAll es i ++ tMid es i j) ∧ wks = List.map (w3 es) (tAll es i ++ tMid es i j)) (fun (j, out, wks) => es.length - j) (i + 1, out, wks) wk ⟨by omega, by omega, by rw [tMid_0, List.append_nil]; exact ho, by rw [tMid_0, List.append_nil]; exact hwk⟩ ?_
    rintro ⟨j, out, wks⟩ ⟨hij, hj, ho, hwk⟩
    refine pwp_seq <| pwp_seq <| kx [(25, (vb (decide (((j : Nat) : Int) < ((es.length : Nat) : Int)))))] [] (zM <| zM <| zE (oLm el39) <| zE oLt <| zZ) ?_
    refine pwp_cond rfl (fun h2 => ?_) (fun h2 => ?_)
    · replace h2 := of_decide_eq_true h2
      have hej : EOkE n (es.getD j (REdge.mk 0 0 (RQuat.mk 0 0 0 0))) := eget heo (k := j) (by omega)
      obtain ⟨hej1, hej2, hej3, hej4, hej5, _⟩ := id hej
      refine pwp_skip <| pwp_seq <| pwp_block <| pwp_seq <| kx [(7, (.ref 3 0))] [(3, some (bx (encEdge (es.getD j (REdge.mk 0 0 (RQuat.mk 0 0 0 0))))))] (zM <| zM <| zE (oXl el39 j (REdge.mk 0 0 (RQuat.mk 0 0 0 0))) <| zE (oCa sh56) <| zH (oAl 3 ze56 zo56) <| zT (oSt sh56) <| zZ) ?_
      refine pwp_seq <| kx [(8, (vi ((es.getD i (REdge.mk 0 0 (RQuat.mk 0 0 0 0))).fr)))] [] (zE (oFr fo56_0) <| zR (oL1 sh3) <| zM <| zZ) ?_
      refine pwp_seq <| pwp_block <| pwp_seq <| kx [(34, (vb (jnB (es.getD j (REdge.mk 0 0 (RQuat.mk 0 0 0 0))).fr (es.getD j (REdge.mk 0 0 (RQuat.mk 0 0 0 0))).to_ ((es.getD i (REdge.mk 0 0 (RQuat.mk 0 0 0 0))).fr) ((es.getD i (REdge.mk 0 0 (RQuat.mk 0 0 0 0))).to_))))] [] (zR (oLa sh56) <| zE (oFr fo56_0) <| zR (oL1 sh3) <| zE (oFr fo56_1) <| zR (oL1 sh3) <| zE (oCl (l_joins (es.getD j (REdge.mk 0 0 (RQuat.mk 0 0 0 0))) ((es.getD i (REdge.mk 0 0 (RQuat.mk 0 0 0 0))).fr) ((es.getD i (REdge.mk 0 0 (RQuat.mk 0 0 0 0))).to_))) <| zM <| zZ) ?_
      refine pwp_cond rfl (fun h3 => ?_) (fun h3 => ?_)
      · refine pwp_exit <| kx [(6, (vin (j + 1)))] [] (zM <| zE (oAd (j + 1)) <| zM <| zZ) ?_
        exact ⟨(j + 1, out, wks), wk, ⟨by omega, by omega, by rw [tMid_s (by omega), tIn_nil (fun m => trN1 h3), List.append_nil]; exact ho, by rw [tMid_s (by omega), tIn_nil (fun m => trN1 h3), List.append_nil]; exact hwk⟩, (by first | omega | (dsimp only; omega))⟩
      · refine pwp_seq <| kx [(41, (vb (hsB (es.getD j (REdge.mk 0 0 (RQuat.mk 0 0 0 0))).fr (es.getD j (REdge.mk 0 0 (RQuat.mk 0 0 0 0))).to_ ((es.getD i (REdge.mk 0 0 (RQuat.mk 0 0 0 0))).to_))))] [] (zR (oLa sh56) <| zE (oFr fo56_1) <| zR (oL1 sh3) <| zE (oCl (l_has (es.getD j (REdge.mk 0 0 (RQuat.mk 0 0 0 0))) ((es.getD i (REdge.mk 0 0 (RQuat.mk 0 0 0 0))).to_))) <| zM <| zZ) ?_
        refine pwp_cond rfl (fun h4 => ?_) (fun h4 => ?_)
        · refine kx [(8, (vi ((es.getD i (REdge.mk 0 0 (RQuat.mk 0 0 0 0))).to_)))] [] (zE (oFr fo56_1) <| zR (oL1 sh3) <| zM <| zZ) ?_
          refine pwp_seq <| kx [(9, (vi ((es.getD j (REdge.mk 0 0 (RQuat.mk 0 0 0 0))).fr + (es.getD j (REdge.mk 0 0 (RQuat.mk 0 0 0 0))).to_ - ((es.getD i (REdge.mk 0 0 (RQuat.mk 0 0 0 0))).to_))))] [] (zR (oLa sh56) <| zM <| zE (oCl (l_other (es.getD j (REdge.mk 0 0 (RQuat.mk 0 0 0 0))) ((es.getD i (REdge.mk 0 0 (RQuat.mk 0 0 0 0))).to_) (by omega) (by omega) (by omega))) <| zM <| zZ) ?_
          refine pwp_seq <| kx [(10, (vin (j + 1)))] [] (zM <| zE (oAd (j + 1)) <| zM <| zZ) ?_
          refine pwp_block <| pwp_loop (α := Nat × List (A3 (Int)) × List (A3 (Int))) (fun (k, out, wks) => ⟨[(0, (vl 56 6 encEdge es)), (2, (.own 0 70 3 out.length)), (3, (.own 1 70 3 wks.length)), (4, (vin i)), (5, (.ref 2 0)), (6, (vin j)), (8, (vi ((es.getD i (REdge.mk 0 0 (RQuat.mk 0 0 0 0))).to_))), (9, (vi ((es.getD j (REdge.mk 0 0 (RQuat.mk 0 0 0 0))).fr + (es.getD j (REdge.mk 0 0 (RQuat.mk 0 0 0 0))).to_ - ((es.getD i (REdge.mk 0 0 (RQuat.mk 0 0 0 0))).to_)))), (10, (vin k)), (13, (vl 56 6 encEdge es)), (14, (vin es.length)), (15, (vin i))], [(0, some (bxs encA70 out)), (1, some (bxs encA70 wks)), (2, some (bx (encEdge (es.getD i (REdge.mk 0 0 (RQuat.mk 0 0 0 0))))))]⟩) (fun (k, out, wks) => j < k ∧ k ≤ es.length ∧ out = List.map t3 (tAll es i ++ tMid es i j ++ tIn es i j k) ∧ wks = List.map (w3 es) (tAll es i ++ tMid es i j ++ tIn es i j k)) (fun (k, out, wks) => es.length - k) (j + 1, out, wks) wk ⟨by omega, by omega, by rw [tIn_0, List.append_nil]; exact ho, by rw [tIn_0, List.append_nil]; exact hwk⟩ ?_
          rintro ⟨k, out, wks⟩ ⟨hjk, hk, ho, hwk⟩
          have hrm := t_room (es := es) (i := i) (j := j) (k := k) hl2 (by omega) (by omega) (by omega)
          have hlo : out.length ≤ 20000000 := by rw [ho, List.length_map]; simp only [List.length_append] at hrm ⊢; omega
          have hlw : wks.length ≤ 20000000 := by rw [hwk, List.length_map]; simp only [List.length_append] at hrm ⊢; omega
          refine pwp_seq <| pwp_seq <| kx [(62, (vb (decide (((k : Nat) : Int) < ((es.length : Nat) : Int)))))] [] (zM <| zM <| zE (oLm el39) <| zE oLt <| zZ) ?_
          refine pwp_cond rfl (fun h5 => ?_) (fun h5 => ?_)
          · replace h5 := of_decide_eq_true h5
            have hek : EOkE n (es.getD k (REdge.mk 0 0 (RQuat.mk 0 0 0 0))) := eget heo (k := k) (by omega)
            obtain ⟨hek1, hek2, hek3, hek4, hek5, _⟩ := id hek
            refine pwp_skip <| pwp_seq <| pwp_block <| pwp_seq <| pwp_seq <| kd [(74, (vb (!(jnB (es.getD k (REdge.mk 0 0 (RQuat.mk 0 0 0 0))).fr (es.getD k (REdge.mk 0 0 (RQuat.mk 0 0 0 0))).to_ ((es.getD i (REdge.mk 0 0 (RQuat.mk 0 0 0 0))).fr + (es.getD i (REdge.mk 0 0 (RQuat.mk 0 0 0 0))).to_ - ((es.getD i (REdge.mk 0 0 (RQuat.mk 0 0 0 0))).to_)) ((es.getD j (REdge.mk 0 0 (RQuat.mk 0 0 0 0))).fr + (es.getD j (REdge.mk 0 0 (RQuat.mk 0 0 0 0))).to_ - ((es.getD i (REdge.mk 0 0 (RQuat.mk 0 0 0 0))).to_))))))] [] mo (wM <| wM <| wE (oXl el39 k (REdge.mk 0 0 (RQuat.mk 0 0 0 0))) <| wE (oCa sh56) <| wR (oLa sh56) <| wM <| wE (oCl (l_other (es.getD i (REdge.mk 0 0 (RQuat.mk 0 0 0 0))) ((es.getD i (REdge.mk 0 0 (RQuat.mk 0 0 0 0))).to_) (by omega) (by omega) (by omega))) <| wM <| wE (oCl (l_joins (es.getD k (REdge.mk 0 0 (RQuat.mk 0 0 0 0))) ((es.getD i (REdge.mk 0 0 (RQuat.mk 0 0 0 0))).fr + (es.getD i (REdge.mk 0 0 (RQuat.mk 0 0 0 0))).to_ - ((es.getD i (REdge.mk 0 0 (RQuat.mk 0 0 0 0))).to_)) ((es.getD j (REdge.mk 0 0 (RQuat.mk 0 0 0 0))).fr + (es.getD j (REdge.mk 0 0 (RQuat.mk 0 0 0 0))).to_ - ((es.getD i (REdge.mk 0 0 (RQuat.mk 0 0 0 0))).to_)))) <| wE oNt <| wZ) ?_
            refine pwp_cond rfl (fun h6 => ?_) (fun h6 => ?_)
            · refine pwp_exit <| kx [(10, (vin (k + 1)))] [] (zM <| zE (oAd (k + 1)) <| zM <| zZ) ?_
              exact ⟨(k + 1, out, wks), wk, ⟨by omega, by omega, by rw [tIn_n ((trA (k := k) h3 h4).1.trans (bn_t h6))]; exact ho, by rw [tIn_n ((trA (k := k) h3 h4).1.trans (bn_t h6))]; exact hwk⟩, (by first | omega | (dsimp only; omega))⟩
            · refine pwp_skip <| pwp_seq <| kf [(2, (.own 0 70 3 ((out ++ [(A3.mk ((i : Nat) : Int) ((j : Nat) : Int) ((k : Nat) : Int))]).length)))] [(0, some (bxs encA70 (out ++ [(A3.mk ((i : Nat) : Int) ((j : Nat) : Int) ((k : Nat) : Int))])))] (zM <| zM <| zM <| zM <| zE (oBf ar70 ze70 zo70) <| zE (oBs el63 ze70 zo70) <| zAS encA70 out [(A3.mk ((i : Nat) : Int) ((j : Nat) : Int) ((k : Nat) : Int))] rfl el63 ze70 by70 <| zM <| zF) ?_
              refine pwp_seq <| kx [(11, (vin j)), (12, (vin k))] [] (zM <| zM <| zM <| zM <| zZ) ?_
              refine pwp_seq <| pwp_seq <| kx [(87, (vb false))] [] (zM <| zE (oFr fo56_0) <| zR (oL1 sh3) <| zE (oBk false oEq (by exact beq_eq_false_iff_ne.2 (fun e => hei5 e.symm))) <| zZ) ?_
              refine pwp_cond (b := false) (by kernel_rfl) (fun h => by cases h) (fun _ => ?_)
              refine pwp_skip <| kf [(3, (.own 1 70 3 ((wks ++ [(A3.mk ((i : Nat) : Int) (alI (es.getD j (REdge.mk 0 0 (RQuat.mk 0 0 0 0))).fr ((es.getD i (REdge.mk 0 0 (RQuat.mk 0 0 0 0))).to_) ((j : Nat) : Int)) (alI (es.getD k (REdge.mk 0 0 (RQuat.mk 0 0 0 0))).fr ((es.getD j (REdge.mk 0 0 (RQuat.mk 0 0 0 0))).fr + (es.getD j (REdge.mk 0 0 (RQuat.mk 0 0 0 0))).to_ - ((es.getD i (REdge.mk 0 0 (RQuat.mk 0 0 0 0))).to_)) ((k : Nat) : Int)))]).length)))] [(1, some (bxs encA70 (wks ++ [(A3.mk ((i : Nat) : Int) (alI (es.getD j (REdge.mk 0 0 (RQuat.mk 0 0 0 0))).fr ((es.getD i (REdge.mk 0 0 (RQuat.mk 0 0 0 0))).to_) ((j : Nat) : Int)) (alI (es.getD k (REdge.mk 0 0 (RQuat.mk 0 0 0 0))).fr ((es.getD j (REdge.mk 0 0 (RQuat.mk 0 0 0 0))).fr + (es.getD j (REdge.mk 0 0 (RQuat.mk 0 0 0 0))).to_ - ((es.getD i (REdge.mk 0 0 (RQuat.mk 0 0 0 0))).to_)) ((k : Nat) : Int)))])))] (zM <| zM <| zM <| zM <| zE (oFr fo56_1) <| zR (oL1 sh3) <| zE (oCl (l_along es j ((es.getD i (REdge.mk 0 0 (RQuat.mk 0 0 0 0))).to_) (by omega) (by omega))) <| zM <| zM <| zM <| zE (oCl (l_along es k ((es.getD j (REdge.mk 0 0 (RQuat.mk 0 0 0 0))).fr + (es.getD j (REdge.mk 0 0 (RQuat.mk 0 0 0 0))).to_ - ((es.getD i (REdge.mk 0 0 (RQuat.mk 0 0 0 0))).to_)) (by omega) (by omega))) <| zE (oBf ar70 ze70 zo70) <| zE (oBs el63 ze70 zo70) <| zAS encA70 wks [(A3.mk ((i : Nat) : Int) (alI (es.getD j (REdge.mk 0 0 (RQuat.mk 0 0 0 0))).fr ((es.getD i (REdge.mk 0 0 (RQuat.mk 0 0 0 0))).to_) ((j : Nat) : Int)) (alI (es.getD k (REdge.mk 0 0 (RQuat.mk 0 0 0 0))).fr ((es.getD j (REdge.mk 0 0 (RQuat.mk 0 0 0 0))).fr + (es.getD j (REdge.mk 0 0 (RQuat.mk 0 0 0 0))).to_ - ((es.getD i (REdge.mk 0 0 (RQuat.mk 0 0 0 0))).to_)) ((k : Nat) : Int)))] rfl el63 ze70 by70 <| zM <| zF) ?_
              refine kx [(10, (vin (k + 1)))] [] (zM <| zE (oAd (k + 1)) <| zM <| zZ) ?_
              exact ⟨(k + 1, out ++ [A3.mk ((i : Nat) : Int) ((j : Nat) : Int) ((k : Nat) : Int)], wks ++ [A3.mk ((i : Nat) : Int) (alI (es.getD j (REdge.mk 0 0 (RQuat.mk 0 0 0 0))).fr (es.getD i (REdge.mk 0 0 (RQuat.mk 0 0 0 0))).to_ ((j : Nat) : Int)) (alI (es.getD k (REdge.mk 0 0 (RQuat.mk 0 0 0 0))).fr ((es.getD j (REdge.mk 0 0 (RQuat.mk 0 0 0 0))).fr + (es.getD j (REdge.mk 0 0 (RQuat.mk 0 0 0 0))).to_ - (es.getD i (REdge.mk 0 0 (RQuat.mk 0 0 0 0))).to_) ((k : Nat) : Int))]), wk, ⟨by omega, by omega, by rw [tIn_y (by omega) ((trA (k := k) h3 h4).1.trans (bn_f h6)), ← List.append_assoc]; exact t_push ho rfl, by rw [tIn_y (by omega) ((trA (k := k) h3 h4).1.trans (bn_f h6)), ← List.append_assoc]; refine t_push hwk ?_; unfold w3; rw [(trA (k := k) h3 h4).2]; rfl⟩, (by first | omega | (dsimp only; omega))⟩
          · replace h5 := of_decide_eq_false h5
            refine pwp_exit <| kx [(6, (vin (j + 1)))] [] (zM <| zE (oAd (j + 1)) <| zM <| zZ) ?_
            exact ⟨(j + 1, out, wks), wk, ⟨by omega, by omega, by rw [tMid_s (by omega), ← List.append_assoc, ← show k = es.length by omega]; exact ho, by rw [tMid_s (by omega), ← List.append_assoc, ← show k = es.length by omega]; exact hwk⟩, (by first | omega | (dsimp only; omega))⟩
        · refine pwp_seq <| kx [(48, (vb (!(hsB (es.getD j (REdge.mk 0 0 (RQuat.mk 0 0 0 0))).fr (es.getD j (REdge.mk 0 0 (RQuat.mk 0 0 0 0))).to_ ((es.getD i (REdge.mk 0 0 (RQuat.mk 0 0 0 0))).fr)))))] [] (zR (oLa sh56) <| zE (oFr fo56_0) <| zR (oL1 sh3) <| zE (oCl (l_has (es.getD j (REdge.mk 0 0 (RQuat.mk 0 0 0 0))) ((es.getD i (REdge.mk 0 0 (RQuat.mk 0 0 0 0))).fr))) <| zE oNt <| zM <| zZ) ?_
          refine pwp_cond rfl (fun h7 => ?_) (fun h7 => ?_)
          · refine pwp_exit <| kx [(6, (vin (j + 1)))] [] (zM <| zE (oAd (j + 1)) <| zM <| zZ) ?_
            exact ⟨(j + 1, out, wks), wk, ⟨by omega, by omega, by rw [tMid_s (by omega), tIn_nil (fun m => trN2 h4 (bn_t h7)), List.append_nil]; exact ho, by rw [tMid_s (by omega), tIn_nil (fun m => trN2 h4 (bn_t h7)), List.append_nil]; exact hwk⟩, (by first | omega | (dsimp only; omega))⟩
          · refine pwp_skip <| pwp_seq <| kx [(9, (vi ((es.getD j (REdge.mk 0 0 (RQuat.mk 0 0 0 0))).fr + (es.getD j (REdge.mk 0 0 (RQuat.mk 0 0 0 0))).to_ - ((es.getD i (REdge.mk 0 0 (RQuat.mk 0 0 0 0))).fr))))] [] (zR (oLa sh56) <| zM <| zE (oCl (l_other (es.getD j (REdge.mk 0 0 (RQuat.mk 0 0 0 0))) ((es.getD i (REdge.mk 0 0 (RQuat.mk 0 0 0 0))).fr) (by omega) (by omega) (by omega))) <| zM <| zZ) ?_
            refine pwp_seq <| kx [(10, (vin (j + 1)))] [] (zM <| zE (oAd (j + 1)) <| zM <| zZ) ?_
            refine pwp_block <| pwp_loop (α := Nat × List (A3 (Int)) × List (A3 (Int))) (fun (k, out, wks) => ⟨[(0, (vl 56 6 encEdge es)), (2, (.own 0 70 3 out.length)), (3, (.own 1 70 3 wks.length)), (4, (vin i)), (5, (.ref 2 0)), (6, (vin j)), (8, (vi ((es.getD i (REdge.mk 0 0 (RQuat.mk 0 0 0 0))).fr))), (9, (vi ((es.getD j (REdge.mk 0 0 (RQuat.mk 0 0 0 0))).fr + (es.getD j (REdge.mk 0 0 (RQuat.mk 0 0 0 0))).to_ - ((es.getD i (REdge.mk 0 0 (RQuat.mk 0 0 0 0))).fr)))), (10, (vin k)), (13, (vl 56 6 encEdge es)), (14, (vin es.length)), (15, (vin i))], [(0, some (bxs encA70 out)), (1, some (bxs encA70 wks)), (2, some (bx (encEdge (es.getD i (REdge.mk 0 0 (RQuat.mk 0 0 0 0))))))]⟩) (fun (k, out, wks) => j < k ∧ k ≤ es.length ∧ out = List.map t3 (tAll es i ++ tMid es i j ++ tIn es i j k) ∧ wks = List.map (w3 es) (tAll es i ++ tMid es i j ++ tIn es i j k)) (fun (k, out, wks) => es.length - k) (j + 1, out, wks) wk ⟨by omega, by omega, by rw [tIn_0, List.append_nil]; exact ho, by rw [tIn_0, List.append_nil]; exact hwk⟩ ?_
            rintro ⟨k, out, wks⟩ ⟨hjk, hk, ho, hwk⟩
            have hrm := t_room (es := es) (i := i) (j := j) (k := k) hl2 (by omega) (by omega) (by omega)
            have hlo : out.length ≤ 20000000 := by rw [ho, List.length_map]; simp only [List.length_append] at hrm ⊢; omega
            have hlw : wks.length ≤ 20000000 := by rw [hwk, List.length_map]; simp only [List.length_append] at hrm ⊢; omega
            refine pwp_seq <| pwp_seq <| kx [(62, (vb (decide (((k : Nat) : Int) < ((es.length : Nat) : Int)))))] [] (zM <| zM <| zE (oLm el39) <| zE oLt <| zZ) ?_
            refine pwp_cond rfl (fun h8 => ?_) (fun h8 => ?_)
            · replace h8 := of_decide_eq_true h8
              have hek : EOkE n (es.getD k (REdge.mk 0 0 (RQuat.mk 0 0 0 0))) := eget heo (k := k) (by omega)
              obtain ⟨hek1, hek2, hek3, hek4, hek5, _⟩ := id hek
              refine pwp_skip <| pwp_seq <| pwp_block <| pwp_seq <| pwp_seq <| kd [(74, (vb (!(jnB (es.getD k (REdge.mk 0 0 (RQuat.mk 0 0 0 0))).fr (es.getD k (REdge.mk 0 0 (RQuat.mk 0 0 0 0))).to_ ((es.getD i (REdge.mk 0 0 (RQuat.mk 0 0 0 0))).fr + (es.getD i (REdge.mk 0 0 (RQuat.mk 0 0 0 0))).to_ - ((es.getD i (REdge.mk 0 0 (RQuat.mk 0 0 0 0))).fr)) ((es.getD j (REdge.mk 0 0 (RQuat.mk 0 0 0 0))).fr + (es.getD j (REdge.mk 0 0 (RQuat.mk 0 0 0 0))).to_ - ((es.getD i (REdge.mk 0 0 (RQuat.mk 0 0 0 0))).fr))))))] [] mo (wM <| wM <| wE (oXl el39 k (REdge.mk 0 0 (RQuat.mk 0 0 0 0))) <| wE (oCa sh56) <| wR (oLa sh56) <| wM <| wE (oCl (l_other (es.getD i (REdge.mk 0 0 (RQuat.mk 0 0 0 0))) ((es.getD i (REdge.mk 0 0 (RQuat.mk 0 0 0 0))).fr) (by omega) (by omega) (by omega))) <| wM <| wE (oCl (l_joins (es.getD k (REdge.mk 0 0 (RQuat.mk 0 0 0 0))) ((es.getD i (REdge.mk 0 0 (RQuat.mk 0 0 0 0))).fr + (es.getD i (REdge.mk 0 0 (RQuat.mk 0 0 0 0))).to_ - ((es.getD i (REdge.mk 0 0 (RQuat.mk 0 0 0 0))).fr)) ((es.getD j (REdge.mk 0 0 (RQuat.mk 0 0 0 0))).fr + (es.getD j (REdge.mk 0 0 (RQuat.mk 0 0 0 0))).to_ - ((es.getD i (REdge.mk 0 0 (RQuat.mk 0 0 0 0))).fr)))) <| wE oNt <| wZ) ?_
              refine pwp_cond rfl (fun h9 => ?_) (fun h9 => ?_)
              · refine pwp_exit <| kx [(10, (vin (k + 1)))] [] (zM <| zE (oAd (k + 1)) <| zM <| zZ) ?_
                exact ⟨(k + 1, out, wks), wk, ⟨by omega, by omega, by rw [tIn_n ((trC (k := k) h3 h4 (bn_f h7)).1.trans (bn_t h9))]; exact ho, by rw [tIn_n ((trC (k := k) h3 h4 (bn_f h7)).1.trans (bn_t h9))]; exact hwk⟩, (by first | omega | (dsimp only; omega))⟩
              · refine pwp_skip <| pwp_seq <| kf [(2, (.own 0 70 3 ((out ++ [(A3.mk ((i : Nat) : Int) ((j : Nat) : Int) ((k : Nat) : Int))]).length)))] [(0, some (bxs encA70 (out ++ [(A3.mk ((i : Nat) : Int) ((j : Nat) : Int) ((k : Nat) : Int))])))] (zM <| zM <| zM <| zM <| zE (oBf ar70 ze70 zo70) <| zE (oBs el63 ze70 zo70) <| zAS encA70 out [(A3.mk ((i : Nat) : Int) ((j : Nat) : Int) ((k : Nat) : Int))] rfl el63 ze70 by70 <| zM <| zF) ?_
                refine pwp_seq <| kx [(11, (vin j)), (12, (vin k))] [] (zM <| zM <| zM <| zM <| zZ) ?_
                refine pwp_seq <| pwp_seq <| kx [(87, (vb true))] [] (zM <| zE (oFr fo56_0) <| zR (oL1 sh3) <| zE (oBk true oEq (by exact beq_self_eq_true _)) <| zZ) ?_
                refine pwp_cond (b := true) (by kernel_rfl) (fun _ => ?_) (fun h => by cases h)
                refine kx [(11, (vin k)), (12, (vin j))] [] (zM <| zM <| zM <| zM <| zZ) ?_
                refine kf [(3, (.own 1 70 3 ((wks ++ [(A3.mk ((i : Nat) : Int) (alI (es.getD k (REdge.mk 0 0 (RQuat.mk 0 0 0 0))).fr ((es.getD i (REdge.mk 0 0 (RQuat.mk 0 0 0 0))).to_) ((k : Nat) : Int)) (alI (es.getD j (REdge.mk 0 0 (RQuat.mk 0 0 0 0))).fr ((es.getD j (REdge.mk 0 0 (RQuat.mk 0 0 0 0))).fr + (es.getD j (REdge.mk 0 0 (RQuat.mk 0 0 0 0))).to_ - ((es.getD i (REdge.mk 0 0 (RQuat.mk 0 0 0 0))).fr)) ((j : Nat) : Int)))]).length)))] [(1, some (bxs encA70 (wks ++ [(A3.mk ((i : Nat) : Int) (alI (es.getD k (REdge.mk 0 0 (RQuat.mk 0 0 0 0))).fr ((es.getD i (REdge.mk 0 0 (RQuat.mk 0 0 0 0))).to_) ((k : Nat) : Int)) (alI (es.getD j (REdge.mk 0 0 (RQuat.mk 0 0 0 0))).fr ((es.getD j (REdge.mk 0 0 (RQuat.mk 0 0 0 0))).fr + (es.getD j (REdge.mk 0 0 (RQuat.mk 0 0 0 0))).to_ - ((es.getD i (REdge.mk 0 0 (RQuat.mk 0 0 0 0))).fr)) ((j : Nat) : Int)))])))] (zM <| zM <| zM <| zM <| zE (oFr fo56_1) <| zR (oL1 sh3) <| zE (oCl (l_along es k ((es.getD i (REdge.mk 0 0 (RQuat.mk 0 0 0 0))).to_) (by omega) (by omega))) <| zM <| zM <| zM <| zE (oCl (l_along es j ((es.getD j (REdge.mk 0 0 (RQuat.mk 0 0 0 0))).fr + (es.getD j (REdge.mk 0 0 (RQuat.mk 0 0 0 0))).to_ - ((es.getD i (REdge.mk 0 0 (RQuat.mk 0 0 0 0))).fr)) (by omega) (by omega))) <| zE (oBf ar70 ze70 zo70) <| zE (oBs el63 ze70 zo70) <| zAS encA70 wks [(A3.mk ((i : Nat) : Int) (alI (es.getD k (REdge.mk 0 0 (RQuat.mk 0 0 0 0))).fr ((es.getD i (REdge.mk 0 0 (RQuat.mk 0 0 0 0))).to_) ((k : Nat) : Int)) (alI (es.getD j (REdge.mk 0 0 (RQuat.mk 0 0 0 0))).fr ((es.getD j (REdge.mk 0 0 (RQuat.mk 0 0 0 0))).fr + (es.getD j (REdge.mk 0 0 (RQuat.mk 0 0 0 0))).to_ - ((es.getD i (REdge.mk 0 0 (RQuat.mk 0 0 0 0))).fr)) ((j : Nat) : Int)))] rfl el63 ze70 by70 <| zM <| zF) ?_
                refine kx [(10, (vin (k + 1)))] [] (zM <| zE (oAd (k + 1)) <| zM <| zZ) ?_
                exact ⟨(k + 1, out ++ [A3.mk ((i : Nat) : Int) ((j : Nat) : Int) ((k : Nat) : Int)], wks ++ [A3.mk ((i : Nat) : Int) (alI (es.getD k (REdge.mk 0 0 (RQuat.mk 0 0 0 0))).fr (es.getD i (REdge.mk 0 0 (RQuat.mk 0 0 0 0))).to_ ((k : Nat) : Int)) (alI (es.getD j (REdge.mk 0 0 (RQuat.mk 0 0 0 0))).fr ((es.getD j (REdge.mk 0 0 (RQuat.mk 0 0 0 0))).fr + (es.getD j (REdge.mk 0 0 (RQuat.mk 0 0 0 0))).to_ - (es.getD i (REdge.mk 0 0 (RQuat.mk 0 0 0 0))).fr) ((j : Nat) : Int))]), wk, ⟨by omega, by omega, by rw [tIn_y (by omega) ((trC (k := k) h3 h4 (bn_f h7)).1.trans (bn_f h9)), ← List.append_assoc]; exact t_push ho rfl, by rw [tIn_y (by omega) ((trC (k := k) h3 h4 (bn_f h7)).1.trans (bn_f h9)), ← List.append_assoc]; refine t_push hwk ?_; unfold w3; rw [(trC (k := k) h3 h4 (bn_f h7)).2]; rfl⟩, (by first | omega | (dsimp only; omega))⟩
            · replace h8 := of_decide_eq_false h8
              refine pwp_exit <| kx [(6, (vin (j + 1)))] [] (zM <| zE (oAd (j + 1)) <| zM <| zZ) ?_
              exact ⟨(j + 1, out, wks), wk, ⟨by omega, by omega, by rw [tMid_s (by omega), ← List.append_assoc, ← show k = es.length by omega]; exact ho, by rw [tMid_s (by omega), ← List.append_assoc, ← show k = es.length by omega]; exact hwk⟩, (by first | omega | (dsimp only; omega))⟩
    · replace h2 := of_decide_eq_false h2
      refine pwp_exit <| kx [(15, (vin (i + 1)))] [] (zE (oAd (i + 1)) <| zM <| zZ) ?_
      exact ⟨(i + 1, out, wks), wk, ⟨by omega, by rw [tAll_s, ← show j = es.length by omega]; exact ho, by rw [tAll_s, ← show j = es.length by omega]; exact hwk⟩, (by first | omega | (dsimp only; omega))⟩
  · replace h1 := of_decide_eq_false h1
    refine pwp_exit <| pwp_seq <| pwp_sim (publish (t := 2) (k := 0) (es := List.map encA70 out) rfl rfl (pubs_cells _ _ (fun _ => rfl)) (map_len _ _ rfl) (pubs_take encA70 out (fun _ => rfl) rfl)) ?_
    refine pwp_sim (publish (t := 3) (k := 1) (es := List.map encA70 wks) rfl rfl (pubs_cells _ _ (fun _ => rfl)) (map_len _ _ rfl) (pubs_take encA70 wks (fun _ => rfl) rfl)) ?_
    refine kx [(2, (vl 70 3 encA70 out)), (3, (vl 70 3 encA70 wks))] [] (zM <| zM <| zM <| zM <| zZ) ?_
    refine pwp_ret ⟨_, (.tmp (d := (.sl 70 3 (List.map encA70 out))) rfl (.tmp (d := (.sl 70 3 (List.map encA70 wks))) rfl .nil)), ?_⟩
    rw [ho, hwk, show i = es.length by omega]; rfl
end Go.Proofs.YtihgdjljnaekmaaGreat
